/- What the trees come to: plain mathematics; no condition. -/
import Derived.Test.YtdcdnfcmllfmlaaGreatSmMath1
namespace Go.Proofs.YtdcdnfcmllfmlaaGreat
open Go Go.Sm Go.Sm.Q
set_option linter.unusedSimpArgs false
set_option linter.unusedVariables false
theorem dg_num {l : List Vr} {st : List Int} (hv : ∀ v ∈ l, vOk v) (hst : inR l st) : ∀ {j : Nat}, j ≤ l.length → dg (l.drop (l.length - j)) (num l st) = (numN l st (l.length - j), st.drop (l.length - j))
 | 0, _ => by
  have h1 : l.drop (l.length - 0) = [] := by simp
  have h2 : st.drop (l.length - 0) = [] := by rw [← hst.1]; simp
  rw [h1, h2]; rfl
 | j + 1, hj => by
  have ih := dg_num hv hst (j := j) (by omega)
  obtain ⟨k, hk⟩ : ∃ k, l.length - (j + 1) = k := ⟨_, rfl⟩
  have hk1 : l.length - j = k + 1 := by omega
  have hkl : k < l.length := by omega
  rw [hk1] at ih
  rw [hk, dg_next hkl, ih]
  have h1 := hst.2 k hkl
  have h3 := wd_ok (hv _ (getD_mem (d := (0, 0, 0)) hkl))
  have h6 : wd (l.getD k (0, 0, 0)) = (l.getD k (0, 0, 0)).2.1 - (l.getD k (0, 0, 0)).1 + 1 := rfl
  have hst1 := hst.1
  rw [drop_cons (l := st) (d := 0) (show k < st.length by omega)]
  simp only [numN]
  generalize wd (l.getD k (0, 0, 0)) = w at *
  generalize (l.getD k (0, 0, 0)) = v at *
  generalize st.getD k 0 = x at *
  generalize numN l st k = a at *
  have e : a * w + x - v.1 = (x - v.1) + a * w := by omega
  have e1 : (x - v.1 + a * w) / w = a := by rw [Int.add_mul_ediv_right _ _ (by omega), Int.ediv_eq_zero_of_lt (by omega) (by omega)]; omega
  have e2 : (x - v.1 + a * w) % w = x - v.1 := by rw [Int.add_mul_emod_self_right, Int.emod_eq_of_lt (by omega) (by omega)]
  rw [e, e1, e2]
  congr 2
  omega
theorem stAt_num {l : List Vr} {st : List Int} (hv : ∀ v ∈ l, vOk v) (hst : inR l st) : stAt l (num l st) = st := by
 have := dg_num hv hst (Nat.le_refl _)
 rw [Nat.sub_self, List.drop_zero, List.drop_zero] at this
 rw [stAt, this]
theorem nxtN_rule {s : Sy} {st x : List Int} : ∀ {k : Nat}, x ∈ nxtN s st k → ∃ r, r < k ∧ useM s.1 (s.2.getD r ([], [], [])) st = x ∧ x ≠ []
 | 0, h => by simp [nxtN] at h
 | k + 1, h => by
  simp only [nxtN] at h
  split at h
  ·obtain ⟨r, h1, h2⟩ := nxtN_rule h; exact ⟨r, by omega, h2⟩
  ·rename_i h1
   rcases putM_mem h with rfl | h
   ·exact ⟨k, by omega, rfl, h1⟩
   ·obtain ⟨r, h1, h2⟩ := nxtN_rule h; exact ⟨r, by omega, h2⟩
theorem step_rule {s : Sy} (h : valid s) {a k : Nat} (ha : a < szn s.1) (hk : (k : Int) ∈ (steps s).getD a []) : ∃ r, r < s.2.length ∧ useM s.1 (s.2.getD r ([], [], [])) (stN s a) = stN s k ∧ stN s k ≠ [] := by
 rw [steps, tab_get ha, stepR] at hk
 obtain ⟨x, h1, h2⟩ := List.mem_map.1 hk
 obtain ⟨r, h3, h4, h5⟩ := nxtN_rule h1
 have h6 : stN s k = x := by rw [stN, ← h2]; exact stAt_num h.2.2.1 (nxt_in x h1)
 exact ⟨r, h3, by rw [h6]; exact h4, by rw [h6]; exact h5⟩
def fst1 (p : Nat → Bool) : Nat → Int
 | 0 => -1
 | n + 1 => if 0 ≤ fst1 p n then fst1 p n else if p n = true then (n : Int) else -1
theorem fst1_none {p : Nat → Bool} : ∀ {n : Nat}, (∀ j, j < n → ¬ p j = true) → fst1 p n = -1
 | 0, _ => rfl
 | n + 1, h => by rw [fst1, fst1_none fun j hj => h j (by omega), if_neg (by omega), if_neg (h n (by omega))]
theorem fst1_hit {p : Nat → Bool} {i : Nat} (hp : p i = true) (h : ∀ j, j < i → ¬ p j = true) : ∀ {n : Nat}, i < n → fst1 p n = i
 | 0, hi => absurd hi (Nat.not_lt_zero _)
 | n + 1, hi => by
  rw [fst1]
  by_cases g : i < n
  ·rw [fst1_hit hp h g, if_pos (by omega)]
  ·have : i = n := by omega
   subst this
   rw [fst1_none h, if_neg (by omega), if_pos hp]
theorem fst1_ge {p : Nat → Bool} {i n : Nat} (hi : i < n) (hp : p i = true) : 0 ≤ fst1 p n := by
 obtain ⟨d, h1, h2⟩ := least (P := fun i => p i = true) ⟨i, hp⟩
 have : ¬ i < d := fun g => h2 i g hp
 rw [fst1_hit h1 h2 (show d < n by omega)]; omega
def rbt (s : Sy) (a b : List Int) : Int := fst1 (fun r => decide (useM s.1 (s.2.getD r ([], [], [])) a ≠ [] ∧ useM s.1 (s.2.getD r ([], [], [])) a = b)) s.2.length
theorem rbt_step {s : Sy} (h : valid s) {a k : Nat} (ha : a < szn s.1) (hk : (k : Int) ∈ (steps s).getD a []) : 0 ≤ rbt s (stN s a) (stN s k) := by
 obtain ⟨r, h1, h2, h3⟩ := step_rule h ha hk
 exact fst1_ge h1 (decide_eq_true ⟨by rw [h2]; exact h3, h2⟩)
def IsPrd (T : List (List Int)) (f : Nat → Int) (n k a : Nat) : Prop := a < n ∧ f a + 1 = f k ∧ (k : Int) ∈ T.getD a [] ∧ ∀ b, b < a → ¬ (f b + 1 = f k ∧ (k : Int) ∈ T.getD b [])
def Chain (T : List (List Int)) (f : Nat → Int) (n k D : Nat) (ch : Nat → Nat) : Prop := ch D = k ∧ (∀ e, e < D → IsPrd T f n (ch (e + 1)) (ch e)) ∧ ∀ e, e ≤ D → ch e < n ∧ f (ch e) = e
theorem Chain.few {T : List (List Int)} {f : Nat → Int} {n k D : Nat} {ch : Nat → Nat} (h : Chain T f n k D ch) : D < n := by
 have key : ∀ e, e ≤ D → e < (upTo (fun k => decide (0 ≤ f k ∧ f k ≤ (e : Int))) n).length := by
  intro e
  induction e with
  | zero =>
   intro _
   have h1 := h.2.2 0 (by omega)
   exact upTo_pos.2 ⟨ch 0, h1.1, decide_eq_true (by omega)⟩
  | succ e ih =>
   intro he
   have h1 := ih (by omega)
   have h2 := h.2.2 (e + 1) he
   have h3 := upTo_mono (p := fun k => decide (0 ≤ f k ∧ f k ≤ (e : Int))) (q := fun k => decide (0 ≤ f k ∧ f k ≤ ((e + 1 : Nat) : Int))) (n := n) fun k _ hk => decide_eq_true (by have := of_decide_eq_true hk; omega)
   by_cases g : (upTo (fun k => decide (0 ≤ f k ∧ f k ≤ ((e + 1 : Nat) : Int))) n).length ≤ (upTo (fun k => decide (0 ≤ f k ∧ f k ≤ (e : Int))) n).length
   ·have h4 := h3.2 g (ch (e + 1)) h2.1 (decide_eq_true (by omega))
    have h5 := of_decide_eq_true h4
    omega
   ·omega
 have h1 := key D (Nat.le_refl _)
 have h2 := @upTo_len (fun k => decide (0 ≤ f k ∧ f k ≤ (D : Int))) n
 omega
theorem useM_few {s : Sy} (h : valid s) {r : Ru} {a : List Int} : (useM s.1 r a).length ≤ 1048576 := by
 by_cases h0 : useM s.1 r a = []
 ·rw [h0]; simp
 ·have h1 := (useM_in h0).1; have h2 := h.1.2; omega
theorem rbt_next {s : Sy} {a b : List Int} {i : Nat} (hp : ∀ j, j < i → ¬ (¬ useM s.1 (s.2.getD j ([], [], [])) a = [] ∧ useM s.1 (s.2.getD j ([], [], [])) a = b)) : ¬ (¬ useM s.1 (s.2.getD i ([], [], [])) a = [] ∧ useM s.1 (s.2.getD i ([], [], [])) a = b) →
  ∀ j, j < i + 1 → ¬ (¬ useM s.1 (s.2.getD j ([], [], [])) a = [] ∧ useM s.1 (s.2.getD j ([], [], [])) a = b) := by
 intro hn j hj
 rcases Nat.lt_succ_iff_lt_or_eq.1 hj with hj | rfl
 ·exact hp j hj
 ·exact hn
theorem C_slices_Equal (a b : List Int) (ha : a.length ≤ 1048576) (hb : b.length ≤ 1048576) (Q : List AV → Prop) : mc.C f_slices_Equal_Sint_int [⟨L I, a⟩, ⟨L I, b⟩] Q = Q [⟨B, decide (a = b)⟩] := by
 refine Mc.Ends.c (mc.ends F_slices_Equal_Sint_int ?_)
 generalize hK : decide (a = b) = K
 simp (contextual := true) (maxSteps := 1000000) (disch := omega) only [↓Sd, ↓So, ↓Sk, ↓den, ↓denA, Sa, Sb, Sc, Se, O1.d, O2.d, O3.d, cmI, arI, envOf, putN, ↓reduceIte, Nat.reduceLT, Nat.reduceSub, Nat.reduceAdd, Int.reduceAdd, Int.reduceEq, Int.reduceLT, Int.reduceLE, arr_pos, arr_neg, tr_slices_Equal_Sint_int]
 refine ⟨fun g => ?_, fun g => ?_⟩
 ·rw [← hK, decide_eq_false]; intro h; rw [h] at g; exact g rfl
 ·have hl : a.length = b.length := by omega
  refine lp_all (fun i => [⟨L I, a⟩, ⟨L I, b⟩, ⟨I, (a.length : Int)⟩, ⟨I, (i : Int)⟩]) (fun i => a.getD i 0 = b.getD i 0) a.length _ ?_ ?_ ?_
  ·rw [hl]; rfl
  ·intro i hi
   simp (contextual := true) (maxSteps := 1000000) (disch := omega) only [↓Sd, ↓So, ↓Sk, ↓den, ↓denA, Sa, Sb, Sc, Se, O1.d, O2.d, O3.d, cmI, arI, envOf, putN, ↓reduceIte, Nat.reduceLT, Nat.reduceSub, Nat.reduceAdd, Int.reduceAdd, Int.reduceEq, Int.reduceLT, Int.reduceLE, arr_pos, arr_neg, ]
   intro h
   rw [← hK, decide_eq_false]
   intro h2; rw [h2] at h; exact h rfl
  ·intro h
   simp (contextual := true) (maxSteps := 1000000) (disch := omega) only [↓Sd, ↓So, ↓Sk, ↓den, ↓denA, Sa, Sb, Sc, Se, O1.d, O2.d, O3.d, cmI, arI, envOf, putN, ↓reduceIte, Nat.reduceLT, Nat.reduceSub, Nat.reduceAdd, Int.reduceAdd, Int.reduceEq, Int.reduceLT, Int.reduceLE, arr_pos, arr_neg, ]
   rw [← hK, decide_eq_true]
   refine List.ext_getElem hl fun i h1 h2 => ?_
   have := h i h1
   rwa [getD_lt h1, getD_lt h2] at this
theorem C_impl_ruleBetween (s : Sy) (a b : List Int) (h : valid s) (ha : inR s.1 a) (hb : b.length ≤ 1048576) (Q : List AV → Prop) : mc.C f_impl_ruleBetween [⟨L V3, s.1⟩, ⟨L TR, s.2⟩, ⟨L I, a⟩, ⟨L I, b⟩] Q = Q [⟨I, rbt s a b⟩] := by
 refine Mc.Ends.c (mc.ends F_impl_ruleBetween ?_)
 generalize hK : rbt s a b = K
 simp (contextual := true) (maxSteps := 1000000) (disch := omega) only [↓Sd, ↓So, ↓Sk, ↓den, ↓denA, Sa, Sb, Sc, Se, O1.d, O2.d, O3.d, cmI, arI, envOf, putN, ↓reduceIte, Nat.reduceLT, Nat.reduceSub, Nat.reduceAdd, Int.reduceAdd, Int.reduceEq, Int.reduceLT, Int.reduceLE, arr_pos, arr_neg, tr_impl_ruleBetween]
 refine mc.lp_for Unit (fun i _ => [⟨L I, a⟩, ⟨L I, b⟩, ⟨I, (s.2.length : Int)⟩, ⟨I, (i : Int)⟩, ⟨L V3, s.1⟩, ⟨L TR, s.2⟩]) (fun i _ => ∀ j, j < i → ¬ (¬ useM s.1 (s.2.getD j ([], [], [])) a = [] ∧ useM s.1 (s.2.getD j ([], [], [])) a = b)) s.2.length 0 () _ rfl (Nat.zero_le _) (fun j hj => absurd hj (Nat.not_lt_zero _)) ?_ ?_
 ·rintro i - hi hp
  have hu : (useM s.1 (s.2.getD i ([], [], [])) a).length ≤ 1048576 := useM_few h
  have next := rbt_next (s := s) (a := a) (b := b) hp
  have h8 := h.2.1
  have hit : (¬ useM s.1 (s.2.getD i ([], [], [])) a = [] ∧ useM s.1 (s.2.getD i ([], [], [])) a = b) → (i : Int) = K := fun hh => by
   rw [← hK, rbt, fst1_hit (i := i) (decide_eq_true hh) (fun j hj h => hp j hj (of_decide_eq_true h)) hi]
  simp (contextual := true) (maxSteps := 1000000) (disch := omega) only [↓Sd, ↓So, ↓Sk, ↓den, ↓denA, Sa, Sb, Sc, Se, O1.d, O2.d, O3.d, cmI, arI, envOf, putN, ↓reduceIte, Nat.reduceLT, Nat.reduceSub, Nat.reduceAdd, Int.reduceAdd, Int.reduceEq, Int.reduceLT, Int.reduceLE, arr_pos, arr_neg, ↓wpJoin, C_impl_use s a i h ha hi, C_slices_Equal _ b hu hb]
  exact ⟨fun g1 => ⟨fun g2 => hit ⟨g1, g2⟩, fun g2 => next fun h => g2 h.2⟩, fun g1 => next fun h => h.1 g1⟩
 ·rintro - hp
  simp (contextual := true) (maxSteps := 1000000) (disch := omega) only [↓Sd, ↓So, ↓Sk, ↓den, ↓denA, Sa, Sb, Sc, Se, O1.d, O2.d, O3.d, cmI, arI, envOf, putN, ↓reduceIte, Nat.reduceLT, Nat.reduceSub, Nat.reduceAdd, Int.reduceAdd, Int.reduceEq, Int.reduceLT, Int.reduceLE, arr_pos, arr_neg, ]
  rw [← hK, rbt, fst1_none fun j hj h => hp j hj (of_decide_eq_true h)]
def SmSS (l : List (List Int)) : Prop := l.length ≤ 4000 ∧ ∀ x ∈ l, x.length ≤ 4000
theorem SmSS.row {l : List (List Int)} (h : SmSS l) (i : Nat) : (l.getD i []).length ≤ 4000 := by
 by_cases hi : i < l.length
 ·exact h.2 _ (getD_mem hi)
 ·rw [List.getD_eq_getElem?_getD, List.getElem?_eq_none (by omega)]; simp
theorem tab_self {α : Type} {l : List α} {d : α} : tab (fun i => l.getD i d) l.length = l := by
 refine List.ext_getElem tab_len fun i h1 h2 => ?_
 simp [tab]
 rw [List.getElem?_eq_getElem h2]; rfl
def fOk (s : Sy) (F : List (List Tm)) : Prop := valid s ∧ F.length ≤ 4 ∧ ∀ i, i < F.length → kf (F.getD i []) s.1.length = 2
instance (s : Sy) (F : List (List Tm)) : Decidable (fOk s F) := by unfold fOk; infer_instance
def FewSS (F : List (List Tm)) : Prop := Few F ∧ ∀ x ∈ F, Few x
theorem FewSS.row {F : List (List Tm)} (h : FewSS F) (i : Nat) : Few (F.getD i []) := by
 by_cases hi : i < F.length
 ·exact h.2 _ (getD_mem hi)
 ·rw [List.getD_eq_getElem?_getD, List.getElem?_eq_none (by omega)]; simp [Few]
def ltr (F : List (List Tm)) (st : List Int) : List Int := tab (fun i => evl (F.getD i []) st) F.length
def onw (s : Sy) : List (List Int) := tab (fun k => if (steps s).getD k [] = [] then [(k : Int)] else (steps s).getD k []) (szn s.1)
theorem C_spec_l20Facts (s : Sy) (F : List (List Tm)) (hs : FewSy s) (hF : FewSS F) (Q : List AV → Prop) : mc.C f_spec_l20Facts [⟨L V3, s.1⟩, ⟨L TR, s.2⟩, ⟨L (L T4), F⟩] Q = Q [⟨B, decide (fOk s F)⟩] := by
 have hl : F.length ≤ 1048576 := hF.1
 refine Mc.Ends.c (mc.ends F_spec_l20Facts ?_)
 generalize hK : decide (fOk s F) = K
 simp (contextual := true) (maxSteps := 1000000) (disch := omega) only [↓Sd, ↓So, ↓Sk, ↓den, ↓denA, Sa, Sb, Sc, Se, O1.d, O2.d, O3.d, cmI, arI, envOf, putN, ↓reduceIte, Nat.reduceLT, Nat.reduceSub, Nat.reduceAdd, Int.reduceAdd, Int.reduceEq, Int.reduceLT, Int.reduceLE, arr_pos, arr_neg, tr_spec_l20Facts]
 refine lp_all (fun i => [⟨L (L T4), F⟩, ⟨I, (i : Int)⟩, ⟨L V3, s.1⟩, ⟨L TR, s.2⟩]) (fun i => kf (F.getD i []) s.1.length = 2) F.length _ rfl ?_ ?_
 ·intro i hi
  simp (contextual := true) (maxSteps := 1000000) (disch := omega) only [↓Sd, ↓So, ↓Sk, ↓den, ↓denA, Sa, Sb, Sc, Se, O1.d, O2.d, O3.d, cmI, arI, envOf, putN, ↓reduceIte, Nat.reduceLT, Nat.reduceSub, Nat.reduceAdd, Int.reduceAdd, Int.reduceEq, Int.reduceLT, Int.reduceLE, arr_pos, arr_neg, C_spec_l2Is (F.getD i []) s.1.length 2 (hF.row i) (by omega)]
  intro g
  rw [← hK, decide_eq_false fun h => g (h.2.2 i hi)]
 ·intro h
  simp (contextual := true) (maxSteps := 1000000) (disch := omega) only [↓Sd, ↓So, ↓Sk, ↓den, ↓denA, Sa, Sb, Sc, Se, O1.d, O2.d, O3.d, cmI, arI, envOf, putN, ↓reduceIte, Nat.reduceLT, Nat.reduceSub, Nat.reduceAdd, Int.reduceAdd, Int.reduceEq, Int.reduceLT, Int.reduceLE, arr_pos, arr_neg, C_spec_SystemValid s hs]
  refine ⟨fun hv => ?_, fun hv => by rw [← hK, decide_eq_false fun h => hv h.1]⟩
  rw [← hK]
  exact decide_eq_decide.2 ⟨fun g => ⟨hv, by omega, h⟩, fun g => by have := g.2.1; omega⟩
theorem C_impl_factsOk (s : Sy) (F : List (List Tm)) (hs : FewSy s) (hF : FewSS F) (Q : List AV → Prop) : mc.C f_impl_factsOk [⟨L V3, s.1⟩, ⟨L TR, s.2⟩, ⟨L (L T4), F⟩] Q = Q [⟨B, decide (fOk s F)⟩] := by
 have hl : F.length ≤ 1048576 := hF.1
 refine Mc.Ends.c (mc.ends F_impl_factsOk ?_)
 generalize hK : decide (fOk s F) = K
 simp (contextual := true) (maxSteps := 1000000) (disch := omega) only [↓Sd, ↓So, ↓Sk, ↓den, ↓denA, Sa, Sb, Sc, Se, O1.d, O2.d, O3.d, cmI, arI, envOf, putN, ↓reduceIte, Nat.reduceLT, Nat.reduceSub, Nat.reduceAdd, Int.reduceAdd, Int.reduceEq, Int.reduceLT, Int.reduceLE, arr_pos, arr_neg, tr_impl_factsOk, C_impl_SystemValid s hs]
 refine ⟨fun hv => ⟨fun h4 => ?_, fun h4 => by rw [← hK, decide_eq_false fun h => h4 (by have := h.2.1; omega)]⟩, fun hv => by rw [← hK, decide_eq_false fun h => hv h.1]⟩
 refine lp_all (fun i => [⟨L (L T4), F⟩, ⟨I, (F.length : Int)⟩, ⟨I, (i : Int)⟩, ⟨L V3, s.1⟩, ⟨L TR, s.2⟩]) (fun i => kf (F.getD i []) s.1.length = 2) F.length _ rfl ?_ ?_
 ·intro i hi
  simp (contextual := true) (maxSteps := 1000000) (disch := omega) only [↓Sd, ↓So, ↓Sk, ↓den, ↓denA, Sa, Sb, Sc, Se, O1.d, O2.d, O3.d, cmI, arI, envOf, putN, ↓reduceIte, Nat.reduceLT, Nat.reduceSub, Nat.reduceAdd, Int.reduceAdd, Int.reduceEq, Int.reduceLT, Int.reduceLE, arr_pos, arr_neg, C_impl_kindOf (F.getD i []) s.1.length (hF.row i)]
  intro g
  have hno : ¬ fOk s F := fun h => g (h.2.2 i hi)
  rw [← hK, decide_eq_false hno]
  simp
 ·intro h
  simp (contextual := true) (maxSteps := 1000000) (disch := omega) only [↓Sd, ↓So, ↓Sk, ↓den, ↓denA, Sa, Sb, Sc, Se, O1.d, O2.d, O3.d, cmI, arI, envOf, putN, ↓reduceIte, Nat.reduceLT, Nat.reduceSub, Nat.reduceAdd, Int.reduceAdd, Int.reduceEq, Int.reduceLT, Int.reduceLE, arr_pos, arr_neg, ]
  rw [← hK, decide_eq_true (p := fOk s F) ⟨hv, by omega, h⟩]
  rfl
theorem C_spec_l20Of (F : List (List Tm)) (st : List Int) (hl : F.length ≤ 4) (h : ∀ i, i < F.length → kf (F.getD i []) st.length = 2) (hb : Bds st) (Q : List AV → Prop) : mc.C f_spec_l20Of [⟨L (L T4), F⟩, ⟨L I, st⟩] Q = Q [⟨L I, ltr F st⟩] := by
 refine Mc.Ends.c (mc.ends F_spec_l20Of ?_)
 simp (contextual := true) (maxSteps := 1000000) (disch := omega) only [↓Sd, ↓So, ↓Sk, ↓den, ↓denA, Sa, Sb, Sc, Se, O1.d, O2.d, O3.d, cmI, arI, envOf, putN, ↓reduceIte, Nat.reduceLT, Nat.reduceSub, Nat.reduceAdd, Int.reduceAdd, Int.reduceEq, Int.reduceLT, Int.reduceLE, arr_pos, arr_neg, tr_spec_l20Of]
 refine mc.lp_for (List Int) (fun i o => [⟨L (L T4), F⟩, ⟨L I, st⟩, ⟨I, (i : Int)⟩, ⟨L I, o⟩]) (fun i o => o = tab (fun i => evl (F.getD i []) st) i) F.length 0 [] _ rfl (Nat.zero_le _) rfl ?_ ?_
 ·rintro i o hi rfl
  have h1 := h i hi
  simp (contextual := true) (maxSteps := 1000000) (disch := omega) only [↓Sd, ↓So, ↓Sk, ↓den, ↓denA, Sa, Sb, Sc, Se, O1.d, O2.d, O3.d, cmI, arI, envOf, putN, ↓reduceIte, Nat.reduceLT, Nat.reduceSub, Nat.reduceAdd, Int.reduceAdd, Int.reduceEq, Int.reduceLT, Int.reduceLE, arr_pos, arr_neg, tab_len, C_spec_l2Last (F.getD i []) st st.length (by omega) hb rfl]
  exact tab_next
 ·rintro o rfl
  simp (contextual := true) (maxSteps := 1000000) (disch := omega) only [↓Sd, ↓So, ↓Sk, ↓den, ↓denA, Sa, Sb, Sc, Se, O1.d, O2.d, O3.d, cmI, arI, envOf, putN, ↓reduceIte, Nat.reduceLT, Nat.reduceSub, Nat.reduceAdd, Int.reduceAdd, Int.reduceEq, Int.reduceLT, Int.reduceLE, arr_pos, arr_neg, ]
  rfl
theorem C_impl_letters (F : List (List Tm)) (st : List Int) (hl : F.length ≤ 4) (h : ∀ i, i < F.length → kf (F.getD i []) st.length = 2) (hb : Bds st) (Q : List AV → Prop) : mc.C f_impl_letters [⟨L (L T4), F⟩, ⟨L I, st⟩] Q = Q [⟨L I, ltr F st⟩] := by
 refine Mc.Ends.c (mc.ends F_impl_letters ?_)
 simp (contextual := true) (maxSteps := 1000000) (disch := omega) only [↓Sd, ↓So, ↓Sk, ↓den, ↓denA, Sa, Sb, Sc, Se, O1.d, O2.d, O3.d, cmI, arI, envOf, putN, ↓reduceIte, Nat.reduceLT, Nat.reduceSub, Nat.reduceAdd, Int.reduceAdd, Int.reduceEq, Int.reduceLT, Int.reduceLE, arr_pos, arr_neg, tr_impl_letters]
 refine mc.lp_for (List Int) (fun i o => [⟨L I, st⟩, ⟨L (L T4), F⟩, ⟨I, (F.length : Int)⟩, ⟨I, (i : Int)⟩, ⟨L I, o⟩]) (fun i o => o = tab (fun j => if j < i then evl (F.getD j []) st else 0) F.length) F.length 0 (List.replicate F.length 0) _ rfl (Nat.zero_le _) (by rw [rep_tab]; rfl) ?_ ?_
 ·rintro i o hi rfl
  have h1 := h i hi
  simp (contextual := true) (maxSteps := 1000000) (disch := omega) only [↓Sd, ↓So, ↓Sk, ↓den, ↓denA, Sa, Sb, Sc, Se, O1.d, O2.d, O3.d, cmI, arI, envOf, putN, ↓reduceIte, Nat.reduceLT, Nat.reduceSub, Nat.reduceAdd, Int.reduceAdd, Int.reduceEq, Int.reduceLT, Int.reduceLE, arr_pos, arr_neg, tab_len, C_impl_eval (F.getD i []) st st.length (by omega) hb rfl, tab_set']
  refine tab_congr fun k _ => ?_
  by_cases e : k = i
  ·subst e; rw [if_pos rfl, if_pos (by omega)]
  ·rw [if_neg e]
   by_cases e2 : k < i
   ·rw [if_pos e2, if_pos (by omega)]
   ·rw [if_neg e2, if_neg (by omega)]
 ·rintro o rfl
  simp (contextual := true) (maxSteps := 1000000) (disch := omega) only [↓Sd, ↓So, ↓Sk, ↓den, ↓denA, Sa, Sb, Sc, Se, O1.d, O2.d, O3.d, cmI, arI, envOf, putN, ↓reduceIte, Nat.reduceLT, Nat.reduceSub, Nat.reduceAdd, Int.reduceAdd, Int.reduceEq, Int.reduceLT, Int.reduceLE, arr_pos, arr_neg, ]
  exact tab_congr fun k hk => if_pos hk
theorem onw_row {s : Sy} {i : Nat} (hi : i < szn s.1) : (onw s).getD i [] = if (steps s).getD i [] = [] then [(i : Int)] else (steps s).getD i [] := tab_get hi
def onwN (s : Sy) (i : Nat) : List (List Int) := tab (fun k => if k < i ∧ (steps s).getD k [] = [] then [(k : Int)] else (steps s).getD k []) (szn s.1)
theorem onwN_0 {s : Sy} : onwN s 0 = steps s := by
 have hl : (steps s).length = szn s.1 := tab_len
 refine Eq.trans ?_ (tab_self (l := steps s) (d := []))
 rw [onwN, hl]
 exact tab_congr fun k _ => if_neg fun h => by omega
theorem onwN_n {s : Sy} : onwN s (szn s.1) = onw s := tab_congr fun k hk => by
 by_cases g : (steps s).getD k [] = []
 ·rw [if_pos ⟨hk, g⟩, if_pos g]
 ·rw [if_neg fun h => g h.2, if_neg g]
theorem onwN_get {s : Sy} {i : Nat} (hi : i < szn s.1) : (onwN s i).getD i [] = (steps s).getD i [] := by
 rw [onwN, tab_get hi, if_neg fun h => by omega]
theorem onwN_set {s : Sy} {i : Nat} (hi : i < szn s.1) (h : (steps s).getD i [] = []) : (onwN s i).set i [(i : Int)] = onwN s (i + 1) := by
 rw [onwN, tab_set']
 refine tab_congr fun k _ => ?_
 by_cases e : k = i
 ·subst e; rw [if_pos rfl, if_pos ⟨by omega, h⟩]
 ·rw [if_neg e]
  by_cases e2 : k < i ∧ (steps s).getD k [] = []
  ·rw [if_pos e2, if_pos ⟨by omega, e2.2⟩]
  ·rw [if_neg e2, if_neg fun h => e2 ⟨by omega, h.2⟩]
theorem onwN_keep {s : Sy} {i : Nat} (h : ¬ (steps s).getD i [] = []) : onwN s i = onwN s (i + 1) := tab_congr fun k _ => by
 by_cases e : k = i
 ·subst e; rw [if_neg fun g => h g.2, if_neg fun g => h g.2]
 ·by_cases e2 : k < i ∧ (steps s).getD k [] = []
  ·rw [if_pos e2, if_pos ⟨by omega, e2.2⟩]
  ·rw [if_neg e2, if_neg fun h => e2 ⟨by omega, h.2⟩]
theorem nil_len {l : List Int} : ((l.length : Int) = 0) = (l = []) := propext ⟨fun h => List.eq_nil_of_length_eq_zero (by omega), fun h => by rw [h]; rfl⟩
theorem C_spec_l22Onward (s : Sy) (hs : FewSy s) (h : valid s) (Q : List AV → Prop) : mc.C f_spec_l22Onward [⟨L V3, s.1⟩, ⟨L TR, s.2⟩] Q = Q [⟨L (L I), onw s⟩] := by
 have hz := szn_eq h
 have hl : ∀ i, (onwN s i).length = szn s.1 := fun i => tab_len
 refine Mc.Ends.c (mc.ends F_spec_l22Onward ?_)
 simp (contextual := true) (maxSteps := 1000000) (disch := omega) only [↓Sd, ↓So, ↓Sk, ↓den, ↓denA, Sa, Sb, Sc, Se, O1.d, O2.d, O3.d, cmI, arI, envOf, putN, ↓reduceIte, Nat.reduceLT, Nat.reduceSub, Nat.reduceAdd, Int.reduceAdd, Int.reduceEq, Int.reduceLT, Int.reduceLE, arr_pos, arr_neg, tr_spec_l22Onward, C_spec_l4Steps s hs h]
 refine mc.lp_for (List (List Int)) (fun i o => [⟨I, (i : Int)⟩, ⟨L (L I), o⟩]) (fun i o => o = onwN s i) (szn s.1) 0 (steps s) _ rfl (Nat.zero_le _) onwN_0.symm ?_ ?_
 ·rintro i o hi rfl
  simp (contextual := true) (maxSteps := 1000000) (disch := omega) only [↓Sd, ↓So, ↓Sk, ↓den, ↓denA, Sa, Sb, Sc, Se, O1.d, O2.d, O3.d, cmI, arI, envOf, putN, ↓reduceIte, Nat.reduceLT, Nat.reduceSub, Nat.reduceAdd, Int.reduceAdd, Int.reduceEq, Int.reduceLT, Int.reduceLE, arr_pos, arr_neg, ↓wpJoin, hl, onwN_get hi, nil_len]
  exact ⟨fun g => onwN_set hi g, fun g => onwN_keep g⟩
 ·rintro o rfl
  simp (contextual := true) (maxSteps := 1000000) (disch := omega) only [↓Sd, ↓So, ↓Sk, ↓den, ↓denA, Sa, Sb, Sc, Se, O1.d, O2.d, O3.d, cmI, arI, envOf, putN, ↓reduceIte, Nat.reduceLT, Nat.reduceSub, Nat.reduceAdd, Int.reduceAdd, Int.reduceEq, Int.reduceLT, Int.reduceLE, arr_pos, arr_neg, hl]
  exact onwN_n
theorem C_impl_followers (s : Sy) (h : valid s) (Q : List AV → Prop) : mc.C f_impl_followers [⟨L V3, s.1⟩, ⟨L TR, s.2⟩] Q = Q [⟨L (L I), onw s⟩] := by
 have hz := szn_eq h
 have hl : ∀ i, (onwN s i).length = szn s.1 := fun i => tab_len
 have hl0 : (steps s).length = szn s.1 := tab_len
 refine Mc.Ends.c (mc.ends F_impl_followers ?_)
 simp (contextual := true) (maxSteps := 1000000) (disch := omega) only [↓Sd, ↓So, ↓Sk, ↓den, ↓denA, Sa, Sb, Sc, Se, O1.d, O2.d, O3.d, cmI, arI, envOf, putN, ↓reduceIte, Nat.reduceLT, Nat.reduceSub, Nat.reduceAdd, Int.reduceAdd, Int.reduceEq, Int.reduceLT, Int.reduceLE, arr_pos, arr_neg, tr_impl_followers, C_impl_nexts s h, hl0]
 refine mc.lp_for (List (List Int)) (fun i o => [⟨I, (szn s.1 : Int)⟩, ⟨I, (i : Int)⟩, ⟨L (L I), o⟩]) (fun i o => o = onwN s i) (szn s.1) 0 (steps s) _ rfl (Nat.zero_le _) onwN_0.symm ?_ ?_
 ·rintro i o hi rfl
  simp (contextual := true) (maxSteps := 1000000) (disch := omega) only [↓Sd, ↓So, ↓Sk, ↓den, ↓denA, Sa, Sb, Sc, Se, O1.d, O2.d, O3.d, cmI, arI, envOf, putN, ↓reduceIte, Nat.reduceLT, Nat.reduceSub, Nat.reduceAdd, Int.reduceAdd, Int.reduceEq, Int.reduceLT, Int.reduceLE, arr_pos, arr_neg, ↓wpJoin, hl, onwN_get hi, nil_len]
  exact ⟨fun g => onwN_set hi g, fun g => onwN_keep g⟩
 ·rintro o rfl
  simp (contextual := true) (maxSteps := 1000000) (disch := omega) only [↓Sd, ↓So, ↓Sk, ↓den, ↓denA, Sa, Sb, Sc, Se, O1.d, O2.d, O3.d, cmI, arI, envOf, putN, ↓reduceIte, Nat.reduceLT, Nat.reduceSub, Nat.reduceAdd, Int.reduceAdd, Int.reduceEq, Int.reduceLT, Int.reduceLE, arr_pos, arr_neg, hl]
  exact onwN_n
theorem fOk_at {s : Sy} {F : List (List Tm)} (h : fOk s F) {k : Nat} (hk : k < szn s.1) : (∀ i, i < F.length → kf (F.getD i []) (stN s k).length = 2) ∧ Bds (stN s k) := by
 have hst := stN_in h.1 hk
 exact ⟨fun i hi => by rw [hst.1]; exact h.2.2 i hi, hst.bds h.1.2.2.1⟩
theorem SmSS.few {l : List (List Int)} (h : SmSS l) : l.length ≤ 1048576 ∧ ∀ x ∈ l, x.length ≤ 1048576 := ⟨by have := h.1; omega, fun x hx => by have := h.2 x hx; omega⟩
theorem FewSS.of {F : List (List Tm)} (h : Few F ∧ ∀ x ∈ F, Few x) : FewSS F := h
abbrev zT : Tm := (0, 0, 0, 0)
def tO (t : Tm) (i n : Int) : Prop :=
 (t.1 = 0 ∧ t.2.1 = 0 ∧ t.2.2.1 = 0 ∧ t.2.2.2 = 0) ∨ (t.1 = 1 ∧ (0 ≤ t.2.1 ∧ t.2.1 ≤ n - 1) ∧ t.2.2.1 = 0 ∧ t.2.2.2 = 0) ∨
 ((2 ≤ t.1 ∧ t.1 ≤ 7) ∧ t.2.1 = 0 ∧ (0 ≤ t.2.2.1 ∧ t.2.2.1 ≤ i - 1) ∧ (0 ≤ t.2.2.2 ∧ t.2.2.2 ≤ i - 1) ∧ ((t.1 = 2 ∨ t.1 = 5) → t.2.2.2 = t.2.2.1))
instance (t : Tm) (i n : Int) : Decidable (tO t i n) := by unfold tO; infer_instance
def tV (l : List Tm) (n : Int) : Prop := (0 ≤ n ∧ n ≤ 4) ∧ (1 ≤ l.length ∧ l.length ≤ 24) ∧ ∀ i, i < l.length → tO (l.getD i zT) i n
instance (l : List Tm) (n : Int) : Decidable (tV l n) := by unfold tV; infer_instance
def gB (l : List Tm) (i : Nat) : Bool := decide ((l.getD i zT).1 ≥ 5)
def gS (l : List Tm) : List Int := upTo (gB l) l.length
def asked (l : List Tm) (n : Int) : Prop := tV l n ∧ n + (gS l).length ≤ 7
instance (l : List Tm) (n : Int) : Decidable (asked l n) := by unfold asked; infer_instance
def gK (l : List Tm) (n : Nat) : Nat := n + (gS l).length
theorem shl_nat {k : Nat} (h : k ≤ 7) : shI true .i64 1 (k : Int) = ((2 ^ k : Nat) : Int) := by
 match k, h with
 | 0, _ => decide
 | 1, _ => decide
 | 2, _ => decide
 | 3, _ => decide
 | 4, _ => decide
 | 5, _ => decide
 | 6, _ => decide
 | 7, _ => decide
theorem pow_bd {k : Nat} (h : k ≤ 7) : 1 ≤ 2 ^ k ∧ 2 ^ k ≤ 128 := by
 match k, h with
 | 0, _ => decide
 | 1, _ => decide
 | 2, _ => decide
 | 3, _ => decide
 | 4, _ => decide
 | 5, _ => decide
 | 6, _ => decide
 | 7, _ => decide
theorem one_eq5 {n : Int} : (n = 2 → true = decide (True ∨ False)) ∧ (¬n = 2 → (n == 5) = decide (False ∨ n = 5)) := by
 refine ⟨fun _ => by simp, fun h => ?_⟩
 by_cases g : n = 5
 ·subst g; rfl
 ·simp [g]
theorem tO_goal {o m a b i n : Int} {K : Bool} (hK : decide (tO (o, m, a, b) i n) = K) : (o = 0 → (m = 0 → (a = 0 → (b == 0) = K) ∧ (¬a = 0 → false = K)) ∧ (¬m = 0 → false = K)) ∧
  (¬o = 0 →
   (o = 1 →
     (0 ≤ m ∧ m ≤ n - 1 → (a = 0 → (b == 0) = K) ∧ (¬a = 0 → false = K)) ∧ (¬(0 ≤ m ∧ m ≤ n - 1) → false = K)) ∧
    (¬o = 1 →
     (¬(2 ≤ o ∧ o ≤ 7) → false = K) ∧
      (2 ≤ o ∧ o ≤ 7 →
       (¬m = 0 → false = K) ∧
        (m = 0 →
         (¬(0 ≤ a ∧ a ≤ i - 1) → false = K) ∧
          (0 ≤ a ∧ a ≤ i - 1 →
           (¬(0 ≤ b ∧ b ≤ i - 1) → false = K) ∧
            (0 ≤ b ∧ b ≤ i - 1 → (¬(o = 2 ∨ o = 5) → true = K) ∧ (o = 2 ∨ o = 5 → (b == a) = K))))))) := by
 have e : ∀ {x y : Int}, (x == y) = decide (x = y) := fun {x y} => by rw [beq_dB, dB_eq]
 simp only [e]
 unfold tO at hK
 simp only at hK
 cases K with
 | true =>
  have hp := of_decide_eq_true hK
  simp only [decide_eq_true_eq, Bool.false_eq_true]
  repeat' first | apply And.intro | intro _
  all_goals first
   | trivial
   | omega
 | false =>
  have hp := of_decide_eq_false hK
  simp only [decide_eq_false_iff_not, Bool.true_eq_false]
  repeat' first | apply And.intro | intro _
  all_goals first
   | trivial
   | omega
theorem tO_goal2 {o m a b i n : Int} {q : Bool} (hK : decide (tO (o, m, a, b) i n) = q) : (o = 0 → ((0 : Int) == 0 && (m == 0 && (a == 0 && b == 0))) = q) ∧
  (¬o = 0 →
   (o = 1 →
     (0 ≤ m ∧ m ≤ n - 1 → (a = 0 → (b == 0) = q) ∧ (¬a = 0 → false = q)) ∧
      (¬(0 ≤ m ∧ m ≤ n - 1) → false = q)) ∧
    (¬o = 1 →
     (0 ≤ o ∧ o ≤ 7 →
       (m = 0 →
         (0 ≤ a ∧ a ≤ i - 1 →
           (0 ≤ b ∧ b ≤ i - 1 →
             (a = b → true = q) ∧
              (¬a = b →
               (¬o = 2 → (o != 5) = q) ∧
                (o = 2 → false = q))) ∧
            (¬(0 ≤ b ∧ b ≤ i - 1) →
             false = q)) ∧
          (¬(0 ≤ a ∧ a ≤ i - 1) →
           false = q)) ∧
        (¬m = 0 → false = q)) ∧
      (¬(0 ≤ o ∧ o ≤ 7) → false = q))) := by
 have e : ∀ {x y : Int}, (x == y) = decide (x = y) := fun {x y} => by rw [beq_dB, dB_eq]
 have e2 : ∀ {x y : Int}, (x != y) = !decide (x = y) := fun {x y} => by rw [← e]; rfl
 simp only [e, e2]
 unfold tO at hK
 simp only at hK
 cases q with
 | true =>
  have hp := of_decide_eq_true hK
  repeat' first | apply And.intro | intro _
  all_goals first
   | rfl
   | omega
   | (simp only [decide_true, Bool.true_and, Bool.and_eq_true, decide_eq_true_eq, Bool.not_eq_true', decide_eq_false_iff_not]; omega)
 | false =>
  have hp := of_decide_eq_false hK
  repeat' first | apply And.intro | intro _
  all_goals first
   | rfl
   | omega
   | (simp only [decide_true, Bool.true_and, Bool.and_eq_false_iff, decide_eq_false_iff_not, Bool.not_eq_false', decide_eq_true_eq]; omega)
theorem C_spec_l20One (n : Int) (Q : List AV → Prop) : mc.C f_spec_l20One [⟨I, n⟩] Q = Q [⟨B, decide (n = 2 ∨ n = 5)⟩] := by
 refine Mc.Ends.c (mc.ends F_spec_l20One ?_)
 simp (contextual := true) (maxSteps := 1000000) (disch := omega) only [↓Sd, ↓So, ↓Sk, ↓den, ↓denA, Sa, Sb, Sc, Se, O1.d, O2.d, O3.d, cmI, arI, envOf, putN, ↓reduceIte, Nat.reduceLT, Nat.reduceSub, Nat.reduceAdd, Int.reduceAdd, Int.reduceEq, Int.reduceLT, Int.reduceLE, arr_pos, arr_neg, tr_spec_l20One]
 exact one_eq5
theorem C_spec_l20Step (t : Tm) (i n : Int) (hi : 0 ≤ i ∧ i ≤ 100) (hn : 0 ≤ n ∧ n ≤ 4) (Q : List AV → Prop) : mc.C f_spec_l20Step [⟨I, t.1⟩, ⟨I, t.2.1⟩, ⟨I, t.2.2.1⟩, ⟨I, t.2.2.2⟩, ⟨I, i⟩, ⟨I, n⟩] Q = Q [⟨B, decide (tO t i n)⟩] := by
 refine Mc.Ends.c (mc.ends F_spec_l20Step ?_)
 generalize hK : decide (tO t i n) = K
 obtain ⟨o, m, a, b⟩ := t
 simp (contextual := true) (maxSteps := 1000000) (disch := omega) only [↓Sd, ↓So, ↓Sk, ↓den, ↓denA, Sa, Sb, Sc, Se, O1.d, O2.d, O3.d, cmI, arI, envOf, putN, ↓reduceIte, Nat.reduceLT, Nat.reduceSub, Nat.reduceAdd, Int.reduceAdd, Int.reduceEq, Int.reduceLT, Int.reduceLE, arr_pos, arr_neg, tr_spec_l20Step, C_spec_l1In, C_spec_l20One]
 exact tO_goal hK
theorem C_spec_TimesValid (l : List Tm) (n : Int) (hl : Few l) (Q : List AV → Prop) : mc.C f_spec_TimesValid [⟨L T4, l⟩, ⟨I, n⟩] Q = Q [⟨B, decide (tV l n)⟩] := by
 refine Mc.Ends.c (mc.ends F_spec_TimesValid ?_)
 generalize hK : decide (tV l n) = K
 simp (contextual := true) (maxSteps := 1000000) (disch := omega) only [↓Sd, ↓So, ↓Sk, ↓den, ↓denA, Sa, Sb, Sc, Se, O1.d, O2.d, O3.d, cmI, arI, envOf, putN, ↓reduceIte, Nat.reduceLT, Nat.reduceSub, Nat.reduceAdd, Int.reduceAdd, Int.reduceEq, Int.reduceLT, Int.reduceLE, arr_pos, arr_neg, tr_spec_TimesValid, C_spec_l1In]
 refine ⟨fun g => ?_, fun g => ⟨fun g2 => ?_, fun g2 => ?_⟩⟩
 ·rw [← hK, decide_eq_false fun h => g h.1]
 ·rw [← hK, decide_eq_false fun h => g2 (by have := h.2.1; omega)]
 ·refine lp_all (fun i => [⟨L T4, l⟩, ⟨I, n⟩, ⟨I, (i : Int)⟩]) (fun i => tO (l.getD i zT) i n) l.length _ rfl ?_ ?_
  ·intro i hi
   simp (contextual := true) (maxSteps := 1000000) (disch := omega) only [↓Sd, ↓So, ↓Sk, ↓den, ↓denA, Sa, Sb, Sc, Se, O1.d, O2.d, O3.d, cmI, arI, envOf, putN, ↓reduceIte, Nat.reduceLT, Nat.reduceSub, Nat.reduceAdd, Int.reduceAdd, Int.reduceEq, Int.reduceLT, Int.reduceLE, arr_pos, arr_neg, C_spec_l20Step (l.getD i (0, 0, 0, 0)) (i : Int) n (by omega) g]
   exact fun h => by rw [← hK, decide_eq_false fun g => h (g.2.2 i hi)]
  ·intro h
   simp (contextual := true) (maxSteps := 1000000) (disch := omega) only [↓Sd, ↓So, ↓Sk, ↓den, ↓denA, Sa, Sb, Sc, Se, O1.d, O2.d, O3.d, cmI, arI, envOf, putN, ↓reduceIte, Nat.reduceLT, Nat.reduceSub, Nat.reduceAdd, Int.reduceAdd, Int.reduceEq, Int.reduceLT, Int.reduceLE, arr_pos, arr_neg, ]
   rw [← hK, decide_eq_true (p := tV l n) ⟨g, by omega, h⟩]
theorem C_impl_TimesValid (l : List Tm) (n : Int) (hl : Few l) (Q : List AV → Prop) : mc.C f_impl_TimesValid [⟨L T4, l⟩, ⟨I, n⟩] Q = Q [⟨B, decide (tV l n)⟩] := by
 refine Mc.Ends.c (mc.ends F_impl_TimesValid ?_)
 generalize hK : decide (tV l n) = K
 simp (contextual := true) (maxSteps := 1000000) (disch := omega) only [↓Sd, ↓So, ↓Sk, ↓den, ↓denA, Sa, Sb, Sc, Se, O1.d, O2.d, O3.d, cmI, arI, envOf, putN, ↓reduceIte, Nat.reduceLT, Nat.reduceSub, Nat.reduceAdd, Int.reduceAdd, Int.reduceEq, Int.reduceLT, Int.reduceLE, arr_pos, arr_neg, tr_impl_TimesValid, C_impl_in]
 refine ⟨fun g => ?_, fun g => ⟨fun g2 => ?_, fun g2 => ?_⟩⟩
 ·rw [← hK, decide_eq_false fun h => g h.1]
 ·rw [← hK, decide_eq_false fun h => g2 (by have := h.2.1; omega)]
 ·refine lp_all (fun i => [⟨I, n⟩, ⟨L T4, l⟩, ⟨I, (l.length : Int)⟩, ⟨I, (i : Int)⟩]) (fun i => tO (l.getD i zT) i n) l.length _ rfl ?_ ?_
  ·intro i hi
   have hno : ¬ tO (l.getD i zT) i n → false = K := fun h => by rw [← hK, decide_eq_false fun g => h (g.2.2 i hi)]
   simp (contextual := true) (maxSteps := 1000000) (disch := omega) only [↓Sd, ↓So, ↓Sk, ↓den, ↓denA, Sa, Sb, Sc, Se, O1.d, O2.d, O3.d, cmI, arI, envOf, putN, ↓reduceIte, Nat.reduceLT, Nat.reduceSub, Nat.reduceAdd, Int.reduceAdd, Int.reduceEq, Int.reduceLT, Int.reduceLE, arr_pos, arr_neg, C_impl_in]
   refine mc.wp_join (fun us => us = [⟨I, n⟩, ⟨B, decide (tO (l.getD i zT) i n)⟩, ⟨L T4, l⟩, ⟨I, (l.length : Int)⟩, ⟨I, (i : Int)⟩]) ?_ ?_
   ·generalize hq : decide (tO (l.getD i zT) i n) = q
    simp (contextual := true) (maxSteps := 1000000) (disch := omega) only [↓Sd, ↓So, ↓Sk, ↓den, ↓denA, Sa, Sb, Sc, Se, O1.d, O2.d, O3.d, cmI, arI, envOf, putN, ↓reduceIte, Nat.reduceLT, Nat.reduceSub, Nat.reduceAdd, Int.reduceAdd, Int.reduceEq, Int.reduceLT, Int.reduceLE, arr_pos, arr_neg, C_impl_in]
    exact tO_goal2 hq
   ·rintro us rfl
    simp (contextual := true) (maxSteps := 1000000) (disch := omega) only [↓Sd, ↓So, ↓Sk, ↓den, ↓denA, Sa, Sb, Sc, Se, O1.d, O2.d, O3.d, cmI, arI, envOf, putN, ↓reduceIte, Nat.reduceLT, Nat.reduceSub, Nat.reduceAdd, Int.reduceAdd, Int.reduceEq, Int.reduceLT, Int.reduceLE, arr_pos, arr_neg, ]
    exact hno
  ·intro h
   simp (contextual := true) (maxSteps := 1000000) (disch := omega) only [↓Sd, ↓So, ↓Sk, ↓den, ↓denA, Sa, Sb, Sc, Se, O1.d, O2.d, O3.d, cmI, arI, envOf, putN, ↓reduceIte, Nat.reduceLT, Nat.reduceSub, Nat.reduceAdd, Int.reduceAdd, Int.reduceEq, Int.reduceLT, Int.reduceLE, arr_pos, arr_neg, ]
   rw [← hK, decide_eq_true (p := tV l n) ⟨g, by omega, h⟩]
theorem and_bit {x y : Int} (hx : x = 0 ∨ x = 1) (hy : y = 0 ∨ y = 1) : IntKind.i64.wrap ((BitVec.ofInt IntKind.i64.bits x &&& BitVec.ofInt IntKind.i64.bits y).toNat : Int) = x * y := by
 rcases hx with rfl | rfl <;> rcases hy with rfl | rfl <;> decide
theorem or_bit {x y : Int} (hx : x = 0 ∨ x = 1) (hy : y = 0 ∨ y = 1) : IntKind.i64.wrap ((BitVec.ofInt IntKind.i64.bits x ||| BitVec.ofInt IntKind.i64.bits y).toNat : Int) = if x + y > 0 then 1 else 0 := by
 rcases hx with rfl | rfl <;> rcases hy with rfl | rfl <;> decide
theorem mul_bit {x y : Int} (hx : x = 0 ∨ x = 1) (hy : y = 0 ∨ y = 1) : x * y = 0 ∨ x * y = 1 := by
 rcases hx with rfl | rfl <;> rcases hy with rfl | rfl <;> decide
def tv1 (t : Tm) (vs bits : List Int) (k : Nat) : Int :=
 if t.1 = 0 then 1 else if t.1 = 1 then bits.getD t.2.1.toNat 0 else if t.1 = 2 then 1 - vs.getD t.2.2.1.toNat 0
 else if t.1 = 3 then vs.getD t.2.2.1.toNat 0 * vs.getD t.2.2.2.toNat 0
 else if t.1 = 4 then (if vs.getD t.2.2.1.toNat 0 + vs.getD t.2.2.2.toNat 0 > 0 then 1 else 0) else bits.getD k 0
def gN (l : List Tm) (i : Nat) : Nat := (upTo (gB l) i).length
def trN (l : List Tm) (n : Nat) (bits : List Int) : Nat → List Int
 | 0 => []
 | i + 1 => trN l n bits i ++ [tv1 (l.getD i zT) (trN l n bits i) bits (n + gN l i)]
def trv (l : List Tm) (n : Nat) (bits : List Int) : List Int := trN l n bits l.length
theorem trN_len {l : List Tm} {n : Nat} {bits : List Int} : ∀ {i : Nat}, (trN l n bits i).length = i
 | 0 => rfl
 | i + 1 => by simp only [trN, List.length_append, List.length_singleton, trN_len]
theorem gN_next {l : List Tm} {i : Nat} : gN l (i + 1) = gN l i + if (l.getD i zT).1 ≥ 5 then 1 else 0 := by
 unfold gN
 by_cases h : (l.getD i zT).1 ≥ 5
 ·rw [upTo_s (by unfold gB; exact decide_eq_true h), if_pos h]; simp
 ·rw [upTo_n (by unfold gB; rw [decide_eq_true_eq]; exact h), if_neg h]; rfl
theorem gN_mono {l : List Tm} {i : Nat} : ∀ {j : Nat}, gN l i ≤ gN l (i + j)
 | 0 => Nat.le_refl _
 | j + 1 => by
  have := @gN_mono l i j
  have := @gN_next l (i + j)
  rw [← Nat.add_assoc]
  omega
theorem bit_get {l : List Int} (h : ∀ x ∈ l, x = 0 ∨ x = 1) (i : Nat) : l.getD i 0 = 0 ∨ l.getD i 0 = 1 := by
 by_cases hi : i < l.length
 ·exact h _ (getD_mem hi)
 ·rw [List.getD_eq_getElem?_getD, List.getElem?_eq_none (by omega)]; exact .inl rfl
theorem tv1_bit {t : Tm} {vs bits : List Int} {k : Nat} (hv : ∀ x ∈ vs, x = 0 ∨ x = 1) (hb : ∀ x ∈ bits, x = 0 ∨ x = 1) : tv1 t vs bits k = 0 ∨ tv1 t vs bits k = 1 := by
 have ha := bit_get hv t.2.2.1.toNat
 have hbb := bit_get hv t.2.2.2.toNat
 unfold tv1
 split
 ·exact .inr rfl
 split
 ·exact bit_get hb _
 split
 ·omega
 split
 ·exact mul_bit ha hbb
 split
 ·split
  ·exact .inr rfl
  ·exact .inl rfl
 ·exact bit_get hb _
theorem trN_bit {l : List Tm} {n : Nat} {bits : List Int} (hb : ∀ x ∈ bits, x = 0 ∨ x = 1) : ∀ {i : Nat}, ∀ x ∈ trN l n bits i, x = 0 ∨ x = 1
 | 0, x, h => by simp [trN] at h
 | i + 1, x, h => by
  simp only [trN] at h
  rcases List.mem_append.1 h with h | h
  ·exact trN_bit hb x h
  ·rw [List.mem_singleton.1 h]; exact tv1_bit (fun x hx => trN_bit hb x hx) hb
structure Ask (l : List Tm) (n : Nat) : Prop where
 tv : tV l n
 few : gK l n ≤ 7
theorem Ask.of {l : List Tm} {n : Nat} (h : asked l n) : Ask l n := ⟨h.1, by have := h.2; unfold gK; omega⟩
theorem C_spec_l21Steps (l : List Tm) (hl : l.length ≤ 1048576) (Q : List AV → Prop) : mc.C f_spec_l21Steps [⟨L T4, l⟩] Q = Q [⟨L I, gS l⟩] := by
 refine Mc.Ends.c (mc.ends F_spec_l21Steps ?_)
 simp (contextual := true) (maxSteps := 1000000) (disch := omega) only [↓Sd, ↓So, ↓Sk, ↓den, ↓denA, Sa, Sb, Sc, Se, O1.d, O2.d, O3.d, cmI, arI, envOf, putN, ↓reduceIte, Nat.reduceLT, Nat.reduceSub, Nat.reduceAdd, Int.reduceAdd, Int.reduceEq, Int.reduceLT, Int.reduceLE, arr_pos, arr_neg, tr_spec_l21Steps]
 refine mc.lp_for (List Int) (fun i o => [⟨L T4, l⟩, ⟨I, (i : Int)⟩, ⟨L I, o⟩]) (fun i o => o = upTo (gB l) i) l.length 0 [] _ rfl (Nat.zero_le _) rfl ?_ ?_
 ·rintro i o hi rfl
  have h1 := @upTo_len (gB l) i
  simp (contextual := true) (maxSteps := 1000000) (disch := omega) only [↓Sd, ↓So, ↓Sk, ↓den, ↓denA, Sa, Sb, Sc, Se, O1.d, O2.d, O3.d, cmI, arI, envOf, putN, ↓reduceIte, Nat.reduceLT, Nat.reduceSub, Nat.reduceAdd, Int.reduceAdd, Int.reduceEq, Int.reduceLT, Int.reduceLE, arr_pos, arr_neg, ↓wpJoin, ]
  exact ⟨fun g => (upTo_s (decide_eq_true g)).symm, fun g => (upTo_n (by unfold gB; rw [decide_eq_true_eq]; exact g)).symm⟩
 ·rintro o rfl
  simp (contextual := true) (maxSteps := 1000000) (disch := omega) only [↓Sd, ↓So, ↓Sk, ↓den, ↓denA, Sa, Sb, Sc, Se, O1.d, O2.d, O3.d, cmI, arI, envOf, putN, ↓reduceIte, Nat.reduceLT, Nat.reduceSub, Nat.reduceAdd, Int.reduceAdd, Int.reduceEq, Int.reduceLT, Int.reduceLE, arr_pos, arr_neg, ]
  rfl
theorem C_spec_l21Asked (l : List Tm) (n : Nat) (hl : Few l) (hn : n ≤ 1048576) (Q : List AV → Prop) : mc.C f_spec_l21Asked [⟨L T4, l⟩, ⟨I, (n : Int)⟩] Q = Q [⟨B, decide (asked l n)⟩] := by
 refine Mc.Ends.c (mc.ends F_spec_l21Asked ?_)
 have h1 : (gS l).length ≤ l.length := upTo_len
 have h2 : l.length ≤ 1048576 := hl
 simp (contextual := true) (maxSteps := 1000000) (disch := omega) only [↓Sd, ↓So, ↓Sk, ↓den, ↓denA, Sa, Sb, Sc, Se, O1.d, O2.d, O3.d, cmI, arI, envOf, putN, ↓reduceIte, Nat.reduceLT, Nat.reduceSub, Nat.reduceAdd, Int.reduceAdd, Int.reduceEq, Int.reduceLT, Int.reduceLE, arr_pos, arr_neg, tr_spec_l21Asked, C_spec_TimesValid l n hl]
 refine ⟨fun g => ?_, fun g => ?_⟩
 ·simp (contextual := true) (maxSteps := 1000000) (disch := omega) only [↓Sd, ↓So, ↓Sk, ↓den, ↓denA, Sa, Sb, Sc, Se, O1.d, O2.d, O3.d, cmI, arI, envOf, putN, ↓reduceIte, Nat.reduceLT, Nat.reduceSub, Nat.reduceAdd, Int.reduceAdd, Int.reduceEq, Int.reduceLT, Int.reduceLE, arr_pos, arr_neg, C_spec_l21Steps l h2]
  exact decide_eq_decide.2 ⟨fun h => ⟨g, h⟩, fun h => h.2⟩
 ·rw [decide_eq_false fun h => g h.1]
theorem C_impl_guessed (l : List Tm) (n : Nat) (hl : Few l) (hn : n ≤ 1048576) (h : tV l n) (Q : List AV → Prop) : mc.C f_impl_guessed [⟨L T4, l⟩, ⟨I, (n : Int)⟩] Q = Q [⟨L I, gS l⟩, ⟨B, decide (asked l n)⟩] := by
 have h1 : (gS l).length ≤ l.length := upTo_len
 have h2 : l.length ≤ 1048576 := hl
 refine Mc.Ends.c (mc.ends F_impl_guessed ?_)
 simp (contextual := true) (maxSteps := 1000000) (disch := omega) only [↓Sd, ↓So, ↓Sk, ↓den, ↓denA, Sa, Sb, Sc, Se, O1.d, O2.d, O3.d, cmI, arI, envOf, putN, ↓reduceIte, Nat.reduceLT, Nat.reduceSub, Nat.reduceAdd, Int.reduceAdd, Int.reduceEq, Int.reduceLT, Int.reduceLE, arr_pos, arr_neg, tr_impl_guessed, C_impl_TimesValid l n hl, h]
 refine mc.lp_for (List Int) (fun i o => [⟨I, (n : Int)⟩, ⟨L T4, l⟩, ⟨I, (l.length : Int)⟩, ⟨I, (i : Int)⟩, ⟨L I, o⟩]) (fun i o => o = upTo (gB l) i) l.length 0 [] _ rfl (Nat.zero_le _) rfl ?_ ?_
 ·rintro i o hi rfl
  have h1 := @upTo_len (gB l) i
  simp (contextual := true) (maxSteps := 1000000) (disch := omega) only [↓Sd, ↓So, ↓Sk, ↓den, ↓denA, Sa, Sb, Sc, Se, O1.d, O2.d, O3.d, cmI, arI, envOf, putN, ↓reduceIte, Nat.reduceLT, Nat.reduceSub, Nat.reduceAdd, Int.reduceAdd, Int.reduceEq, Int.reduceLT, Int.reduceLE, arr_pos, arr_neg, ↓wpJoin, ]
  exact ⟨fun g => (upTo_s (decide_eq_true g)).symm, fun g => (upTo_n (by unfold gB; rw [decide_eq_true_eq]; exact g)).symm⟩
 ·rintro o rfl
  have e : upTo (gB l) l.length = gS l := rfl
  simp (contextual := true) (maxSteps := 1000000) (disch := omega) only [↓Sd, ↓So, ↓Sk, ↓den, ↓denA, Sa, Sb, Sc, Se, O1.d, O2.d, O3.d, cmI, arI, envOf, putN, ↓reduceIte, Nat.reduceLT, Nat.reduceSub, Nat.reduceAdd, Int.reduceAdd, Int.reduceEq, Int.reduceLT, Int.reduceLE, arr_pos, arr_neg, e, C_impl_clone_int (gS l) (by omega)]
  exact decide_eq_decide.2 ⟨fun h3 => ⟨h, h3⟩, fun h3 => h3.2⟩
theorem C_impl_guessed_no (l : List Tm) (n : Nat) (hl : Few l) (h : ¬ tV l n) (Q : List AV → Prop) : mc.C f_impl_guessed [⟨L T4, l⟩, ⟨I, (n : Int)⟩] Q = Q [⟨L I, []⟩, ⟨B, false⟩] := by
 refine Mc.Ends.c (mc.ends F_impl_guessed ?_)
 simp (contextual := true) (maxSteps := 1000000) (disch := omega) only [↓Sd, ↓So, ↓Sk, ↓den, ↓denA, Sa, Sb, Sc, Se, O1.d, O2.d, O3.d, cmI, arI, envOf, putN, ↓reduceIte, Nat.reduceLT, Nat.reduceSub, Nat.reduceAdd, Int.reduceAdd, Int.reduceEq, Int.reduceLT, Int.reduceLE, arr_pos, arr_neg, tr_impl_guessed, C_impl_TimesValid l n hl, h]
def gC (l : List Tm) (n : Nat) : Nat := if asked l n then 2 ^ gK l n else 0
theorem C_spec_GuessCount (l : List Tm) (n : Nat) (hl : Few l) (hn : n ≤ 1048576) (Q : List AV → Prop) : mc.C f_spec_GuessCount [⟨L T4, l⟩, ⟨I, (n : Int)⟩] Q = Q [⟨I, (gC l n : Int)⟩] := by
 refine Mc.Ends.c (mc.ends F_spec_GuessCount ?_)
 have h1 : (gS l).length ≤ l.length := upTo_len
 have h2 : l.length ≤ 1048576 := hl
 unfold gC
 simp (contextual := true) (maxSteps := 1000000) (disch := omega) only [↓Sd, ↓So, ↓Sk, ↓den, ↓denA, Sa, Sb, Sc, Se, O1.d, O2.d, O3.d, cmI, arI, envOf, putN, ↓reduceIte, Nat.reduceLT, Nat.reduceSub, Nat.reduceAdd, Int.reduceAdd, Int.reduceEq, Int.reduceLT, Int.reduceLE, arr_pos, arr_neg, tr_spec_GuessCount, C_spec_l21Asked l n hl hn]
 intro g
 have h7 := (Ask.of g).few
 simp (contextual := true) (maxSteps := 1000000) (disch := omega) only [↓Sd, ↓So, ↓Sk, ↓den, ↓denA, Sa, Sb, Sc, Se, O1.d, O2.d, O3.d, cmI, arI, envOf, putN, ↓reduceIte, Nat.reduceLT, Nat.reduceSub, Nat.reduceAdd, Int.reduceAdd, Int.reduceEq, Int.reduceLT, Int.reduceLE, arr_pos, arr_neg, C_spec_l21Steps l h2]
 have e : (n : Int) + ((gS l).length : Int) = (gK l n : Int) := by unfold gK; omega
 rw [e, shl_nat h7]
theorem C_impl_GuessCount (l : List Tm) (n : Nat) (hl : Few l) (hn : n ≤ 1048576) (Q : List AV → Prop) : mc.C f_impl_GuessCount [⟨L T4, l⟩, ⟨I, (n : Int)⟩] Q = Q [⟨I, (gC l n : Int)⟩] := by
 refine Mc.Ends.c (mc.ends F_impl_GuessCount ?_)
 have h1 : (gS l).length ≤ l.length := upTo_len
 have h2 : l.length ≤ 1048576 := hl
 unfold gC
 by_cases h : tV l n
 ·simp (contextual := true) (maxSteps := 1000000) (disch := omega) only [↓Sd, ↓So, ↓Sk, ↓den, ↓denA, Sa, Sb, Sc, Se, O1.d, O2.d, O3.d, cmI, arI, envOf, putN, ↓reduceIte, Nat.reduceLT, Nat.reduceSub, Nat.reduceAdd, Int.reduceAdd, Int.reduceEq, Int.reduceLT, Int.reduceLE, arr_pos, arr_neg, tr_impl_GuessCount, C_impl_guessed l n hl hn h]
  intro g
  have h7 := (Ask.of g).few
  have e : (n : Int) + ((gS l).length : Int) = (gK l n : Int) := by unfold gK; omega
  rw [e, shl_nat h7]
 ·rw [if_neg fun g => h g.1]
  simp (contextual := true) (maxSteps := 1000000) (disch := omega) only [↓Sd, ↓So, ↓Sk, ↓den, ↓denA, Sa, Sb, Sc, Se, O1.d, O2.d, O3.d, cmI, arI, envOf, putN, ↓reduceIte, Nat.reduceLT, Nat.reduceSub, Nat.reduceAdd, Int.reduceAdd, Int.reduceEq, Int.reduceLT, Int.reduceLE, arr_pos, arr_neg, tr_impl_GuessCount, C_impl_guessed_no l n hl h]
theorem tO_ops {t : Tm} {i n : Int} (h : tO t i n) : t.1 = 0 ∨ (t.1 = 1 ∧ 0 ≤ t.2.1 ∧ t.2.1 ≤ n - 1) ∨ ((t.1 = 2 ∨ t.1 = 3 ∨ t.1 = 4 ∨ t.1 = 5 ∨ t.1 = 6 ∨ t.1 = 7) ∧ (0 ≤ t.2.2.1 ∧ t.2.2.1 ≤ i - 1) ∧ (0 ≤ t.2.2.2 ∧ t.2.2.2 ≤ i - 1)) := by
 unfold tO at h
 omega
theorem tv1_0 {t : Tm} {vs bits : List Int} {k : Nat} (h : t.1 = 0) : tv1 t vs bits k = 1 := if_pos h
theorem tv1_1 {t : Tm} {vs bits : List Int} {k : Nat} (h : t.1 = 1) : tv1 t vs bits k = bits.getD t.2.1.toNat 0 := by unfold tv1; rw [if_neg (by omega), if_pos h]
theorem tv1_2 {t : Tm} {vs bits : List Int} {k : Nat} (h : t.1 = 2) : tv1 t vs bits k = 1 - vs.getD t.2.2.1.toNat 0 := by unfold tv1; rw [if_neg (by omega), if_neg (by omega), if_pos h]
theorem tv1_3 {t : Tm} {vs bits : List Int} {k : Nat} (h : t.1 = 3) : tv1 t vs bits k = vs.getD t.2.2.1.toNat 0 * vs.getD t.2.2.2.toNat 0 := by unfold tv1; rw [if_neg (by omega), if_neg (by omega), if_neg (by omega), if_pos h]
theorem tv1_4 {t : Tm} {vs bits : List Int} {k : Nat} (h : t.1 = 4) : tv1 t vs bits k = if vs.getD t.2.2.1.toNat 0 + vs.getD t.2.2.2.toNat 0 > 0 then 1 else 0 := by unfold tv1; rw [if_neg (by omega), if_neg (by omega), if_neg (by omega), if_neg (by omega), if_pos h]
theorem tv1_5 {t : Tm} {vs bits : List Int} {k : Nat} (h : 5 ≤ t.1) : tv1 t vs bits k = bits.getD k 0 := by unfold tv1; rw [if_neg (by omega), if_neg (by omega), if_neg (by omega), if_neg (by omega), if_neg (by omega)]
theorem gN_low {l : List Tm} {i : Nat} (h : ¬ 5 ≤ (l.getD i zT).1) : gN l (i + 1) = gN l i := by rw [gN_next, if_neg h]; rfl
theorem gN_up {l : List Tm} {i : Nat} (h : 5 ≤ (l.getD i zT).1) : gN l (i + 1) = gN l i + 1 := by rw [gN_next, if_pos h]
theorem gN_lt {l : List Tm} {i : Nat} (hi : i < l.length) (h : 5 ≤ (l.getD i zT).1) : gN l i < (gS l).length := by
 have h1 := gN_up h
 have h2 := @gN_mono l (i + 1) (l.length - (i + 1))
 rw [show i + 1 + (l.length - (i + 1)) = l.length by omega] at h2
 have h3 : gN l l.length = (gS l).length := rfl
 omega
theorem C_spec_l21Truths (l : List Tm) (n : Nat) (bits : List Int) (h : Ask l n) (hb : ∀ x ∈ bits, x = 0 ∨ x = 1) (hk : bits.length = gK l n) (Q : List AV → Prop) : mc.C f_spec_l21Truths [⟨L T4, l⟩, ⟨I, (n : Int)⟩, ⟨L I, bits⟩] Q = Q [⟨L I, trv l n bits⟩] := by
 have hl := h.tv.2.1
 have h7 := h.few
 unfold gK at hk h7
 refine Mc.Ends.c (mc.ends F_spec_l21Truths ?_)
 simp (contextual := true) (maxSteps := 1000000) (disch := omega) only [↓Sd, ↓So, ↓Sk, ↓den, ↓denA, Sa, Sb, Sc, Se, O1.d, O2.d, O3.d, cmI, arI, envOf, putN, ↓reduceIte, Nat.reduceLT, Nat.reduceSub, Nat.reduceAdd, Int.reduceAdd, Int.reduceEq, Int.reduceLT, Int.reduceLE, arr_pos, arr_neg, tr_spec_l21Truths]
 refine mc.lp_for Unit (fun i _ => [⟨L T4, l⟩, ⟨L I, bits⟩, ⟨I, ((n + gN l i : Nat) : Int)⟩, ⟨I, (i : Int)⟩, ⟨L I, trN l n bits i⟩]) (fun _ _ => True) l.length 0 () _ rfl (Nat.zero_le _) trivial ?_ ?_
 ·rintro i - hi -
  have ht := h.tv.2.2 i hi
  have hn := h.tv.1
  have hlo := @gN_low l i
  have hup := @gN_up l i
  have hgl := gN_lt hi
  have hln := @trN_len l n bits i
  have hbt := fun x hx => @trN_bit l n bits hb i x hx
  have hA := bit_get hbt (l.getD i zT).2.2.1.toNat
  have hB := bit_get hbt (l.getD i zT).2.2.2.toNat
  simp only [trN]
  obtain ⟨t, hte⟩ : ∃ t : Tm, l.getD i (0, 0, 0, 0) = t := ⟨_, rfl⟩
  have hte2 : l.getD i zT = t := hte
  rw [hte2] at ht hlo hup hgl hA hB ⊢
  generalize gN l (i + 1) = g1 at *
  rcases tO_ops ht with h0 | ⟨h1, h2, h3⟩ | ⟨h1, h2, h3⟩
  ·have hlo := hlo (by omega)
   rw [tv1_0 h0, hlo]
   simp (contextual := true) (maxSteps := 1000000) (disch := omega) only [↓Sd, ↓So, ↓Sk, ↓den, ↓denA, Sa, Sb, Sc, Se, O1.d, O2.d, O3.d, cmI, arI, envOf, putN, ↓reduceIte, Nat.reduceLT, Nat.reduceSub, Nat.reduceAdd, Int.reduceAdd, Int.reduceEq, Int.reduceLT, Int.reduceLE, arr_pos, arr_neg, ↓wpJoin, hte, h0]
  ·have hlo := hlo (by omega)
   rw [tv1_1 h1, hlo]
   simp (contextual := true) (maxSteps := 1000000) (disch := omega) only [↓Sd, ↓So, ↓Sk, ↓den, ↓denA, Sa, Sb, Sc, Se, O1.d, O2.d, O3.d, cmI, arI, envOf, putN, ↓reduceIte, Nat.reduceLT, Nat.reduceSub, Nat.reduceAdd, Int.reduceAdd, Int.reduceEq, Int.reduceLT, Int.reduceLE, arr_pos, arr_neg, ↓wpJoin, hte, h1]
  ·rcases h1 with h1 | h1 | h1 | h1
   ·have hlo := hlo (by omega)
    rw [tv1_2 h1, hlo]
    simp (contextual := true) (maxSteps := 1000000) (disch := omega) only [↓Sd, ↓So, ↓Sk, ↓den, ↓denA, Sa, Sb, Sc, Se, O1.d, O2.d, O3.d, cmI, arI, envOf, putN, ↓reduceIte, Nat.reduceLT, Nat.reduceSub, Nat.reduceAdd, Int.reduceAdd, Int.reduceEq, Int.reduceLT, Int.reduceLE, arr_pos, arr_neg, ↓wpJoin, hte, h1]
   ·have hlo := hlo (by omega)
    rw [tv1_3 h1, hlo]
    have hm := mul_bit hA hB
    have hw : ∀ x : Int, x = 0 ∨ x = 1 → IntKind.i64.wrap x = x := fun x hx => wrap_id (by omega) (by omega)
    simp (contextual := true) (maxSteps := 1000000) (disch := omega) only [↓Sd, ↓So, ↓Sk, ↓den, ↓denA, Sa, Sb, Sc, Se, O1.d, O2.d, O3.d, cmI, arI, envOf, putN, ↓reduceIte, Nat.reduceLT, Nat.reduceSub, Nat.reduceAdd, Int.reduceAdd, Int.reduceEq, Int.reduceLT, Int.reduceLE, arr_pos, arr_neg, ↓wpJoin, hte, h1, hw _ hm]
   ·have hlo := hlo (by omega)
    rw [tv1_4 h1, hlo]
    simp (contextual := true) (maxSteps := 1000000) (disch := omega) only [↓Sd, ↓So, ↓Sk, ↓den, ↓denA, Sa, Sb, Sc, Se, O1.d, O2.d, O3.d, cmI, arI, envOf, putN, ↓reduceIte, Nat.reduceLT, Nat.reduceSub, Nat.reduceAdd, Int.reduceAdd, Int.reduceEq, Int.reduceLT, Int.reduceLE, arr_pos, arr_neg, ↓wpJoin, hte, h1, C_spec_l1Truth]
   ·have hge : 5 ≤ t.1 := by omega
    have hlt := hgl hge
    have hne : ¬ t.1 = 1 ∧ ¬ t.1 = 2 ∧ ¬ t.1 = 3 ∧ ¬ t.1 = 4 := by omega
    have hge2 : t.1 ≥ 5 := hge
    rw [tv1_5 hge, hup hge]
    simp (contextual := true) (maxSteps := 1000000) (disch := omega) only [↓Sd, ↓So, ↓Sk, ↓den, ↓denA, Sa, Sb, Sc, Se, O1.d, O2.d, O3.d, cmI, arI, envOf, putN, ↓reduceIte, Nat.reduceLT, Nat.reduceSub, Nat.reduceAdd, Int.reduceAdd, Int.reduceEq, Int.reduceLT, Int.reduceLE, arr_pos, arr_neg, ↓wpJoin, hte, hne.1, hne.2.1, hne.2.2.1, hne.2.2.2, hge2]
    exact ⟨iD (by omega), by rw [show ((n : Int) + (gN l i : Int)).toNat = n + gN l i by omega]⟩
 ·rintro - -
  simp (contextual := true) (maxSteps := 1000000) (disch := omega) only [↓Sd, ↓So, ↓Sk, ↓den, ↓denA, Sa, Sb, Sc, Se, O1.d, O2.d, O3.d, cmI, arI, envOf, putN, ↓reduceIte, Nat.reduceLT, Nat.reduceSub, Nat.reduceAdd, Int.reduceAdd, Int.reduceEq, Int.reduceLT, Int.reduceLE, arr_pos, arr_neg, ]
  rfl
theorem C_spec_l21At (l : List Tm) (n g : Nat) (h : Ask l n) (hg : g ≤ 1000) (Q : List AV → Prop) : mc.C f_spec_l21At [⟨L T4, l⟩, ⟨I, (n : Int)⟩, ⟨I, (g : Int)⟩] Q = Q [⟨L I, trv l n (vb g (gK l n))⟩] := by
 have hl := h.tv.2.1
 have h7 := h.few
 have e : (n : Int) + ((gS l).length : Int) = (gK l n : Int) := by unfold gK; omega
 refine Mc.Ends.c (mc.ends F_spec_l21At ?_)
 simp (contextual := true) (maxSteps := 1000000) (disch := omega) only [↓Sd, ↓So, ↓Sk, ↓den, ↓denA, Sa, Sb, Sc, Se, O1.d, O2.d, O3.d, cmI, arI, envOf, putN, ↓reduceIte, Nat.reduceLT, Nat.reduceSub, Nat.reduceAdd, Int.reduceAdd, Int.reduceEq, Int.reduceLT, Int.reduceLE, arr_pos, arr_neg, tr_spec_l21At, C_spec_l21Steps l (by omega), e, C_spec_l6Value g (gK l n) hg (by omega), C_spec_l21Truths l n (vb g (gK l n)) h vb_bit vb_len]
theorem C_impl_truths (l : List Tm) (n g : Nat) (hf : Few l) (h : Ask l n) (hg : g ≤ 1000) (Q : List AV → Prop) : mc.C f_impl_truths [⟨L T4, l⟩, ⟨I, (n : Int)⟩, ⟨I, (g : Int)⟩] Q = Q [⟨L I, trv l n (vb g (gK l n))⟩] := by
 have hl := h.tv.2.1
 have hn4 := h.tv.1
 have h7 := h.few
 have e : (n : Int) + ((gS l).length : Int) = (gK l n : Int) := by unfold gK; omega
 obtain ⟨bits, hbits⟩ : ∃ bits, vb g (gK l n) = bits := ⟨_, rfl⟩
 have hb : ∀ x ∈ bits, x = 0 ∨ x = 1 := by rw [← hbits]; exact vb_bit
 have hk : bits.length = gK l n := by rw [← hbits]; exact vb_len
 refine Mc.Ends.c (mc.ends F_impl_truths ?_)
 simp (contextual := true) (maxSteps := 1000000) (disch := omega) only [↓Sd, ↓So, ↓Sk, ↓den, ↓denA, Sa, Sb, Sc, Se, O1.d, O2.d, O3.d, cmI, arI, envOf, putN, ↓reduceIte, Nat.reduceLT, Nat.reduceSub, Nat.reduceAdd, Int.reduceAdd, Int.reduceEq, Int.reduceLT, Int.reduceLE, arr_pos, arr_neg, tr_impl_truths, C_impl_guessed l n hf (by omega) h.tv, e, C_impl_valueBits g (gK l n) hg (by omega), hbits]
 unfold gK at hk h7
 refine mc.lp_for Unit (fun i _ => [⟨I, ((n + gN l i : Nat) : Int)⟩, ⟨L T4, l⟩, ⟨I, (l.length : Int)⟩, ⟨I, (i : Int)⟩, ⟨L I, bits⟩, ⟨L I, trN l n bits i ++ List.replicate (l.length - i) 0⟩]) (fun _ _ => True) l.length 0 () _ rfl (Nat.zero_le _) trivial ?_ ?_
 ·rintro i - hi -
  have ht := h.tv.2.2 i hi
  have hn := h.tv.1
  have hlo := @gN_low l i
  have hup := @gN_up l i
  have hgl := gN_lt hi
  have hln := @trN_len l n bits i
  have hbt := fun x hx => @trN_bit l n bits hb i x hx
  have hA := bit_get hbt (l.getD i zT).2.2.1.toNat
  have hB := bit_get hbt (l.getD i zT).2.2.2.toNat
  have hol : (trN l n bits i ++ List.replicate (l.length - i) (0 : Int)).length = l.length := by rw [List.length_append, hln, List.length_replicate]; omega
  have hset : ∀ x : Int, (trN l n bits i ++ List.replicate (l.length - i) (0 : Int)).set i x = (trN l n bits i ++ [x]) ++ List.replicate (l.length - (i + 1)) 0 := fun x => by
   have := @set_pad Int (trN l n bits i) (l.length - (i + 1)) x 0
   rw [hln] at this
   rw [sub_split hi]; exact this
  simp only [trN]
  obtain ⟨t, hte⟩ : ∃ t : Tm, l.getD i (0, 0, 0, 0) = t := ⟨_, rfl⟩
  have hte2 : l.getD i zT = t := hte
  rw [hte2] at ht hlo hup hgl hA hB ⊢
  generalize gN l (i + 1) = g1 at *
  rcases tO_ops ht with h0 | ⟨h1, h2, h3⟩ | ⟨h1, h2, h3⟩
  ·have hlo := hlo (by omega)
   rw [tv1_0 h0, hlo]
   simp (contextual := true) (maxSteps := 1000000) (disch := omega) only [↓Sd, ↓So, ↓Sk, ↓den, ↓denA, Sa, Sb, Sc, Se, O1.d, O2.d, O3.d, cmI, arI, envOf, putN, ↓reduceIte, Nat.reduceLT, Nat.reduceSub, Nat.reduceAdd, Int.reduceAdd, Int.reduceEq, Int.reduceLT, Int.reduceLE, arr_pos, arr_neg, ↓wpJoin, hte, h0, hol, hset]
  ·have hlo := hlo (by omega)
   rw [tv1_1 h1, hlo]
   simp (contextual := true) (maxSteps := 1000000) (disch := omega) only [↓Sd, ↓So, ↓Sk, ↓den, ↓denA, Sa, Sb, Sc, Se, O1.d, O2.d, O3.d, cmI, arI, envOf, putN, ↓reduceIte, Nat.reduceLT, Nat.reduceSub, Nat.reduceAdd, Int.reduceAdd, Int.reduceEq, Int.reduceLT, Int.reduceLE, arr_pos, arr_neg, ↓wpJoin, hte, h1, hol, hset]
  ·rcases h1 with h1 | h1 | h1 | h1
   ·have hlo := hlo (by omega)
    rw [tv1_2 h1, hlo]
    simp (contextual := true) (maxSteps := 1000000) (disch := omega) only [↓Sd, ↓So, ↓Sk, ↓den, ↓denA, Sa, Sb, Sc, Se, O1.d, O2.d, O3.d, cmI, arI, envOf, putN, ↓reduceIte, Nat.reduceLT, Nat.reduceSub, Nat.reduceAdd, Int.reduceAdd, Int.reduceEq, Int.reduceLT, Int.reduceLE, arr_pos, arr_neg, ↓wpJoin, hte, h1, hol, hset, getD_pad]
   ·have hlo := hlo (by omega)
    rw [tv1_3 h1, hlo, ← and_bit hA hB]
    simp (contextual := true) (maxSteps := 1000000) (disch := omega) only [↓Sd, ↓So, ↓Sk, ↓den, ↓denA, Sa, Sb, Sc, Se, O1.d, O2.d, O3.d, cmI, arI, envOf, putN, ↓reduceIte, Nat.reduceLT, Nat.reduceSub, Nat.reduceAdd, Int.reduceAdd, Int.reduceEq, Int.reduceLT, Int.reduceLE, arr_pos, arr_neg, ↓wpJoin, hte, h1, hol, hset, getD_pad]
   ·have hlo := hlo (by omega)
    rw [tv1_4 h1, hlo, ← or_bit hA hB]
    simp (contextual := true) (maxSteps := 1000000) (disch := omega) only [↓Sd, ↓So, ↓Sk, ↓den, ↓denA, Sa, Sb, Sc, Se, O1.d, O2.d, O3.d, cmI, arI, envOf, putN, ↓reduceIte, Nat.reduceLT, Nat.reduceSub, Nat.reduceAdd, Int.reduceAdd, Int.reduceEq, Int.reduceLT, Int.reduceLE, arr_pos, arr_neg, ↓wpJoin, hte, h1, hol, hset, getD_pad]
   ·have hge : 5 ≤ t.1 := by omega
    have hlt := hgl hge
    have hne : ¬ t.1 = 0 ∧ ¬ t.1 = 1 ∧ ¬ t.1 = 2 ∧ ¬ t.1 = 3 ∧ ¬ t.1 = 4 := by omega
    rw [tv1_5 hge, hup hge]
    simp (contextual := true) (maxSteps := 1000000) (disch := omega) only [↓Sd, ↓So, ↓Sk, ↓den, ↓denA, Sa, Sb, Sc, Se, O1.d, O2.d, O3.d, cmI, arI, envOf, putN, ↓reduceIte, Nat.reduceLT, Nat.reduceSub, Nat.reduceAdd, Int.reduceAdd, Int.reduceEq, Int.reduceLT, Int.reduceLE, arr_pos, arr_neg, ↓wpJoin, hte, hne.1, hne.2.1, hne.2.2.1, hne.2.2.2.1, hne.2.2.2.2, hol, hset]
    exact ⟨iD (by omega), by rw [show ((n : Int) + (gN l i : Int)).toNat = n + gN l i by omega]⟩
 ·rintro - -
  simp (contextual := true) (maxSteps := 1000000) (disch := omega) only [↓Sd, ↓So, ↓Sk, ↓den, ↓denA, Sa, Sb, Sc, Se, O1.d, O2.d, O3.d, cmI, arI, envOf, putN, ↓reduceIte, Nat.reduceLT, Nat.reduceSub, Nat.reduceAdd, Int.reduceAdd, Int.reduceEq, Int.reduceLT, Int.reduceLE, arr_pos, arr_neg, Nat.sub_self]
  simp [trv]
theorem C_impl_bitsPow (k : Nat) (hk : k ≤ 7) (Q : List AV → Prop) : mc.C f_impl_bitsFor [⟨I, ((2 ^ k : Nat) : Int)⟩] Q = Q [⟨I, (k : Int)⟩] := by
 refine Mc.Ends.c (mc.ends F_impl_bitsFor ?_)
 simp (contextual := true) (maxSteps := 1000000) (disch := omega) only [↓Sd, ↓So, ↓Sk, ↓den, ↓denA, Sa, Sb, Sc, Se, O1.d, O2.d, O3.d, cmI, arI, envOf, putN, ↓reduceIte, Nat.reduceLT, Nat.reduceSub, Nat.reduceAdd, Int.reduceAdd, Int.reduceEq, Int.reduceLT, Int.reduceLE, arr_pos, arr_neg, tr_impl_bitsFor]
 have hp := pow_bd hk
 refine mc.lp_for Unit (fun i _ => [⟨I, ((2 ^ k : Nat) : Int)⟩, ⟨I, (i : Int)⟩]) (fun _ _ => True) k 0 () _ rfl (Nat.zero_le _) trivial ?_ ?_
 ·rintro i - hi -
  have h1 : 2 ^ i < 2 ^ k := Nat.pow_lt_pow_right (by decide) hi
  simp (contextual := true) (maxSteps := 1000000) (disch := omega) only [↓Sd, ↓So, ↓Sk, ↓den, ↓denA, Sa, Sb, Sc, Se, O1.d, O2.d, O3.d, cmI, arI, envOf, putN, ↓reduceIte, Nat.reduceLT, Nat.reduceSub, Nat.reduceAdd, Int.reduceAdd, Int.reduceEq, Int.reduceLT, Int.reduceLE, arr_pos, arr_neg, shl_nat (show i ≤ 7 by omega)]
 ·rintro - -
  simp (contextual := true) (maxSteps := 1000000) (disch := omega) only [↓Sd, ↓So, ↓Sk, ↓den, ↓denA, Sa, Sb, Sc, Se, O1.d, O2.d, O3.d, cmI, arI, envOf, putN, ↓reduceIte, Nat.reduceLT, Nat.reduceSub, Nat.reduceAdd, Int.reduceAdd, Int.reduceEq, Int.reduceLT, Int.reduceLE, arr_pos, arr_neg, shl_nat hk]
theorem C_spec_manyPow (k : Nat) (hk : k ≤ 7) (Q : List AV → Prop) : mc.C f_spec_l6Many [⟨I, ((2 ^ k : Nat) : Int)⟩] Q = Q [⟨I, (k : Int)⟩] := by
 refine Mc.Ends.c (mc.ends F_spec_l6Many ?_)
 simp (contextual := true) (maxSteps := 1000000) (disch := omega) only [↓Sd, ↓So, ↓Sk, ↓den, ↓denA, Sa, Sb, Sc, Se, O1.d, O2.d, O3.d, cmI, arI, envOf, putN, ↓reduceIte, Nat.reduceLT, Nat.reduceSub, Nat.reduceAdd, Int.reduceAdd, Int.reduceEq, Int.reduceLT, Int.reduceLE, arr_pos, arr_neg, tr_spec_l6Many]
 have hp := pow_bd hk
 refine mc.lp_for Unit (fun i _ => [⟨I, ((2 ^ k : Nat) : Int)⟩, ⟨I, (i : Int)⟩, ⟨I, ((2 ^ i : Nat) : Int)⟩]) (fun _ _ => True) k 0 () _ rfl (Nat.zero_le _) trivial ?_ ?_
 ·rintro i - hi -
  have h1 : 2 ^ i < 2 ^ k := Nat.pow_lt_pow_right (by decide) hi
  have h2 : 2 ^ (i + 1) = 2 ^ i * 2 := Nat.pow_succ ..
  rw [h2]
  generalize 2 ^ i = x at *
  generalize 2 ^ k = y at *
  simp (contextual := true) (maxSteps := 1000000) (disch := omega) only [↓Sd, ↓So, ↓Sk, ↓den, ↓denA, Sa, Sb, Sc, Se, O1.d, O2.d, O3.d, cmI, arI, envOf, putN, ↓reduceIte, Nat.reduceLT, Nat.reduceSub, Nat.reduceAdd, Int.reduceAdd, Int.reduceEq, Int.reduceLT, Int.reduceLE, arr_pos, arr_neg, ]
  exact iD (by omega)
 ·rintro - -
  simp (contextual := true) (maxSteps := 1000000) (disch := omega) only [↓Sd, ↓So, ↓Sk, ↓den, ↓denA, Sa, Sb, Sc, Se, O1.d, O2.d, O3.d, cmI, arI, envOf, putN, ↓reduceIte, Nat.reduceLT, Nat.reduceSub, Nat.reduceAdd, Int.reduceAdd, Int.reduceEq, Int.reduceLT, Int.reduceLE, arr_pos, arr_neg, ]
theorem C_impl_GuessLetter (l : List Tm) (n g : Nat) (hf : Few l) (h : asked l n) (hg : g < 2 ^ gK l n) (Q : List AV → Prop) : mc.C f_impl_GuessLetter [⟨L T4, l⟩, ⟨I, (n : Int)⟩, ⟨I, (g : Int)⟩] Q = Q [⟨L I, (vb g (gK l n)).take n⟩] := by
 have h7 := (Ask.of h).few
 have hp := pow_bd h7
 have hc : gC l n = 2 ^ gK l n := if_pos h
 have hn4 := h.1.1
 have hln : (vb g (gK l n)).length = gK l n := vb_len
 have hnk : n ≤ gK l n := by unfold gK; omega
 have htk : ((vb g (gK l n)).take n).length = n := by rw [List.length_take]; omega
 refine Mc.Ends.c (mc.ends F_impl_GuessLetter ?_)
 simp (contextual := true) (maxSteps := 1000000) (disch := omega) only [↓Sd, ↓So, ↓Sk, ↓den, ↓denA, Sa, Sb, Sc, Se, O1.d, O2.d, O3.d, cmI, arI, envOf, putN, ↓reduceIte, Nat.reduceLT, Nat.reduceSub, Nat.reduceAdd, Int.reduceAdd, Int.reduceEq, Int.reduceLT, Int.reduceLE, arr_pos, arr_neg, tr_impl_GuessLetter, C_impl_GuessCount l n hf (by omega), hc, C_impl_in, C_impl_bitsPow (gK l n) h7, C_impl_valueBits g (gK l n) (by omega) (by omega), hln, Int.toNat_natCast, C_impl_clone_int ((vb g (gK l n)).take n) (by omega)]
def bP (l : List Tm) (a b : List Int) (i : Nat) : Prop :=
 ((l.getD i zT).1 = 5 → a.getD i 0 = b.getD (l.getD i zT).2.2.1.toNat 0) ∧
 ((l.getD i zT).1 = 6 → a.getD i 0 = if a.getD (l.getD i zT).2.2.2.toNat 0 = 1 ∨ (a.getD (l.getD i zT).2.2.1.toNat 0 = 1 ∧ b.getD i 0 = 1) then 1 else 0) ∧
 ((l.getD i zT).1 = 7 → a.getD i 0 = if a.getD (l.getD i zT).2.2.2.toNat 0 = 1 ∧ (a.getD (l.getD i zT).2.2.1.toNat 0 = 1 ∨ b.getD i 0 = 1) then 1 else 0)
def bO (l : List Tm) (a b : List Int) : Prop := ∀ i, i < l.length → bP l a b i
theorem or_and {x y z : Int} (hx : x = 0 ∨ x = 1) (hy : y = 0 ∨ y = 1) (hz : z = 0 ∨ z = 1) : IntKind.i64.wrap ((BitVec.ofInt IntKind.i64.bits x ||| BitVec.ofInt IntKind.i64.bits (IntKind.i64.wrap ((BitVec.ofInt IntKind.i64.bits y &&& BitVec.ofInt IntKind.i64.bits z).toNat : Int))).toNat : Int) = if x = 1 ∨ (y = 1 ∧ z = 1) then 1 else 0 := by
 rcases hx with rfl | rfl <;> rcases hy with rfl | rfl <;> rcases hz with rfl | rfl <;> decide
theorem and_or {x y z : Int} (hx : x = 0 ∨ x = 1) (hy : y = 0 ∨ y = 1) (hz : z = 0 ∨ z = 1) : IntKind.i64.wrap ((BitVec.ofInt IntKind.i64.bits x &&& BitVec.ofInt IntKind.i64.bits (IntKind.i64.wrap ((BitVec.ofInt IntKind.i64.bits y ||| BitVec.ofInt IntKind.i64.bits z).toNat : Int))).toNat : Int) = if x = 1 ∧ (y = 1 ∨ z = 1) then 1 else 0 := by
 rcases hx with rfl | rfl <;> rcases hy with rfl | rfl <;> rcases hz with rfl | rfl <;> decide
theorem C_spec_l21Next (l : List Tm) (n : Int) (a b : List Int) (h : tV l n) (ha : a.length = l.length) (hb : b.length = l.length) (hab : ∀ x ∈ a, x = 0 ∨ x = 1) (hbb : ∀ x ∈ b, x = 0 ∨ x = 1) (Q : List AV → Prop) : mc.C f_spec_l21Next [⟨L T4, l⟩, ⟨L I, a⟩, ⟨L I, b⟩] Q = Q [⟨B, dB (bO l a b)⟩] := by
 have hl := h.2.1
 refine Mc.Ends.c (mc.ends F_spec_l21Next ?_)
 generalize hK : dB (bO l a b) = K
 simp (contextual := true) (maxSteps := 1000000) (disch := omega) only [↓Sd, ↓So, ↓Sk, ↓den, ↓denA, Sa, Sb, Sc, Se, O1.d, O2.d, O3.d, cmI, arI, envOf, putN, ↓reduceIte, Nat.reduceLT, Nat.reduceSub, Nat.reduceAdd, Int.reduceAdd, Int.reduceEq, Int.reduceLT, Int.reduceLE, arr_pos, arr_neg, tr_spec_l21Next]
 refine lp_all (fun i => [⟨L T4, l⟩, ⟨L I, a⟩, ⟨L I, b⟩, ⟨I, (i : Int)⟩]) (bP l a b) l.length _ rfl ?_ ?_
 ·intro i hi
  have hno : ¬ bP l a b i → false = K := fun g => by rw [← hK, dB_f fun h => g (h i hi)]
  have ht := tO_ops (h.2.2 i hi)
  unfold bP at hno ⊢
  obtain ⟨t, hte⟩ : ∃ t : Tm, l.getD i (0, 0, 0, 0) = t := ⟨_, rfl⟩
  have hte2 : l.getD i zT = t := hte
  rw [hte2] at ht hno ⊢
  have hai := bit_get hab i
  have hbi := bit_get hbb i
  have haA := bit_get hab t.2.2.1.toNat
  have haB := bit_get hab t.2.2.2.toNat
  have hbd : 5 ≤ t.1 → (0 ≤ t.2.2.1 ∧ t.2.2.1 ≤ (i : Int) - 1) ∧ (0 ≤ t.2.2.2 ∧ t.2.2.2 ≤ (i : Int) - 1) := fun g => by
   rcases ht with h | h | h
   ·omega
   ·omega
   ·exact h.2
  clear ht
  by_cases h5 : t.1 = 5
  ·have hbd := hbd (by omega)
   clear hai hbi haA haB
   simp (contextual := true) (maxSteps := 1000000) (disch := omega) only [↓Sd, ↓So, ↓Sk, ↓den, ↓denA, Sa, Sb, Sc, Se, O1.d, O2.d, O3.d, cmI, arI, envOf, putN, ↓reduceIte, Nat.reduceLT, Nat.reduceSub, Nat.reduceAdd, Int.reduceAdd, Int.reduceEq, Int.reduceLT, Int.reduceLE, arr_pos, arr_neg, ↓wpJoin, hte, h5]
   exact fun g => hno fun h => g (h.1 h5).symm
  by_cases h6 : t.1 = 6
  ·have hbd := hbd (by omega)
   clear hai
   obtain ⟨w, hw⟩ : ∃ w : Int, (if a.getD t.2.2.2.toNat 0 = 1 ∨ (a.getD t.2.2.1.toNat 0 = 1 ∧ b.getD i 0 = 1) then (1 : Int) else 0) = w := ⟨_, rfl⟩
   have hno2 : ¬ a.getD i 0 = w → false = K := fun g => hno fun h => g (by rw [← hw]; exact h.2.1 h6)
   have hyes : a.getD i 0 = w → (t.1 = 5 → a.getD i 0 = b.getD t.2.2.1.toNat 0) ∧ (t.1 = 6 → a.getD i 0 = if a.getD t.2.2.2.toNat 0 = 1 ∨ (a.getD t.2.2.1.toNat 0 = 1 ∧ b.getD i 0 = 1) then 1 else 0) ∧ (t.1 = 7 → a.getD i 0 = if a.getD t.2.2.2.toNat 0 = 1 ∧ (a.getD t.2.2.1.toNat 0 = 1 ∨ b.getD i 0 = 1) then 1 else 0) := fun g => ⟨fun h => by omega, fun h => by rw [hw]; exact g, fun h => by omega⟩
   generalize ((t.1 = 5 → a.getD i 0 = b.getD t.2.2.1.toNat 0) ∧ (t.1 = 6 → a.getD i 0 = if a.getD t.2.2.2.toNat 0 = 1 ∨ (a.getD t.2.2.1.toNat 0 = 1 ∧ b.getD i 0 = 1) then 1 else 0) ∧ (t.1 = 7 → a.getD i 0 = if a.getD t.2.2.2.toNat 0 = 1 ∧ (a.getD t.2.2.1.toNat 0 = 1 ∨ b.getD i 0 = 1) then 1 else 0)) = P at hyes ⊢
   simp (contextual := true) (maxSteps := 1000000) (disch := omega) only [↓Sd, ↓So, ↓Sk, ↓den, ↓denA, Sa, Sb, Sc, Se, O1.d, O2.d, O3.d, cmI, arI, envOf, putN, ↓reduceIte, Nat.reduceLT, Nat.reduceSub, Nat.reduceAdd, Int.reduceAdd, Int.reduceEq, Int.reduceLT, Int.reduceLE, arr_pos, arr_neg, ]
   refine mc.wp_join (fun us => us = [⟨L T4, l⟩, ⟨L I, a⟩, ⟨L I, b⟩, ⟨I, (i : Int)⟩, ⟨I, w⟩]) ?_ ?_
   ·clear haB haA hbi hno hyes hno2
    simp (contextual := true) (maxSteps := 1000000) (disch := omega) only [↓Sd, ↓So, ↓Sk, ↓den, ↓denA, Sa, Sb, Sc, Se, O1.d, O2.d, O3.d, cmI, arI, envOf, putN, ↓reduceIte, Nat.reduceLT, Nat.reduceSub, Nat.reduceAdd, Int.reduceAdd, Int.reduceEq, Int.reduceLT, Int.reduceLE, arr_pos, arr_neg, hte, h6, C_spec_l1Truth]
    rw [← hw]
    refine ⟨fun g => (if_pos (.inl g)).symm, fun g => ⟨fun g2 => ?_, fun g2 => (if_neg fun h => h.elim g fun h => g2 h.1).symm⟩⟩
    by_cases e : b.getD i 0 = 1
    ·rw [if_pos e, if_pos (.inr ⟨g2, e⟩)]
    ·rw [if_neg e, if_neg fun h => h.elim g fun h => e h.2]
   ·rintro us rfl
    clear haB haA hbi hno
    simp (contextual := true) (maxSteps := 1000000) (disch := omega) only [↓Sd, ↓So, ↓Sk, ↓den, ↓denA, Sa, Sb, Sc, Se, O1.d, O2.d, O3.d, cmI, arI, envOf, putN, ↓reduceIte, Nat.reduceLT, Nat.reduceSub, Nat.reduceAdd, Int.reduceAdd, Int.reduceEq, Int.reduceLT, Int.reduceLE, arr_pos, arr_neg, ]
    exact ⟨fun g => hno2 fun h => g h.symm, fun g => hyes g.symm⟩
  by_cases h7 : t.1 = 7
  ·have hbd := hbd (by omega)
   clear hai
   obtain ⟨w, hw⟩ : ∃ w : Int, (if a.getD t.2.2.2.toNat 0 = 1 ∧ (a.getD t.2.2.1.toNat 0 = 1 ∨ b.getD i 0 = 1) then (1 : Int) else 0) = w := ⟨_, rfl⟩
   have hno2 : ¬ a.getD i 0 = w → false = K := fun g => hno fun h => g (by rw [← hw]; exact h.2.2 h7)
   have hyes : a.getD i 0 = w → (t.1 = 5 → a.getD i 0 = b.getD t.2.2.1.toNat 0) ∧ (t.1 = 6 → a.getD i 0 = if a.getD t.2.2.2.toNat 0 = 1 ∨ (a.getD t.2.2.1.toNat 0 = 1 ∧ b.getD i 0 = 1) then 1 else 0) ∧ (t.1 = 7 → a.getD i 0 = if a.getD t.2.2.2.toNat 0 = 1 ∧ (a.getD t.2.2.1.toNat 0 = 1 ∨ b.getD i 0 = 1) then 1 else 0) := fun g => ⟨fun h => by omega, fun h => by omega, fun h => by rw [hw]; exact g⟩
   generalize ((t.1 = 5 → a.getD i 0 = b.getD t.2.2.1.toNat 0) ∧ (t.1 = 6 → a.getD i 0 = if a.getD t.2.2.2.toNat 0 = 1 ∨ (a.getD t.2.2.1.toNat 0 = 1 ∧ b.getD i 0 = 1) then 1 else 0) ∧ (t.1 = 7 → a.getD i 0 = if a.getD t.2.2.2.toNat 0 = 1 ∧ (a.getD t.2.2.1.toNat 0 = 1 ∨ b.getD i 0 = 1) then 1 else 0)) = P at hyes ⊢
   simp (contextual := true) (maxSteps := 1000000) (disch := omega) only [↓Sd, ↓So, ↓Sk, ↓den, ↓denA, Sa, Sb, Sc, Se, O1.d, O2.d, O3.d, cmI, arI, envOf, putN, ↓reduceIte, Nat.reduceLT, Nat.reduceSub, Nat.reduceAdd, Int.reduceAdd, Int.reduceEq, Int.reduceLT, Int.reduceLE, arr_pos, arr_neg, ]
   refine mc.wp_join (fun us => us = [⟨L T4, l⟩, ⟨L I, a⟩, ⟨L I, b⟩, ⟨I, (i : Int)⟩, ⟨I, w⟩]) ?_ ?_
   ·clear haB haA hbi hno hyes hno2
    simp (contextual := true) (maxSteps := 1000000) (disch := omega) only [↓Sd, ↓So, ↓Sk, ↓den, ↓denA, Sa, Sb, Sc, Se, O1.d, O2.d, O3.d, cmI, arI, envOf, putN, ↓reduceIte, Nat.reduceLT, Nat.reduceSub, Nat.reduceAdd, Int.reduceAdd, Int.reduceEq, Int.reduceLT, Int.reduceLE, arr_pos, arr_neg, hte, h7, C_spec_l1Truth]
    rw [← hw]
    refine ⟨fun g => ⟨fun g2 => (if_pos ⟨g, .inl g2⟩).symm, fun g2 => ?_⟩, fun g => (if_neg fun h => g h.1).symm⟩
    by_cases e : b.getD i 0 = 1
    ·rw [if_pos e, if_pos ⟨g, .inr e⟩]
    ·rw [if_neg e, if_neg fun h => h.2.elim g2 e]
   ·rintro us rfl
    clear haB haA hbi hno
    simp (contextual := true) (maxSteps := 1000000) (disch := omega) only [↓Sd, ↓So, ↓Sk, ↓den, ↓denA, Sa, Sb, Sc, Se, O1.d, O2.d, O3.d, cmI, arI, envOf, putN, ↓reduceIte, Nat.reduceLT, Nat.reduceSub, Nat.reduceAdd, Int.reduceAdd, Int.reduceEq, Int.reduceLT, Int.reduceLE, arr_pos, arr_neg, ]
    exact ⟨fun g => hno2 fun h => g h.symm, fun g => hyes g.symm⟩
  clear hai hbi haA haB hbd
  simp (contextual := true) (maxSteps := 1000000) (disch := omega) only [↓Sd, ↓So, ↓Sk, ↓den, ↓denA, Sa, Sb, Sc, Se, O1.d, O2.d, O3.d, cmI, arI, envOf, putN, ↓reduceIte, Nat.reduceLT, Nat.reduceSub, Nat.reduceAdd, Int.reduceAdd, Int.reduceEq, Int.reduceLT, Int.reduceLE, arr_pos, arr_neg, ↓wpJoin, hte, h5, h6, h7]
 ·intro g
  simp (contextual := true) (maxSteps := 1000000) (disch := omega) only [↓Sd, ↓So, ↓Sk, ↓den, ↓denA, Sa, Sb, Sc, Se, O1.d, O2.d, O3.d, cmI, arI, envOf, putN, ↓reduceIte, Nat.reduceLT, Nat.reduceSub, Nat.reduceAdd, Int.reduceAdd, Int.reduceEq, Int.reduceLT, Int.reduceLE, arr_pos, arr_neg, ]
  rw [← hK, dB_t (p := bO l a b) g]
theorem C_impl_behindOk (l : List Tm) (n : Int) (a b : List Int) (h : tV l n) (ha : a.length = l.length) (hb : b.length = l.length) (hab : ∀ x ∈ a, x = 0 ∨ x = 1) (hbb : ∀ x ∈ b, x = 0 ∨ x = 1) (Q : List AV → Prop) : mc.C f_impl_behindOk [⟨L T4, l⟩, ⟨L I, a⟩, ⟨L I, b⟩] Q = Q [⟨B, dB (bO l a b)⟩] := by
 have hl := h.2.1
 refine Mc.Ends.c (mc.ends F_impl_behindOk ?_)
 generalize hK : dB (bO l a b) = K
 simp (contextual := true) (maxSteps := 1000000) (disch := omega) only [↓Sd, ↓So, ↓Sk, ↓den, ↓denA, Sa, Sb, Sc, Se, O1.d, O2.d, O3.d, cmI, arI, envOf, putN, ↓reduceIte, Nat.reduceLT, Nat.reduceSub, Nat.reduceAdd, Int.reduceAdd, Int.reduceEq, Int.reduceLT, Int.reduceLE, arr_pos, arr_neg, tr_impl_behindOk]
 refine lp_all (fun i => [⟨L I, a⟩, ⟨L I, b⟩, ⟨L T4, l⟩, ⟨I, (l.length : Int)⟩, ⟨I, (i : Int)⟩]) (bP l a b) l.length _ rfl ?_ ?_
 ·intro i hi
  have hno : ¬ bP l a b i → false = K := fun g => by rw [← hK, dB_f fun h => g (h i hi)]
  have ht := tO_ops (h.2.2 i hi)
  unfold bP at hno ⊢
  obtain ⟨t, hte⟩ : ∃ t : Tm, l.getD i (0, 0, 0, 0) = t := ⟨_, rfl⟩
  have hte2 : l.getD i zT = t := hte
  rw [hte2] at ht hno ⊢
  have hbi := bit_get hbb i
  have haA := bit_get hab t.2.2.1.toNat
  have haB := bit_get hab t.2.2.2.toNat
  have hbd : 5 ≤ t.1 → (0 ≤ t.2.2.1 ∧ t.2.2.1 ≤ (i : Int) - 1) ∧ (0 ≤ t.2.2.2 ∧ t.2.2.2 ≤ (i : Int) - 1) := fun g => by
   rcases ht with h | h | h
   ·omega
   ·omega
   ·exact h.2
  have hge : t.1 = 5 ∨ t.1 = 6 ∨ t.1 = 7 ∨ ¬ t.1 ≥ 5 := by omega
  clear ht
  obtain ⟨w, hw⟩ : ∃ w : Int, (if t.1 = 5 then b.getD t.2.2.1.toNat 0 else if t.1 = 6 then (if a.getD t.2.2.2.toNat 0 = 1 ∨ (a.getD t.2.2.1.toNat 0 = 1 ∧ b.getD i 0 = 1) then (1 : Int) else 0) else if t.1 = 7 then (if a.getD t.2.2.2.toNat 0 = 1 ∧ (a.getD t.2.2.1.toNat 0 = 1 ∨ b.getD i 0 = 1) then (1 : Int) else 0) else a.getD i 0) = w := ⟨_, rfl⟩
  have hiff : ((t.1 = 5 → a.getD i 0 = b.getD t.2.2.1.toNat 0) ∧ (t.1 = 6 → a.getD i 0 = if a.getD t.2.2.2.toNat 0 = 1 ∨ (a.getD t.2.2.1.toNat 0 = 1 ∧ b.getD i 0 = 1) then 1 else 0) ∧ (t.1 = 7 → a.getD i 0 = if a.getD t.2.2.2.toNat 0 = 1 ∧ (a.getD t.2.2.1.toNat 0 = 1 ∨ b.getD i 0 = 1) then 1 else 0)) ↔ a.getD i 0 = w := by
   rw [← hw]
   by_cases h5 : t.1 = 5
   ·rw [if_pos h5]; exact ⟨fun h => h.1 h5, fun h => ⟨fun _ => h, fun g => by omega, fun g => by omega⟩⟩
   by_cases h6 : t.1 = 6
   ·rw [if_neg h5, if_pos h6]; exact ⟨fun h => h.2.1 h6, fun h => ⟨fun g => by omega, fun _ => h, fun g => by omega⟩⟩
   by_cases h7 : t.1 = 7
   ·rw [if_neg h5, if_neg h6, if_pos h7]; exact ⟨fun h => h.2.2 h7, fun h => ⟨fun g => by omega, fun g => by omega, fun _ => h⟩⟩
   ·rw [if_neg h5, if_neg h6, if_neg h7]; exact ⟨fun _ => rfl, fun _ => ⟨fun g => absurd g h5, fun g => absurd g h6, fun g => absurd g h7⟩⟩
  rw [hiff] at hno ⊢
  clear hiff
  rcases hge with h5 | h6 | h7 | hlow
  ·have hbd := hbd (by omega)
   rw [if_pos h5] at hw
   clear hbi haA haB
   simp (contextual := true) (maxSteps := 1000000) (disch := omega) only [↓Sd, ↓So, ↓Sk, ↓den, ↓denA, Sa, Sb, Sc, Se, O1.d, O2.d, O3.d, cmI, arI, envOf, putN, ↓reduceIte, Nat.reduceLT, Nat.reduceSub, Nat.reduceAdd, Int.reduceAdd, Int.reduceEq, Int.reduceLT, Int.reduceLE, arr_pos, arr_neg, ↓wpJoin, hte, h5, hw]
   exact hno
  ·have hbd := hbd (by omega)
   rw [if_neg (by omega), if_pos h6, ← or_and haB haA hbi] at hw
   clear hbi haA haB
   simp (contextual := true) (maxSteps := 1000000) (disch := omega) only [↓Sd, ↓So, ↓Sk, ↓den, ↓denA, Sa, Sb, Sc, Se, O1.d, O2.d, O3.d, cmI, arI, envOf, putN, ↓reduceIte, Nat.reduceLT, Nat.reduceSub, Nat.reduceAdd, Int.reduceAdd, Int.reduceEq, Int.reduceLT, Int.reduceLE, arr_pos, arr_neg, ↓wpJoin, hte, h6, hw]
   exact hno
  ·have hbd := hbd (by omega)
   rw [if_neg (by omega), if_neg (by omega), if_pos h7, ← and_or haB haA hbi] at hw
   clear hbi haA haB
   simp (contextual := true) (maxSteps := 1000000) (disch := omega) only [↓Sd, ↓So, ↓Sk, ↓den, ↓denA, Sa, Sb, Sc, Se, O1.d, O2.d, O3.d, cmI, arI, envOf, putN, ↓reduceIte, Nat.reduceLT, Nat.reduceSub, Nat.reduceAdd, Int.reduceAdd, Int.reduceEq, Int.reduceLT, Int.reduceLE, arr_pos, arr_neg, ↓wpJoin, hte, h7, hw]
   exact hno
  ·rw [if_neg (by omega), if_neg (by omega), if_neg (by omega)] at hw
   have hne : ¬ t.1 = 5 ∧ ¬ t.1 = 6 ∧ ¬ t.1 = 7 := by omega
   clear hbi haA haB
   simp (contextual := true) (maxSteps := 1000000) (disch := omega) only [↓Sd, ↓So, ↓Sk, ↓den, ↓denA, Sa, Sb, Sc, Se, O1.d, O2.d, O3.d, cmI, arI, envOf, putN, ↓reduceIte, Nat.reduceLT, Nat.reduceSub, Nat.reduceAdd, Int.reduceAdd, Int.reduceEq, Int.reduceLT, Int.reduceLE, arr_pos, arr_neg, ↓wpJoin, hte, hlow, hne.1, hne.2.1, hne.2.2, hw]
 ·intro g
  simp (contextual := true) (maxSteps := 1000000) (disch := omega) only [↓Sd, ↓So, ↓Sk, ↓den, ↓denA, Sa, Sb, Sc, Se, O1.d, O2.d, O3.d, cmI, arI, envOf, putN, ↓reduceIte, Nat.reduceLT, Nat.reduceSub, Nat.reduceAdd, Int.reduceAdd, Int.reduceEq, Int.reduceLT, Int.reduceLE, arr_pos, arr_neg, ]
  rw [← hK, dB_t (p := bO l a b) g]
theorem upTo_filter {p q : Nat → Bool} : ∀ {n : Nat}, (upTo p n).filter (fun x => q x.toNat) = upTo (fun k => p k && q k) n
 | 0 => rfl
 | n + 1 => by
  by_cases g : p n = true
  ·rw [upTo_s g, List.filter_append, upTo_filter]
   by_cases g2 : q n = true
   ·rw [upTo_s (p := fun k => p k && q k) (by simp [g, g2])]
    simp [g2]
   ·rw [upTo_n (p := fun k => p k && q k) (by simp [g, g2])]
    simp [g2]
  ·rw [upTo_n g, upTo_n (p := fun k => p k && q k) (by simp [g]), upTo_filter]
def gM (l : List Tm) (n : Nat) : Nat := 2 ^ gK l n
def gT (l : List Tm) (n g : Nat) : List Int := trv l n (vb g (gK l n))
def fitB (s : Sy) (F : List (List Tm)) (l : List Tm) (k : Nat) : Bool := decide (ltr F (stN s (k / gM l F.length)) = (vb (k % gM l F.length) (gK l F.length)).take F.length)
noncomputable def bhB (l : List Tm) (n g h : Nat) : Bool := dB (bO l (gT l n g) (gT l n h))
noncomputable def rowX (s : Sy) (F : List (List Tm)) (l : List Tm) (g : Nat) (x : Int) : List Int := (upTo (fun h => bhB l F.length g h && fitB s F l (x.toNat * gM l F.length + h)) (gM l F.length)).map fun h => x * (gM l F.length : Int) + h
noncomputable def rowP (s : Sy) (F : List (List Tm)) (l : List Tm) (k : Nat) : List Int :=
 if fitB s F l k = true then ((onw s).getD (k / gM l F.length) []).flatMap (rowX s F l (k % gM l F.length)) else []
structure PAsk (s : Sy) (F : List (List Tm)) (l : List Tm) : Prop where
 facts : fOk s F
 few : szn s.1 ≤ 50
 ask : Ask l F.length
noncomputable def graphP (s : Sy) (F : List (List Tm)) (l : List Tm) : List (List Int) := tab (rowP s F l) (szn s.1 * gM l F.length)
theorem pair_lt {x S h m : Nat} (hx : x < S) (hh : h < m) : x * m + h < S * m := by
 have h1 : (x + 1) * m ≤ S * m := Nat.mul_le_mul_right m hx
 rw [Nat.add_mul, Nat.one_mul] at h1
 omega
theorem PAsk.m {s : Sy} {F : List (List Tm)} {l : List Tm} (h : PAsk s F l) : 1 ≤ gM l F.length ∧ gM l F.length ≤ 128 := pow_bd h.ask.few
theorem PAsk.N {s : Sy} {F : List (List Tm)} {l : List Tm} (h : PAsk s F l) : szn s.1 * gM l F.length ≤ 6400 := by
 have h1 := h.few
 have h2 := h.m.2
 exact Nat.le_trans (Nat.mul_le_mul h1 h2) (by decide)
theorem gT_len {l : List Tm} {n g : Nat} : (gT l n g).length = l.length := trN_len
theorem gT_bit {l : List Tm} {n g : Nat} : ∀ x ∈ gT l n g, x = 0 ∨ x = 1 := trN_bit vb_bit
theorem mapL_snoc {α β : Type} {f : α → β} {l : List α} {x : α} : (l ++ [x]).map f = l.map f ++ [f x] := by simp
theorem C_spec_l22Row (s : Sy) (F : List (List Tm)) (l : List Tm) (G : List (List Int)) (X : List Int) (k : Nat) (h : PAsk s F l) (hk : k < szn s.1 * gM l F.length) (hX : ∀ x ∈ X, 0 ≤ x ∧ x < (szn s.1 : Int)) (hXl : X.length ≤ 400) (Q : List AV → Prop) :
  mc.C f_spec_l22Row [⟨I, (gM l F.length : Int)⟩, ⟨L (L I), tab (gT l F.length) (gM l F.length)⟩, ⟨L B, tab (fitB s F l) (szn s.1 * gM l F.length)⟩, ⟨L (L I), G⟩, ⟨L T4, l⟩, ⟨L I, X⟩, ⟨I, (k : Int)⟩] Q = Q [⟨L I, if fitB s F l k = true then X.flatMap (rowX s F l (k % gM l F.length)) else []⟩] := by
 have hm := h.m
 have hN := h.N
 have htv := h.ask.tv
 have hS := h.few
 obtain ⟨m, hme⟩ : ∃ m, gM l F.length = m := ⟨_, rfl⟩
 obtain ⟨N, hNe⟩ : ∃ N, szn s.1 * m = N := ⟨_, rfl⟩
 obtain ⟨n, hne⟩ : ∃ n, F.length = n := ⟨_, rfl⟩
 have hrx : ∀ g x, rowX s F l g x = (upTo (fun h => bhB l n g h && fitB s F l (x.toNat * m + h)) m).map fun h => x * (m : Int) + h := fun g x => by unfold rowX; rw [hme, hne]
 rw [hme] at hm hN hk ⊢
 rw [hNe] at hN hk ⊢
 rw [hne]
 obtain ⟨g, hg⟩ : ∃ g, k % m = g := ⟨_, rfl⟩
 have hgm : g < m := by rw [← hg]; exact Nat.mod_lt _ (by omega)
 have hgi : (k : Int) % (m : Int) = (g : Int) := by rw [← hg]; rfl
 rw [hg]
 refine Mc.Ends.c (mc.ends F_spec_l22Row ?_)
 by_cases hf : fitB s F l k = true
 ·rw [if_pos hf]
  simp (contextual := true) (maxSteps := 1000000) (disch := omega) only [↓Sd, ↓So, ↓Sk, ↓den, ↓denA, Sa, Sb, Sc, Se, O1.d, O2.d, O3.d, cmI, arI, envOf, putN, ↓reduceIte, Nat.reduceLT, Nat.reduceSub, Nat.reduceAdd, Int.reduceAdd, Int.reduceEq, Int.reduceLT, Int.reduceLE, arr_pos, arr_neg, ↓wpJoin, tr_spec_l22Row]
  refine mc.lp_for (List Int) (fun i o => [⟨L T4, l⟩, ⟨L I, X⟩, ⟨I, (k : Int)⟩, ⟨I, (i : Int)⟩, ⟨I, (m : Int)⟩, ⟨L (L I), tab (gT l n) m⟩, ⟨L B, tab (fitB s F l) N⟩, ⟨L (L I), G⟩, ⟨L I, o⟩]) (fun i o => o = (X.take i).flatMap (rowX s F l g) ∧ o.length ≤ 128 * i) X.length 0 [] _ rfl (Nat.zero_le _) ⟨rfl, by simp⟩ ?_ ?_
  ·rintro i o hi ⟨rfl, hol⟩
   have hx := hX _ (getD_mem (d := 0) hi)
   obtain ⟨x, hxe⟩ : ∃ x : Nat, X.getD i 0 = x := ⟨(X.getD i 0).toNat, by omega⟩
   have hxS : x < szn s.1 := by omega
   obtain ⟨y, hy⟩ : ∃ y : Nat, x * m = y := ⟨_, rfl⟩
   have hyi : (x : Int) * (m : Int) = (y : Int) := by rw [← hy]; rfl
   have hyN : ∀ h, h < m → y + h < N := fun h hh => by rw [← hy, ← hNe]; exact pair_lt hxS hh
   have hy0 := hyN 0 (by omega)
   obtain ⟨base, hbase⟩ : ∃ base, (X.take i).flatMap (rowX s F l g) = base := ⟨_, rfl⟩
   have hend : (X.take (i + 1)).flatMap (rowX s F l g) = base ++ (upTo (fun h => bhB l n g h && fitB s F l (y + h)) m).map fun h => (y : Int) + h := by
    rw [← take_next (d := 0) hi, List.flatMap_append, hbase, hxe]
    simp only [List.flatMap_cons, List.flatMap_nil, List.append_nil, hrx, Int.toNat_natCast, hy, hyi]
   rw [hbase] at hol ⊢
   simp (contextual := true) (maxSteps := 1000000) (disch := omega) only [↓Sd, ↓So, ↓Sk, ↓den, ↓denA, Sa, Sb, Sc, Se, O1.d, O2.d, O3.d, cmI, arI, envOf, putN, ↓reduceIte, Nat.reduceLT, Nat.reduceSub, Nat.reduceAdd, Int.reduceAdd, Int.reduceEq, Int.reduceLT, Int.reduceLE, arr_pos, arr_neg, tab_len, tab_get hk, hf]
   refine mc.lp_for (List Int) (fun j o => [⟨L T4, l⟩, ⟨L I, X⟩, ⟨I, (k : Int)⟩, ⟨I, (i : Int)⟩, ⟨I, (j : Int)⟩, ⟨I, (m : Int)⟩, ⟨L (L I), tab (gT l n) m⟩, ⟨L B, tab (fitB s F l) N⟩, ⟨L (L I), G⟩, ⟨L I, o⟩]) (fun j o => o = base ++ (upTo (fun h => bhB l n g h && fitB s F l (y + h)) j).map fun h => (y : Int) + h) m 0 base _ rfl (Nat.zero_le _) (by simp [upTo]) ?_ ?_
   ·rintro j o hj rfl
    have hyj := hyN j hj
    have hol2 : ((upTo (fun h => bhB l n g h && fitB s F l (y + h)) j).map fun h => (y : Int) + h).length ≤ 128 := by
     have := @upTo_len (fun h => bhB l n g h && fitB s F l (y + h)) j
     rw [List.length_map]; omega
    have yes : (bhB l n g j && fitB s F l (y + j)) = true → base ++ ((upTo (fun h => bhB l n g h && fitB s F l (y + h)) j).map fun h => (y : Int) + h) ++ [(y : Int) + (j : Int)] = base ++ (upTo (fun h => bhB l n g h && fitB s F l (y + h)) (j + 1)).map fun h => (y : Int) + h := fun hb => by
     rw [upTo_s (p := fun h => bhB l n g h && fitB s F l (y + h)) hb, mapL_snoc, List.append_assoc]
    have no : ¬ (bhB l n g j && fitB s F l (y + j)) = true → base ++ ((upTo (fun h => bhB l n g h && fitB s F l (y + h)) j).map fun h => (y : Int) + h) = base ++ (upTo (fun h => bhB l n g h && fitB s F l (y + h)) (j + 1)).map fun h => (y : Int) + h := fun hb => by
     rw [upTo_n (p := fun h => bhB l n g h && fitB s F l (y + h)) hb]
    have hidx : ((y : Int) + (j : Int)).toNat = y + j := by omega
    simp (contextual := true) (maxSteps := 1000000) (disch := omega) only [↓Sd, ↓So, ↓Sk, ↓den, ↓denA, Sa, Sb, Sc, Se, O1.d, O2.d, O3.d, cmI, arI, envOf, putN, ↓reduceIte, Nat.reduceLT, Nat.reduceSub, Nat.reduceAdd, Int.reduceAdd, Int.reduceEq, Int.reduceLT, Int.reduceLE, arr_pos, arr_neg, ↓wpJoin, hxe, hyi, hidx, tab_len, tab_get hyj, hgi, Int.toNat_natCast, tab_get hgm, tab_get hj, C_spec_l21Next l n (gT l n g) (gT l n j) (by rw [← hne]; exact htv) gT_len gT_len gT_bit gT_bit]
    refine ⟨fun g1 => ⟨fun g2 => yes (by unfold bhB; rw [g1, g2]; rfl), fun g2 => no fun h => ?_⟩, fun g1 => no fun h => ?_⟩
    ·rw [Bool.and_eq_true] at h; exact g2 h.1
    ·rw [Bool.and_eq_true] at h; exact g1 h.2
   ·rintro o rfl
    simp (contextual := true) (maxSteps := 1000000) (disch := omega) only [↓Sd, ↓So, ↓Sk, ↓den, ↓denA, Sa, Sb, Sc, Se, O1.d, O2.d, O3.d, cmI, arI, envOf, putN, ↓reduceIte, Nat.reduceLT, Nat.reduceSub, Nat.reduceAdd, Int.reduceAdd, Int.reduceEq, Int.reduceLT, Int.reduceLE, arr_pos, arr_neg, ]
    have hul := @upTo_len (fun h => bhB l n g h && fitB s F l (y + h)) m
    exact ⟨hend.symm, by rw [List.length_map]; omega⟩
  ·rintro o ⟨rfl, -⟩
   rw [List.take_length]
   simp (contextual := true) (maxSteps := 1000000) (disch := omega) only [↓Sd, ↓So, ↓Sk, ↓den, ↓denA, Sa, Sb, Sc, Se, O1.d, O2.d, O3.d, cmI, arI, envOf, putN, ↓reduceIte, Nat.reduceLT, Nat.reduceSub, Nat.reduceAdd, Int.reduceAdd, Int.reduceEq, Int.reduceLT, Int.reduceLE, arr_pos, arr_neg, ]
 ·rw [if_neg hf]
  simp (contextual := true) (maxSteps := 1000000) (disch := omega) only [↓Sd, ↓So, ↓Sk, ↓den, ↓denA, Sa, Sb, Sc, Se, O1.d, O2.d, O3.d, cmI, arI, envOf, putN, ↓reduceIte, Nat.reduceLT, Nat.reduceSub, Nat.reduceAdd, Int.reduceAdd, Int.reduceEq, Int.reduceLT, Int.reduceLE, arr_pos, arr_neg, ↓wpJoin, tr_spec_l22Row]
  refine mc.lp_step ?_
  simp (contextual := true) (maxSteps := 1000000) (disch := omega) only [↓Sd, ↓So, ↓Sk, ↓den, ↓denA, Sa, Sb, Sc, Se, O1.d, O2.d, O3.d, cmI, arI, envOf, putN, ↓reduceIte, Nat.reduceLT, Nat.reduceSub, Nat.reduceAdd, Int.reduceAdd, Int.reduceEq, Int.reduceLT, Int.reduceLE, arr_pos, arr_neg, tab_len, tab_get hk, hf]
end Go.Proofs.YtdcdnfcmllfmlaaGreat
namespace Go.Proofs.YtdcdnfcmllfmlaaGreat
open Go Go.Sm Go.Sm.Q
set_option linter.unusedSimpArgs false
set_option linter.unusedVariables false
theorem C_spec_l22Make (s : Sy) (F : List (List Tm)) (l : List Tm) (hs : FewSy s) (hf : Few l) (hA : asked l F.length) (h : PAsk s F l) (Q : List AV → Prop) : mc.C f_spec_l22Make [⟨L V3, s.1⟩, ⟨L TR, s.2⟩, ⟨L (L T4), F⟩, ⟨L T4, l⟩] Q =
  Q [⟨I, (gM l F.length : Int)⟩, ⟨L (L I), tab (gT l F.length) (gM l F.length)⟩, ⟨L B, tab (fitB s F l) (szn s.1 * gM l F.length)⟩, ⟨L (L I), graphP s F l⟩] := by
 have hv := h.facts.1
 have hm := h.m
 have hN := h.N
 have h7 := h.ask.few
 have hS := h.few
 have hF4 := h.facts.2.1
 have hc : gC l F.length = gM l F.length := if_pos hA
 have hrow := fun G X k => C_spec_l22Row s F l G X k h
 have honw : (onw s).length = szn s.1 := tab_len
 obtain ⟨m, hme⟩ : ∃ m, gM l F.length = m := ⟨_, rfl⟩
 have hKm : 2 ^ gK l F.length = m := hme
 have hmany := C_spec_manyPow (gK l F.length) h7
 have hfit : ∀ k, fitB s F l k = decide (ltr F (stN s (k / m)) = (vb (k % m) (gK l F.length)).take F.length) := fun k => by unfold fitB; rw [hme]
 obtain ⟨N, hNe⟩ : ∃ N, szn s.1 * m = N := ⟨_, rfl⟩
 unfold graphP
 rw [hme] at hm hN hc hrow ⊢
 rw [hKm] at hmany
 rw [hNe] at hN hrow ⊢
 refine Mc.Ends.c (mc.ends F_spec_l22Make ?_)
 simp (contextual := true) (maxSteps := 1000000) (disch := omega) only [↓Sd, ↓So, ↓Sk, ↓den, ↓denA, Sa, Sb, Sc, Se, O1.d, O2.d, O3.d, cmI, arI, envOf, putN, ↓reduceIte, Nat.reduceLT, Nat.reduceSub, Nat.reduceAdd, Int.reduceAdd, Int.reduceEq, Int.reduceLT, Int.reduceLE, arr_pos, arr_neg, tr_spec_l22Make, C_spec_GuessCount l F.length hf (by omega), hc]
 refine mc.lp_for (List (List Int)) (fun i o => [⟨L (L T4), F⟩, ⟨L T4, l⟩, ⟨I, (i : Int)⟩, ⟨L V3, s.1⟩, ⟨L TR, s.2⟩, ⟨I, (0 : Int)⟩, ⟨I, (m : Int)⟩, ⟨L (L I), o⟩]) (fun i o => o = tab (gT l F.length) i) m 0 [] _ rfl (Nat.zero_le _) rfl ?_ ?_
 ·rintro i o hi rfl
  simp (contextual := true) (maxSteps := 1000000) (disch := omega) only [↓Sd, ↓So, ↓Sk, ↓den, ↓denA, Sa, Sb, Sc, Se, O1.d, O2.d, O3.d, cmI, arI, envOf, putN, ↓reduceIte, Nat.reduceLT, Nat.reduceSub, Nat.reduceAdd, Int.reduceAdd, Int.reduceEq, Int.reduceLT, Int.reduceLE, arr_pos, arr_neg, tab_len, C_spec_l21At l F.length i h.ask (by omega)]
  exact tab_next
 rintro o rfl
 simp (contextual := true) (maxSteps := 1000000) (disch := omega) only [↓Sd, ↓So, ↓Sk, ↓den, ↓denA, Sa, Sb, Sc, Se, O1.d, O2.d, O3.d, cmI, arI, envOf, putN, ↓reduceIte, Nat.reduceLT, Nat.reduceSub, Nat.reduceAdd, Int.reduceAdd, Int.reduceEq, Int.reduceLT, Int.reduceLE, arr_pos, arr_neg, C_spec_l22Onward s hs hv]
 have hNi : ((onw s).length : Int) * (m : Int) = (N : Int) := by rw [honw, ← hNe]; rfl
 refine mc.lp_for (List Bool) (fun i o => [⟨L (L T4), F⟩, ⟨L T4, l⟩, ⟨I, (i : Int)⟩, ⟨L V3, s.1⟩, ⟨L TR, s.2⟩, ⟨I, (0 : Int)⟩, ⟨I, (m : Int)⟩, ⟨L (L I), tab (gT l F.length) m⟩, ⟨L B, o⟩, ⟨L (L I), onw s⟩]) (fun i o => o = tab (fitB s F l) i) N 0 [] _ rfl (Nat.zero_le _) rfl ?_ ?_
 ·rintro i o hi rfl
  have hq : i / m < szn s.1 := Nat.div_lt_of_lt_mul (by rw [Nat.mul_comm, hNe]; exact hi)
  have hr : i % m < m := Nat.mod_lt _ (by omega)
  have hfi := hfit i
  obtain ⟨q, hqe⟩ : ∃ q, i / m = q := ⟨_, rfl⟩
  obtain ⟨r, hre⟩ : ∃ r, i % m = r := ⟨_, rfl⟩
  have hqi : (i : Int) / (m : Int) = (q : Int) := by rw [← hqe]; rfl
  have hri : (i : Int) % (m : Int) = (r : Int) := by rw [← hre]; rfl
  rw [hqe] at hq hfi
  rw [hre] at hr hfi
  clear hqe hre hfit
  have hat := fOk_at h.facts hq
  have hst : stAt s.1 (q : Int) = stN s q := rfl
  have hbl : (vb r (gK l F.length)).length = gK l F.length := vb_len
  have hKF : F.length ≤ gK l F.length := by unfold gK; omega
  have htl : ((vb r (gK l F.length)).take F.length).length ≤ 1048576 := by rw [List.length_take]; omega
  have hll : (ltr F (stN s q)).length ≤ 1048576 := by rw [ltr, tab_len]; omega
  simp (contextual := true) (maxSteps := 1000000) (disch := omega) only [↓Sd, ↓So, ↓Sk, ↓den, ↓denA, Sa, Sb, Sc, Se, O1.d, O2.d, O3.d, cmI, arI, envOf, putN, ↓reduceIte, Nat.reduceLT, Nat.reduceSub, Nat.reduceAdd, Int.reduceAdd, Int.reduceEq, Int.reduceLT, Int.reduceLE, arr_pos, arr_neg, ↓wpJoin, hNi, tab_len, hqi, hri, C_spec_l4State s (q : Int) hs hv (by omega), hst, C_spec_l20Of F (stN s q) hF4 hat.1 hat.2, hmany, C_spec_l6Value r (gK l F.length) (by omega) (by omega), hbl, Int.toNat_natCast, C_spec_l2Same (ltr F (stN s q)) ((vb r (gK l F.length)).take F.length) hll htl]
  rw [← hfi]
  exact tab_next
 rintro o rfl
 simp (contextual := true) (maxSteps := 1000000) (disch := omega) only [↓Sd, ↓So, ↓Sk, ↓den, ↓denA, Sa, Sb, Sc, Se, O1.d, O2.d, O3.d, cmI, arI, envOf, putN, ↓reduceIte, Nat.reduceLT, Nat.reduceSub, Nat.reduceAdd, Int.reduceAdd, Int.reduceEq, Int.reduceLT, Int.reduceLE, arr_pos, arr_neg, hNi]
 refine mc.lp_for (List (List Int)) (fun i o => [⟨L T4, l⟩, ⟨I, (i : Int)⟩, ⟨I, (0 : Int)⟩, ⟨I, (m : Int)⟩, ⟨L (L I), tab (gT l F.length) m⟩, ⟨L B, tab (fitB s F l) N⟩, ⟨L (L I), o⟩, ⟨L (L I), onw s⟩]) (fun i o => o = tab (rowP s F l) i) N 0 [] _ rfl (Nat.zero_le _) rfl ?_ ?_
 ·rintro i o hi rfl
  have hq : i / m < szn s.1 := Nat.div_lt_of_lt_mul (by rw [Nat.mul_comm, hNe]; exact hi)
  have hrp : rowP s F l i = if fitB s F l i = true then ((onw s).getD (i / m) []).flatMap (rowX s F l (i % m)) else [] := by unfold rowP; rw [hme]
  obtain ⟨q, hqe⟩ : ∃ q, i / m = q := ⟨_, rfl⟩
  have hqi : (i : Int) / (m : Int) = (q : Int) := by rw [← hqe]; rfl
  rw [hqe] at hq hrp
  have hXr : ∀ x ∈ (onw s).getD q [], 0 ≤ x ∧ x < (szn s.1 : Int) := by
   rw [onw_row hq]
   split
   ·intro x hx; rw [List.mem_singleton.1 hx]; omega
   ·exact (steps_tbl hv).row
  have hXl : ((onw s).getD q []).length ≤ 400 := by
   rw [onw_row hq]
   split
   ·simp
   ·have := (steps_tb8 hv).2.2 _ (getD_mem (d := []) (i := q) (by rw [(steps_tb8 hv).1.1]; exact hq))
    omega
  clear hqe
  simp (contextual := true) (maxSteps := 1000000) (disch := omega) only [↓Sd, ↓So, ↓Sk, ↓den, ↓denA, Sa, Sb, Sc, Se, O1.d, O2.d, O3.d, cmI, arI, envOf, putN, ↓reduceIte, Nat.reduceLT, Nat.reduceSub, Nat.reduceAdd, Int.reduceAdd, Int.reduceEq, Int.reduceLT, Int.reduceLE, arr_pos, arr_neg, tab_len, hqi, honw, Int.toNat_natCast, hrow (tab (rowP s F l) i) ((onw s).getD q []) i hi hXr hXl]
  rw [← hrp]
  exact tab_next
 ·rintro o rfl
  simp (contextual := true) (maxSteps := 1000000) (disch := omega) only [↓Sd, ↓So, ↓Sk, ↓den, ↓denA, Sa, Sb, Sc, Se, O1.d, O2.d, O3.d, cmI, arI, envOf, putN, ↓reduceIte, Nat.reduceLT, Nat.reduceSub, Nat.reduceAdd, Int.reduceAdd, Int.reduceEq, Int.reduceLT, Int.reduceLE, arr_pos, arr_neg, tab_len]
noncomputable def bhL (l : List Tm) (n m g : Nat) : List Int := upTo (fun h => bhB l n g h) m
noncomputable def bhT (l : List Tm) (n m p : Nat) : List (List Int) := tab (fun g => if g < p then bhL l n m g else []) m
noncomputable def nxP (s : Sy) (F : List (List Tm)) (l : List Tm) (N p : Nat) : List (List Int) := tab (fun k => if k < p then rowP s F l k else []) N
theorem tabIf_set {α : Type} {f : Nat → List α} {N p : Nat} : (tab (fun k => if k < p then f k else []) N).set p (f p) = tab (fun k => if k < p + 1 then f k else []) N := by
 rw [tab_set']
 refine tab_congr fun k _ => ?_
 by_cases e : k = p
 ·subst e; rw [if_pos rfl, if_pos (by omega)]
 ·rw [if_neg e]
  by_cases e2 : k < p
  ·rw [if_pos e2, if_pos (by omega)]
  ·rw [if_neg e2, if_neg (by omega)]
theorem tabIf_id {α : Type} {f : Nat → List α} {N p : Nat} : (tab (fun k => if k < p then f k else []) N).set p [] = tab (fun k => if k < p then f k else []) N := by
 rw [tab_set']
 refine tab_congr fun k _ => ?_
 by_cases e : k = p
 ·subst e; rw [if_pos rfl, if_neg (by omega)]
 ·rw [if_neg e]
theorem tabIf_nil {α : Type} {f : Nat → List α} {N p : Nat} (h : f p = []) : tab (fun k => if k < p then f k else []) N = tab (fun k => if k < p + 1 then f k else []) N := by
 rw [← tabIf_set, h, tabIf_id]
theorem tabIf_0 {α : Type} {f : Nat → List α} {N : Nat} : List.replicate N ([] : List α) = tab (fun k => if k < 0 then f k else []) N := by
 rw [rep_tab]
 exact tab_congr fun k _ => (if_neg (by omega)).symm
theorem tabIf_n {α : Type} {f : Nat → List α} {N : Nat} : tab (fun k => if k < N then f k else []) N = tab f N := tab_congr fun k hk => if_pos hk
theorem take_filter {l : List Int} {f : Int → Bool} {i : Nat} (hi : i < l.length) : (l.take (i + 1)).filter f = (l.take i).filter f ++ if f (l.getD i 0) = true then [l.getD i 0] else [] := by
 rw [← take_next (d := 0) hi, List.filter_append]
 congr 1
 by_cases h : f (l.getD i 0) = true
 ·rw [if_pos h]; simp only [List.filter_cons, h, if_true, List.filter_nil]
 ·have h2 : f (l.getD i 0) = false := by simpa using h
  rw [if_neg h]; simp only [List.filter_cons, h2, Bool.false_eq_true, if_false, List.filter_nil]
abbrev PBox : Ty := P (P (L V3) (L TR)) (P (L (L T4)) (P (L T4) (P I (P (L (L I)) (P (L B) (L (L I)))))))
theorem C_impl_productOf (s : Sy) (F : List (List Tm)) (l : List Tm) (hs : FewSy s) (hf : Few l) (hA : asked l F.length) (h : PAsk s F l) (Q : List AV → Prop) : mc.C f_impl_productOf [⟨L V3, s.1⟩, ⟨L TR, s.2⟩, ⟨L (L T4), F⟩, ⟨L T4, l⟩] Q =
  Q [⟨PBox, ((s.1, s.2), (F, (l, ((gM l F.length : Int), (tab (gT l F.length) (gM l F.length), (tab (fitB s F l) (szn s.1 * gM l F.length), graphP s F l))))))⟩] := by
 have hv := h.facts.1
 have hz := szn_eq hv
 have hm := h.m
 have hN := h.N
 have h7 := h.ask.few
 have htv := h.ask.tv
 have hS := h.few
 have hF4 := h.facts.2.1
 have hc : gC l F.length = gM l F.length := if_pos hA
 have honw : (onw s).length = szn s.1 := tab_len
 obtain ⟨m, hme⟩ : ∃ m, gM l F.length = m := ⟨_, rfl⟩
 have hKm : 2 ^ gK l F.length = m := hme
 have hfit : ∀ x g, g < m → fitB s F l (x * m + g) = decide (ltr F (stN s x) = (vb g (gK l F.length)).take F.length) := fun x g hg => by
  unfold fitB
  rw [hme]
  have e1 : (x * m + g) / m = x := by rw [Nat.mul_comm, Nat.mul_add_div (by omega), Nat.div_eq_of_lt hg, Nat.add_zero]
  have e2 : (x * m + g) % m = g := by rw [Nat.mul_comm, Nat.mul_add_mod, Nat.mod_eq_of_lt hg]
  rw [e1, e2]
 have hrp : ∀ x g, g < m → rowP s F l (x * m + g) = if fitB s F l (x * m + g) = true then ((onw s).getD x []).flatMap (rowX s F l g) else [] := fun x g hg => by
  unfold rowP
  rw [hme]
  have e1 : (x * m + g) / m = x := by rw [Nat.mul_comm, Nat.mul_add_div (by omega), Nat.div_eq_of_lt hg, Nat.add_zero]
  have e2 : (x * m + g) % m = g := by rw [Nat.mul_comm, Nat.mul_add_mod, Nat.mod_eq_of_lt hg]
  rw [e1, e2]
 have hrx : ∀ g x, rowX s F l g x = (upTo (fun h => bhB l F.length g h && fitB s F l (x.toNat * m + h)) m).map fun h => x * (m : Int) + h := fun g x => by unfold rowX; rw [hme]
 obtain ⟨N, hNe⟩ : ∃ N, szn s.1 * m = N := ⟨_, rfl⟩
 have hpair : ∀ x g, x < szn s.1 → g < m → x * m + g < N := fun x g hx hg => by rw [← hNe]; exact pair_lt hx hg
 unfold graphP
 rw [hme] at hm hN hc ⊢
 rw [hNe] at hN ⊢
 refine Mc.Ends.c (mc.ends F_impl_productOf ?_)
 simp (contextual := true) (maxSteps := 1000000) (disch := omega) only [↓Sd, ↓So, ↓Sk, ↓den, ↓denA, Sa, Sb, Sc, Se, O1.d, O2.d, O3.d, cmI, arI, envOf, putN, ↓reduceIte, Nat.reduceLT, Nat.reduceSub, Nat.reduceAdd, Int.reduceAdd, Int.reduceEq, Int.reduceLT, Int.reduceLE, arr_pos, arr_neg, tr_impl_productOf, C_impl_GuessCount l F.length hf (by omega), hc]
 refine mc.lp_for (List (List Int)) (fun i o => [⟨L (L T4), F⟩, ⟨L T4, l⟩, ⟨I, (m : Int)⟩, ⟨I, (i : Int)⟩, ⟨L V3, s.1⟩, ⟨L TR, s.2⟩, ⟨L V3, s.1⟩, ⟨L TR, s.2⟩, ⟨L (L T4), F⟩, ⟨L T4, l⟩, ⟨I, (m : Int)⟩, ⟨L (L I), o⟩]) (fun i o => o = tab (gT l F.length) i) m 0 [] _ rfl (Nat.zero_le _) rfl ?_ ?_
 ·rintro i o hi rfl
  simp (contextual := true) (maxSteps := 1000000) (disch := omega) only [↓Sd, ↓So, ↓Sk, ↓den, ↓denA, Sa, Sb, Sc, Se, O1.d, O2.d, O3.d, cmI, arI, envOf, putN, ↓reduceIte, Nat.reduceLT, Nat.reduceSub, Nat.reduceAdd, Int.reduceAdd, Int.reduceEq, Int.reduceLT, Int.reduceLE, arr_pos, arr_neg, tab_len, C_impl_truths l F.length i hf h.ask (by omega)]
  exact tab_next
 rintro o rfl
 obtain ⟨S, hSe⟩ : ∃ S, szn s.1 = S := ⟨_, rfl⟩
 have hszS : sz s.1 = (S : Int) := by rw [← hSe]; exact hz.1.symm
 simp (contextual := true) (maxSteps := 1000000) (disch := omega) only [↓Sd, ↓So, ↓Sk, ↓den, ↓denA, Sa, Sb, Sc, Se, O1.d, O2.d, O3.d, cmI, arI, envOf, putN, ↓reduceIte, Nat.reduceLT, Nat.reduceSub, Nat.reduceAdd, Int.reduceAdd, Int.reduceEq, Int.reduceLT, Int.reduceLE, arr_pos, arr_neg, C_impl_size s.1 hv.1.2 hv.2.2.1, hszS]
 refine mc.lp_for (List Bool) (fun x o => [⟨L (L T4), F⟩, ⟨L T4, l⟩, ⟨I, (S : Int)⟩, ⟨I, (S : Int)⟩, ⟨I, (x : Int)⟩, ⟨L V3, s.1⟩, ⟨L TR, s.2⟩, ⟨L V3, s.1⟩, ⟨L TR, s.2⟩, ⟨L (L T4), F⟩, ⟨L T4, l⟩, ⟨I, (m : Int)⟩, ⟨L (L I), tab (gT l F.length) m⟩, ⟨L B, o⟩]) (fun x o => o = tab (fitB s F l) (x * m)) S 0 [] _ rfl (Nat.zero_le _) (by rw [Nat.zero_mul]; rfl) ?_ ?_
 ·rintro x o hx rfl
  have hat := fOk_at h.facts (k := x) (by omega)
  have hst : stAt s.1 (x : Int) = stN s x := rfl
  have hxm : x * m ≤ 6400 := by have := hpair x 0 (by omega) (by omega); omega
  simp (contextual := true) (maxSteps := 1000000) (disch := omega) only [↓Sd, ↓So, ↓Sk, ↓den, ↓denA, Sa, Sb, Sc, Se, O1.d, O2.d, O3.d, cmI, arI, envOf, putN, ↓reduceIte, Nat.reduceLT, Nat.reduceSub, Nat.reduceAdd, Int.reduceAdd, Int.reduceEq, Int.reduceLT, Int.reduceLE, arr_pos, arr_neg, C_impl_stateAt s (x : Int) hv.1.2 hv.2.2.1 (by omega), hst, C_impl_letters F (stN s x) hF4 hat.1 hat.2]
  refine mc.lp_for (List Bool) (fun g o => [⟨L (L T4), F⟩, ⟨L T4, l⟩, ⟨I, (S : Int)⟩, ⟨I, (S : Int)⟩, ⟨I, (x : Int)⟩, ⟨I, (m : Int)⟩, ⟨I, (g : Int)⟩, ⟨L V3, s.1⟩, ⟨L TR, s.2⟩, ⟨L V3, s.1⟩, ⟨L TR, s.2⟩, ⟨L (L T4), F⟩, ⟨L T4, l⟩, ⟨I, (m : Int)⟩, ⟨L (L I), tab (gT l F.length) m⟩, ⟨L B, o⟩, ⟨L I, ltr F (stN s x)⟩]) (fun g o => o = tab (fitB s F l) (x * m + g)) m 0 _ _ rfl (Nat.zero_le _) rfl ?_ ?_
  ·rintro g o hg rfl
   have hfi := hfit x g hg
   have hll : (ltr F (stN s x)).length ≤ 1048576 := by rw [ltr, tab_len]; omega
   have htl : ((vb g (gK l F.length)).take F.length).length ≤ 1048576 := by rw [List.length_take]; omega
   simp (contextual := true) (maxSteps := 1000000) (disch := omega) only [↓Sd, ↓So, ↓Sk, ↓den, ↓denA, Sa, Sb, Sc, Se, O1.d, O2.d, O3.d, cmI, arI, envOf, putN, ↓reduceIte, Nat.reduceLT, Nat.reduceSub, Nat.reduceAdd, Int.reduceAdd, Int.reduceEq, Int.reduceLT, Int.reduceLE, arr_pos, arr_neg, tab_len, C_impl_GuessLetter l F.length g hf hA (by rw [hKm]; exact hg), C_slices_Equal (ltr F (stN s x)) ((vb g (gK l F.length)).take F.length) hll htl]
   rw [← hfi]
   exact tab_next
  ·rintro o rfl
   simp (contextual := true) (maxSteps := 1000000) (disch := omega) only [↓Sd, ↓So, ↓Sk, ↓den, ↓denA, Sa, Sb, Sc, Se, O1.d, O2.d, O3.d, cmI, arI, envOf, putN, ↓reduceIte, Nat.reduceLT, Nat.reduceSub, Nat.reduceAdd, Int.reduceAdd, Int.reduceEq, Int.reduceLT, Int.reduceLE, arr_pos, arr_neg, ]
   rw [Nat.add_mul, Nat.one_mul]
 rintro o rfl
 have hSm : S * m = N := by rw [← hSe]; exact hNe
 rw [hSm]
 simp (contextual := true) (maxSteps := 1000000) (disch := omega) only [↓Sd, ↓So, ↓Sk, ↓den, ↓denA, Sa, Sb, Sc, Se, O1.d, O2.d, O3.d, cmI, arI, envOf, putN, ↓reduceIte, Nat.reduceLT, Nat.reduceSub, Nat.reduceAdd, Int.reduceAdd, Int.reduceEq, Int.reduceLT, Int.reduceLE, arr_pos, arr_neg, ]
 refine mc.lp_for (List (List Int)) (fun g o => [⟨L T4, l⟩, ⟨I, (S : Int)⟩, ⟨I, (m : Int)⟩, ⟨I, (g : Int)⟩, ⟨L V3, s.1⟩, ⟨L TR, s.2⟩, ⟨L V3, s.1⟩, ⟨L TR, s.2⟩, ⟨L (L T4), F⟩, ⟨L T4, l⟩, ⟨I, (m : Int)⟩, ⟨L (L I), tab (gT l F.length) m⟩, ⟨L B, tab (fitB s F l) N⟩, ⟨L (L I), o⟩]) (fun g o => o = bhT l F.length m g) m 0 _ _ rfl (Nat.zero_le _) tabIf_0 ?_ ?_
 ·rintro g o hg rfl
  have hbl : ∀ p, (bhT l F.length m p).length = m := fun p => tab_len
  simp (contextual := true) (maxSteps := 1000000) (disch := omega) only [↓Sd, ↓So, ↓Sk, ↓den, ↓denA, Sa, Sb, Sc, Se, O1.d, O2.d, O3.d, cmI, arI, envOf, putN, ↓reduceIte, Nat.reduceLT, Nat.reduceSub, Nat.reduceAdd, Int.reduceAdd, Int.reduceEq, Int.reduceLT, Int.reduceLE, arr_pos, arr_neg, ]
  refine mc.lp_for (List (List Int)) (fun j o => [⟨L T4, l⟩, ⟨I, (S : Int)⟩, ⟨I, (g : Int)⟩, ⟨I, (m : Int)⟩, ⟨I, (g : Int)⟩, ⟨I, (m : Int)⟩, ⟨I, (j : Int)⟩, ⟨L V3, s.1⟩, ⟨L TR, s.2⟩, ⟨L V3, s.1⟩, ⟨L TR, s.2⟩, ⟨L (L T4), F⟩, ⟨L T4, l⟩, ⟨I, (m : Int)⟩, ⟨L (L I), tab (gT l F.length) m⟩, ⟨L B, tab (fitB s F l) N⟩, ⟨L (L I), o⟩]) (fun j o => o = (bhT l F.length m g).set g (upTo (fun h => bhB l F.length g h) j)) m 0 _ _ rfl (Nat.zero_le _) tabIf_id.symm ?_ ?_
  ·rintro j o hj rfl
   have hbs : ((bhT l F.length m g).set g (upTo (fun h => bhB l F.length g h) j)).length = m := by rw [List.length_set]; exact hbl g
   have hbg : ((bhT l F.length m g).set g (upTo (fun h => bhB l F.length g h) j)).getD g [] = upTo (fun h => bhB l F.length g h) j := getD_set_eq (by rw [hbl]; exact hg)
   have hul := @upTo_len (fun h => bhB l F.length g h) j
   simp (contextual := true) (maxSteps := 1000000) (disch := omega) only [↓Sd, ↓So, ↓Sk, ↓den, ↓denA, Sa, Sb, Sc, Se, O1.d, O2.d, O3.d, cmI, arI, envOf, putN, ↓reduceIte, Nat.reduceLT, Nat.reduceSub, Nat.reduceAdd, Int.reduceAdd, Int.reduceEq, Int.reduceLT, Int.reduceLE, arr_pos, arr_neg, ↓wpJoin, tab_len, tab_get hg, tab_get hj, hbs, hbg, List.set_set, C_impl_behindOk l (F.length : Int) (gT l F.length g) (gT l F.length j) htv gT_len gT_len gT_bit gT_bit]
   refine ⟨fun g1 => ?_, fun g1 => ?_⟩
   ·rw [upTo_s (p := fun h => bhB l F.length g h) (by unfold bhB; exact g1)]
   ·rw [upTo_n (p := fun h => bhB l F.length g h) (by unfold bhB; exact g1)]
  ·rintro o rfl
   simp (contextual := true) (maxSteps := 1000000) (disch := omega) only [↓Sd, ↓So, ↓Sk, ↓den, ↓denA, Sa, Sb, Sc, Se, O1.d, O2.d, O3.d, cmI, arI, envOf, putN, ↓reduceIte, Nat.reduceLT, Nat.reduceSub, Nat.reduceAdd, Int.reduceAdd, Int.reduceEq, Int.reduceLT, Int.reduceLE, arr_pos, arr_neg, ]
   exact tabIf_set
 rintro o rfl
 have hSmi : (S : Int) * (m : Int) = (N : Int) := by rw [← hSm]; rfl
 have hbT : ∀ g, g < m → (bhT l F.length m m).getD g [] = bhL l F.length m g := fun g hg => by rw [bhT, tab_get hg, if_pos hg]
 obtain ⟨bT, hbTe⟩ : ∃ bT, bhT l F.length m m = bT := ⟨_, rfl⟩
 rw [hbTe] at hbT ⊢
 have hbTl : bT.length = m := by rw [← hbTe]; exact tab_len
 simp (contextual := true) (maxSteps := 1000000) (disch := omega) only [↓Sd, ↓So, ↓Sk, ↓den, ↓denA, Sa, Sb, Sc, Se, O1.d, O2.d, O3.d, cmI, arI, envOf, putN, ↓reduceIte, Nat.reduceLT, Nat.reduceSub, Nat.reduceAdd, Int.reduceAdd, Int.reduceEq, Int.reduceLT, Int.reduceLE, arr_pos, arr_neg, hSmi, C_impl_followers s hv, honw, hSe, Int.toNat_natCast]
 refine mc.lp_for (List (List Int)) (fun x o => [⟨I, (S : Int)⟩, ⟨I, (x : Int)⟩, ⟨L V3, s.1⟩, ⟨L TR, s.2⟩, ⟨L (L T4), F⟩, ⟨L T4, l⟩, ⟨I, (m : Int)⟩, ⟨L (L I), tab (gT l F.length) m⟩, ⟨L B, tab (fitB s F l) N⟩, ⟨L (L I), o⟩, ⟨L (L I), bT⟩, ⟨L (L I), onw s⟩]) (fun x o => o = nxP s F l N (x * m)) S 0 _ _ rfl (Nat.zero_le _) (by rw [Nat.zero_mul]; exact tabIf_0) ?_ ?_
 ·rintro x o hx rfl
  have hxm := hpair x 0 (by omega) (by omega)
  simp (contextual := true) (maxSteps := 1000000) (disch := omega) only [↓Sd, ↓So, ↓Sk, ↓den, ↓denA, Sa, Sb, Sc, Se, O1.d, O2.d, O3.d, cmI, arI, envOf, putN, ↓reduceIte, Nat.reduceLT, Nat.reduceSub, Nat.reduceAdd, Int.reduceAdd, Int.reduceEq, Int.reduceLT, Int.reduceLE, arr_pos, arr_neg, honw, hSe]
  refine mc.lp_for (List (List Int)) (fun g o => [⟨I, (x : Int)⟩, ⟨I, (x : Int)⟩, ⟨I, (S : Int)⟩, ⟨I, (x : Int)⟩, ⟨I, (m : Int)⟩, ⟨I, (g : Int)⟩, ⟨L V3, s.1⟩, ⟨L TR, s.2⟩, ⟨L (L T4), F⟩, ⟨L T4, l⟩, ⟨I, (m : Int)⟩, ⟨L (L I), tab (gT l F.length) m⟩, ⟨L B, tab (fitB s F l) N⟩, ⟨L (L I), o⟩, ⟨L (L I), bT⟩, ⟨L (L I), onw s⟩]) (fun g o => o = nxP s F l N (x * m + g)) m 0 _ _ rfl (Nat.zero_le _) rfl ?_ ?_
  ·rintro g o hg rfl
   have hp := hpair x g (by omega) hg
   have hrpg := hrp x g hg
   obtain ⟨y, hy⟩ : ∃ y : Nat, x * m = y := ⟨_, rfl⟩
   have hyi : (x : Int) * (m : Int) = (y : Int) := by rw [← hy]; rfl
   have hidx : ((y : Int) + (g : Int)).toNat = y + g := by omega
   rw [hy] at hp hrpg hxm ⊢
   have hnl : ∀ p, (nxP s F l N p).length = N := fun p => tab_len
   simp (contextual := true) (maxSteps := 1000000) (disch := omega) only [↓Sd, ↓So, ↓Sk, ↓den, ↓denA, Sa, Sb, Sc, Se, O1.d, O2.d, O3.d, cmI, arI, envOf, putN, ↓reduceIte, Nat.reduceLT, Nat.reduceSub, Nat.reduceAdd, Int.reduceAdd, Int.reduceEq, Int.reduceLT, Int.reduceLE, arr_pos, arr_neg, ]
   refine mc.wp_join (fun us => us = [⟨I, (x : Int)⟩, ⟨I, (x : Int)⟩, ⟨I, (S : Int)⟩, ⟨I, (x : Int)⟩, ⟨I, (m : Int)⟩, ⟨I, (g : Int)⟩, ⟨L V3, s.1⟩, ⟨L TR, s.2⟩, ⟨L (L T4), F⟩, ⟨L T4, l⟩, ⟨I, (m : Int)⟩, ⟨L (L I), tab (gT l F.length) m⟩, ⟨L B, tab (fitB s F l) N⟩, ⟨L (L I), nxP s F l N (y + g + 1)⟩, ⟨L (L I), bT⟩, ⟨L (L I), onw s⟩]) ?_ ?_
   ·simp (contextual := true) (maxSteps := 1000000) (disch := omega) only [↓Sd, ↓So, ↓Sk, ↓den, ↓denA, Sa, Sb, Sc, Se, O1.d, O2.d, O3.d, cmI, arI, envOf, putN, ↓reduceIte, Nat.reduceLT, Nat.reduceSub, Nat.reduceAdd, Int.reduceAdd, Int.reduceEq, Int.reduceLT, Int.reduceLE, arr_pos, arr_neg, hyi, hidx, tab_len, tab_get hp]
    refine ⟨fun hno => tabIf_nil (by rw [hrpg, hno]; simp), fun hyes => ?_⟩
    have hyt : fitB s F l (y + g) = true := by simpa using hyes
    rw [if_pos hyt] at hrpg
    obtain ⟨R, hR⟩ : ∃ R, (onw s).getD x [] = R := ⟨_, rfl⟩
    have hRr : ∀ z ∈ R, 0 ≤ z ∧ z < (S : Int) := by
     rw [← hR, onw_row (by omega)]
     split
     ·intro z hz; rw [List.mem_singleton.1 hz]; omega
     ·rw [← hSe]; exact (steps_tbl hv).row
    have hRl : R.length ≤ 400 := by
     rw [← hR, onw_row (by omega)]
     split
     ·simp
     ·have := (steps_tb8 hv).2.2 _ (getD_mem (d := []) (i := x) (by rw [(steps_tb8 hv).1.1]; omega))
      omega
    rw [hR] at hrpg
    simp (contextual := true) (maxSteps := 1000000) (disch := omega) only [↓Sd, ↓So, ↓Sk, ↓den, ↓denA, Sa, Sb, Sc, Se, O1.d, O2.d, O3.d, cmI, arI, envOf, putN, ↓reduceIte, Nat.reduceLT, Nat.reduceSub, Nat.reduceAdd, Int.reduceAdd, Int.reduceEq, Int.reduceLT, Int.reduceLE, arr_pos, arr_neg, hR]
    refine mc.lp_for (List Int) (fun i acc => [⟨I, (x : Int)⟩, ⟨I, (x : Int)⟩, ⟨I, (g : Int)⟩, ⟨I, (S : Int)⟩, ⟨I, (x : Int)⟩, ⟨I, (m : Int)⟩, ⟨I, (g : Int)⟩, ⟨I, (x : Int)⟩, ⟨I, (R.length : Int)⟩, ⟨I, (i : Int)⟩, ⟨L V3, s.1⟩, ⟨L TR, s.2⟩, ⟨L (L T4), F⟩, ⟨L T4, l⟩, ⟨I, (m : Int)⟩, ⟨L (L I), tab (gT l F.length) m⟩, ⟨L B, tab (fitB s F l) N⟩, ⟨L (L I), (nxP s F l N (y + g)).set (y + g) acc⟩, ⟨L (L I), bT⟩, ⟨L (L I), onw s⟩]) (fun i acc => acc = (R.take i).flatMap (rowX s F l g) ∧ acc.length ≤ 128 * i) R.length 0 [] _ (by rw [show (nxP s F l N (y + g)).set (y + g) [] = nxP s F l N (y + g) from tabIf_id]; rfl) (Nat.zero_le _) ⟨rfl, by simp⟩ ?_ ?_
    ·rintro i acc hi ⟨hacc, hal⟩
     have hz := hRr _ (getD_mem (d := 0) hi)
     obtain ⟨z, hze⟩ : ∃ z : Nat, R.getD i 0 = z := ⟨(R.getD i 0).toNat, by omega⟩
     have hzS : z < S := by omega
     obtain ⟨y2, hy2⟩ : ∃ y2 : Nat, z * m = y2 := ⟨_, rfl⟩
     have hy2i : (z : Int) * (m : Int) = (y2 : Int) := by rw [← hy2]; rfl
     have hy2N : ∀ h, h < m → y2 + h < N := fun h hh => by rw [← hy2]; exact hpair z h (by omega) hh
     obtain ⟨b, hbe⟩ : ∃ b, bhL l F.length m g = b := ⟨_, rfl⟩
     have hbg : bT.getD g [] = b := by rw [hbT g hg]; exact hbe
     have hbm : ∀ q ∈ b, 0 ≤ q ∧ q < (m : Int) := fun q hq => by rw [← hbe] at hq; obtain ⟨k, h1, rfl, _⟩ := upTo_mem.1 hq; omega
     have hbl : b.length ≤ m := by rw [← hbe]; exact upTo_len
     have hend : acc ++ (b.filter (fun q => fitB s F l (y2 + q.toNat))).map (fun h => (y2 : Int) + h) = (R.take (i + 1)).flatMap (rowX s F l g) := by
      rw [← take_next (d := 0) hi, List.flatMap_append, ← hacc, hze]
      simp only [List.flatMap_cons, List.flatMap_nil, List.append_nil, hrx, Int.toNat_natCast, hy2, hy2i]
      rw [← hbe, bhL, upTo_filter (q := fun k => fitB s F l (y2 + k))]
     simp (contextual := true) (maxSteps := 1000000) (disch := omega) only [↓Sd, ↓So, ↓Sk, ↓den, ↓denA, Sa, Sb, Sc, Se, O1.d, O2.d, O3.d, cmI, arI, envOf, putN, ↓reduceIte, Nat.reduceLT, Nat.reduceSub, Nat.reduceAdd, Int.reduceAdd, Int.reduceEq, Int.reduceLT, Int.reduceLE, arr_pos, arr_neg, hR, hze, honw, hSe, hbTl, hbg]
     refine mc.lp_for (List Int) (fun j acc2 => [⟨I, (x : Int)⟩, ⟨I, (x : Int)⟩, ⟨I, (g : Int)⟩, ⟨I, (z : Int)⟩, ⟨I, (S : Int)⟩, ⟨I, (x : Int)⟩, ⟨I, (m : Int)⟩, ⟨I, (g : Int)⟩, ⟨I, (x : Int)⟩, ⟨I, (R.length : Int)⟩, ⟨I, (i : Int)⟩, ⟨I, (g : Int)⟩, ⟨I, (b.length : Int)⟩, ⟨I, (j : Int)⟩, ⟨L V3, s.1⟩, ⟨L TR, s.2⟩, ⟨L (L T4), F⟩, ⟨L T4, l⟩, ⟨I, (m : Int)⟩, ⟨L (L I), tab (gT l F.length) m⟩, ⟨L B, tab (fitB s F l) N⟩, ⟨L (L I), (nxP s F l N (y + g)).set (y + g) acc2⟩, ⟨L (L I), bT⟩, ⟨L (L I), onw s⟩]) (fun j acc2 => acc2 = acc ++ ((b.take j).filter (fun q => fitB s F l (y2 + q.toNat))).map (fun h => (y2 : Int) + h) ∧ acc2.length ≤ acc.length + j) b.length 0 acc _ rfl (Nat.zero_le _) ⟨by simp, by omega⟩ ?_ ?_
     ·rintro j acc2 hj ⟨hacc2, hal2⟩
      have hq := hbm _ (getD_mem (d := 0) hj)
      have htf := take_filter (l := b) (f := fun q => fitB s F l (y2 + q.toNat)) hj
      obtain ⟨q, hqe⟩ : ∃ q : Nat, b.getD j 0 = q := ⟨(b.getD j 0).toNat, by omega⟩
      have hqN := hy2N q (by omega)
      have hqi : ((y2 : Int) + (q : Int)).toNat = y2 + q := by omega
      rw [hqe, Int.toNat_natCast] at htf
      have hsl : ((nxP s F l N (y + g)).set (y + g) acc2).length = N := by rw [List.length_set]; exact hnl _
      have hsg : ((nxP s F l N (y + g)).set (y + g) acc2).getD (y + g) [] = acc2 := getD_set_eq (by rw [hnl]; exact hp)
      simp (contextual := true) (maxSteps := 1000000) (disch := omega) only [↓Sd, ↓So, ↓Sk, ↓den, ↓denA, Sa, Sb, Sc, Se, O1.d, O2.d, O3.d, cmI, arI, envOf, putN, ↓reduceIte, Nat.reduceLT, Nat.reduceSub, Nat.reduceAdd, Int.reduceAdd, Int.reduceEq, Int.reduceLT, Int.reduceLE, arr_pos, arr_neg, ↓wpJoin, hbg, hqe, hy2i, hyi, hqi, hidx, tab_len, tab_get hqN, hsl, hsg, List.set_set]
      refine ⟨fun g1 => ⟨_, rfl, ?_, by rw [List.length_append, List.length_singleton]; omega⟩, fun g1 => ⟨_, rfl, ?_, by omega⟩⟩
      ·rw [htf, if_pos g1, mapL_snoc, hacc2, List.append_assoc]
      ·rw [htf, if_neg g1, List.append_nil, hacc2]
     ·rintro acc2 ⟨hacc2, hal2⟩
      rw [List.take_length] at hacc2
      simp (contextual := true) (maxSteps := 1000000) (disch := omega) only [↓Sd, ↓So, ↓Sk, ↓den, ↓denA, Sa, Sb, Sc, Se, O1.d, O2.d, O3.d, cmI, arI, envOf, putN, ↓reduceIte, Nat.reduceLT, Nat.reduceSub, Nat.reduceAdd, Int.reduceAdd, Int.reduceEq, Int.reduceLT, Int.reduceLE, arr_pos, arr_neg, hbg]
      exact ⟨_, rfl, by rw [hacc2, hend], by omega⟩
    ·rintro acc ⟨hacc, hal⟩
     rw [List.take_length] at hacc
     simp (contextual := true) (maxSteps := 1000000) (disch := omega) only [↓Sd, ↓So, ↓Sk, ↓den, ↓denA, Sa, Sb, Sc, Se, O1.d, O2.d, O3.d, cmI, arI, envOf, putN, ↓reduceIte, Nat.reduceLT, Nat.reduceSub, Nat.reduceAdd, Int.reduceAdd, Int.reduceEq, Int.reduceLT, Int.reduceLE, arr_pos, arr_neg, hR]
     rw [hacc, ← hrpg]
     exact tabIf_set
   ·rintro us rfl
    simp (contextual := true) (maxSteps := 1000000) (disch := omega) only [↓Sd, ↓So, ↓Sk, ↓den, ↓denA, Sa, Sb, Sc, Se, O1.d, O2.d, O3.d, cmI, arI, envOf, putN, ↓reduceIte, Nat.reduceLT, Nat.reduceSub, Nat.reduceAdd, Int.reduceAdd, Int.reduceEq, Int.reduceLT, Int.reduceLE, arr_pos, arr_neg, ]
    rfl
  ·rintro o rfl
   simp (contextual := true) (maxSteps := 1000000) (disch := omega) only [↓Sd, ↓So, ↓Sk, ↓den, ↓denA, Sa, Sb, Sc, Se, O1.d, O2.d, O3.d, cmI, arI, envOf, putN, ↓reduceIte, Nat.reduceLT, Nat.reduceSub, Nat.reduceAdd, Int.reduceAdd, Int.reduceEq, Int.reduceLT, Int.reduceLE, arr_pos, arr_neg, ]
   rw [Nat.add_mul, Nat.one_mul]
 ·rintro o rfl
  rw [hSm]
  simp (contextual := true) (maxSteps := 1000000) (disch := omega) only [↓Sd, ↓So, ↓Sk, ↓den, ↓denA, Sa, Sb, Sc, Se, O1.d, O2.d, O3.d, cmI, arI, envOf, putN, ↓reduceIte, Nat.reduceLT, Nat.reduceSub, Nat.reduceAdd, Int.reduceAdd, Int.reduceEq, Int.reduceLT, Int.reduceLE, arr_pos, arr_neg, honw, hSe]
  rw [show nxP s F l N N = tab (rowP s F l) N from tabIf_n]
def askP (s : Sy) (F : List (List Tm)) (l : List Tm) : Prop := fOk s F ∧ szn s.1 ≤ 50 ∧ asked l F.length
instance (s : Sy) (F : List (List Tm)) (l : List Tm) : Decidable (askP s F l) := by unfold askP; infer_instance
theorem askP.p {s : Sy} {F : List (List Tm)} {l : List Tm} (h : askP s F l) : PAsk s F l := ⟨h.1, h.2.1, Ask.of h.2.2⟩
theorem gC_pos {l : List Tm} {n : Nat} : 0 < gC l n ↔ asked l n := by
 unfold gC
 split
 ·rename_i h; exact ⟨fun _ => h, fun _ => (pow_bd (Ask.of h).few).1⟩
 ·rename_i h; exact ⟨fun h2 => by omega, fun h2 => absurd h2 h⟩
theorem gC_gM {l : List Tm} {n : Nat} (h : asked l n) : gC l n = gM l n := if_pos h
def pN (s : Sy) (F : List (List Tm)) (l : List Tm) : Nat := if askP s F l then szn s.1 * gM l F.length else 0
theorem pN_bd {s : Sy} {F : List (List Tm)} {l : List Tm} : pN s F l ≤ 6400 := by
 unfold pN
 split
 ·rename_i h; exact h.p.N
 ·omega
theorem rowX_len {s : Sy} {F : List (List Tm)} {l : List Tm} {g : Nat} {x : Int} : (rowX s F l g x).length ≤ gM l F.length := by
 unfold rowX; rw [List.length_map]; exact upTo_len
theorem flatMap_bd {f : Int → List Int} {m : Nat} (h : ∀ x, (f x).length ≤ m) : ∀ {X : List Int}, (X.flatMap f).length ≤ m * X.length
 | [] => by simp
 | x :: X => by
  have h1 := h x
  have h2 := flatMap_bd h (X := X)
  rw [List.flatMap_cons, List.length_append, List.length_cons, Nat.mul_add, Nat.mul_one]
  omega
theorem onw_len {s : Sy} (hv : valid s) {i : Nat} (hi : i < szn s.1) : ((onw s).getD i []).length ≤ 400 := by
 rw [onw_row hi]
 split
 ·simp
 ·have := (steps_tb8 hv).2.2 _ (getD_mem (d := []) (i := i) (by rw [(steps_tb8 hv).1.1]; exact hi))
  omega
theorem rowP_len {s : Sy} {F : List (List Tm)} {l : List Tm} {k : Nat} (h : PAsk s F l) (hk : k < szn s.1 * gM l F.length) : (rowP s F l k).length ≤ 51200 := by
 unfold rowP
 split
 ·have hq : k / gM l F.length < szn s.1 := Nat.div_lt_of_lt_mul (by rw [Nat.mul_comm]; exact hk)
  refine Nat.le_trans (flatMap_bd fun x => rowX_len) ?_
  exact Nat.le_trans (Nat.mul_le_mul h.m.2 (onw_len h.facts.1 hq)) (by decide)
 ·simp
noncomputable def pNext (s : Sy) (F : List (List Tm)) (l : List Tm) (k : Int) : List Int := if 0 ≤ k ∧ k < pN s F l then rowP s F l k.toNat else []
theorem C_spec_l22Asked (s : Sy) (F : List (List Tm)) (l : List Tm) (hs : FewSy s) (hF : FewSS F) (hf : Few l) (Q : List AV → Prop) : mc.C f_spec_l22Asked [⟨L V3, s.1⟩, ⟨L TR, s.2⟩, ⟨L (L T4), F⟩, ⟨L T4, l⟩] Q = Q [⟨B, decide (askP s F l)⟩] := by
 refine Mc.Ends.c (mc.ends F_spec_l22Asked ?_)
 generalize hK : decide (askP s F l) = K
 have hFl : F.length ≤ 1048576 := hF.1
 simp (contextual := true) (maxSteps := 1000000) (disch := omega) only [↓Sd, ↓So, ↓Sk, ↓den, ↓denA, Sa, Sb, Sc, Se, O1.d, O2.d, O3.d, cmI, arI, envOf, putN, ↓reduceIte, Nat.reduceLT, Nat.reduceSub, Nat.reduceAdd, Int.reduceAdd, Int.reduceEq, Int.reduceLT, Int.reduceLE, arr_pos, arr_neg, tr_spec_l22Asked, C_spec_l20Facts s F hs hF]
 refine ⟨fun h1 => ?_, fun h1 => by rw [← hK, decide_eq_false fun h => h1 h.1]⟩
 have hz := szn_eq h1.1
 have hz1 := hz.1
 simp (contextual := true) (maxSteps := 1000000) (disch := omega) only [↓Sd, ↓So, ↓Sk, ↓den, ↓denA, Sa, Sb, Sc, Se, O1.d, O2.d, O3.d, cmI, arI, envOf, putN, ↓reduceIte, Nat.reduceLT, Nat.reduceSub, Nat.reduceAdd, Int.reduceAdd, Int.reduceEq, Int.reduceLT, Int.reduceLE, arr_pos, arr_neg, C_spec_SizeOf s hs, if_pos h1.1, ← hz1]
 refine ⟨fun h2 => ?_, fun h2 => by rw [← hK, decide_eq_false fun h => h2 (by have := h.2.1; omega)]⟩
 simp (contextual := true) (maxSteps := 1000000) (disch := omega) only [↓Sd, ↓So, ↓Sk, ↓den, ↓denA, Sa, Sb, Sc, Se, O1.d, O2.d, O3.d, cmI, arI, envOf, putN, ↓reduceIte, Nat.reduceLT, Nat.reduceSub, Nat.reduceAdd, Int.reduceAdd, Int.reduceEq, Int.reduceLT, Int.reduceLE, arr_pos, arr_neg, C_spec_l21Asked l F.length hf hFl]
 rw [← hK]
 exact decide_eq_decide.2 ⟨fun h3 => ⟨h1, by omega, h3⟩, fun h3 => h3.2.2⟩
theorem C_impl_askTime (s : Sy) (F : List (List Tm)) (l : List Tm) (hs : FewSy s) (hF : FewSS F) (hf : Few l) (Q : List AV → Prop) : mc.C f_impl_askTime [⟨L V3, s.1⟩, ⟨L TR, s.2⟩, ⟨L (L T4), F⟩, ⟨L T4, l⟩] Q = Q [⟨B, decide (askP s F l)⟩] := by
 refine Mc.Ends.c (mc.ends F_impl_askTime ?_)
 generalize hK : decide (askP s F l) = K
 have hFl : F.length ≤ 1048576 := hF.1
 simp (contextual := true) (maxSteps := 1000000) (disch := omega) only [↓Sd, ↓So, ↓Sk, ↓den, ↓denA, Sa, Sb, Sc, Se, O1.d, O2.d, O3.d, cmI, arI, envOf, putN, ↓reduceIte, Nat.reduceLT, Nat.reduceSub, Nat.reduceAdd, Int.reduceAdd, Int.reduceEq, Int.reduceLT, Int.reduceLE, arr_pos, arr_neg, tr_impl_askTime, C_impl_factsOk s F hs hF]
 refine ⟨fun h1 => ?_, fun h1 => by rw [← hK, decide_eq_false fun h => h1 h.1]⟩
 have hz := szn_eq h1.1
 have hz1 := hz.1
 simp (contextual := true) (maxSteps := 1000000) (disch := omega) only [↓Sd, ↓So, ↓Sk, ↓den, ↓denA, Sa, Sb, Sc, Se, O1.d, O2.d, O3.d, cmI, arI, envOf, putN, ↓reduceIte, Nat.reduceLT, Nat.reduceSub, Nat.reduceAdd, Int.reduceAdd, Int.reduceEq, Int.reduceLT, Int.reduceLE, arr_pos, arr_neg, C_impl_GuessCount l F.length hf hFl]
 refine ⟨fun h2 => ?_, fun h2 => by rw [← hK, decide_eq_false fun h => h2 (by have := gC_pos.2 h.2.2; omega)]⟩
 simp (contextual := true) (maxSteps := 1000000) (disch := omega) only [↓Sd, ↓So, ↓Sk, ↓den, ↓denA, Sa, Sb, Sc, Se, O1.d, O2.d, O3.d, cmI, arI, envOf, putN, ↓reduceIte, Nat.reduceLT, Nat.reduceSub, Nat.reduceAdd, Int.reduceAdd, Int.reduceEq, Int.reduceLT, Int.reduceLE, arr_pos, arr_neg, C_impl_size s.1 h1.1.1.2 h1.1.2.2.1, ← hz1]
 rw [← hK]
 exact decide_eq_decide.2 ⟨fun h3 => ⟨h1, by omega, gC_pos.1 (by omega)⟩, fun h3 => by have := h3.2.1; omega⟩
theorem C_spec_ProductSize (s : Sy) (F : List (List Tm)) (l : List Tm) (hs : FewSy s) (hF : FewSS F) (hf : Few l) (Q : List AV → Prop) : mc.C f_spec_ProductSize [⟨L V3, s.1⟩, ⟨L TR, s.2⟩, ⟨L (L T4), F⟩, ⟨L T4, l⟩] Q = Q [⟨I, (pN s F l : Int)⟩] := by
 refine Mc.Ends.c (mc.ends F_spec_ProductSize ?_)
 have hFl : F.length ≤ 1048576 := hF.1
 unfold pN
 simp (contextual := true) (maxSteps := 1000000) (disch := omega) only [↓Sd, ↓So, ↓Sk, ↓den, ↓denA, Sa, Sb, Sc, Se, O1.d, O2.d, O3.d, cmI, arI, envOf, putN, ↓reduceIte, Nat.reduceLT, Nat.reduceSub, Nat.reduceAdd, Int.reduceAdd, Int.reduceEq, Int.reduceLT, Int.reduceLE, arr_pos, arr_neg, tr_spec_ProductSize, C_spec_l22Asked s F l hs hF hf]
 intro h
 have hz := szn_eq h.1.1
 have hz1 := hz.1
 have hN := h.p.N
 have hc := gC_gM h.2.2
 obtain ⟨m, hme⟩ : ∃ m, gM l F.length = m := ⟨_, rfl⟩
 rw [hme] at hN hc ⊢
 obtain ⟨N, hNe⟩ : ∃ N, szn s.1 * m = N := ⟨_, rfl⟩
 rw [hNe] at hN ⊢
 have hNi : (szn s.1 : Int) * (m : Int) = (N : Int) := by rw [← hNe]; rfl
 simp (contextual := true) (maxSteps := 1000000) (disch := omega) only [↓Sd, ↓So, ↓Sk, ↓den, ↓denA, Sa, Sb, Sc, Se, O1.d, O2.d, O3.d, cmI, arI, envOf, putN, ↓reduceIte, Nat.reduceLT, Nat.reduceSub, Nat.reduceAdd, Int.reduceAdd, Int.reduceEq, Int.reduceLT, Int.reduceLE, arr_pos, arr_neg, C_spec_SizeOf s hs, if_pos h.1.1, ← hz1, C_spec_GuessCount l F.length hf hFl, hc, hNi]
theorem C_impl_ProductSize (s : Sy) (F : List (List Tm)) (l : List Tm) (hs : FewSy s) (hF : FewSS F) (hf : Few l) (Q : List AV → Prop) : mc.C f_impl_ProductSize [⟨L V3, s.1⟩, ⟨L TR, s.2⟩, ⟨L (L T4), F⟩, ⟨L T4, l⟩] Q = Q [⟨I, (pN s F l : Int)⟩] := by
 refine Mc.Ends.c (mc.ends F_impl_ProductSize ?_)
 have hFl : F.length ≤ 1048576 := hF.1
 unfold pN
 simp (contextual := true) (maxSteps := 1000000) (disch := omega) only [↓Sd, ↓So, ↓Sk, ↓den, ↓denA, Sa, Sb, Sc, Se, O1.d, O2.d, O3.d, cmI, arI, envOf, putN, ↓reduceIte, Nat.reduceLT, Nat.reduceSub, Nat.reduceAdd, Int.reduceAdd, Int.reduceEq, Int.reduceLT, Int.reduceLE, arr_pos, arr_neg, tr_impl_ProductSize, C_impl_askTime s F l hs hF hf]
 intro h
 have hz := szn_eq h.1.1
 have hz1 := hz.1
 have hN := h.p.N
 have hc := gC_gM h.2.2
 obtain ⟨m, hme⟩ : ∃ m, gM l F.length = m := ⟨_, rfl⟩
 rw [hme] at hN hc ⊢
 obtain ⟨N, hNe⟩ : ∃ N, szn s.1 * m = N := ⟨_, rfl⟩
 rw [hNe] at hN ⊢
 have hNi : (szn s.1 : Int) * (m : Int) = (N : Int) := by rw [← hNe]; rfl
 simp (contextual := true) (maxSteps := 1000000) (disch := omega) only [↓Sd, ↓So, ↓Sk, ↓den, ↓denA, Sa, Sb, Sc, Se, O1.d, O2.d, O3.d, cmI, arI, envOf, putN, ↓reduceIte, Nat.reduceLT, Nat.reduceSub, Nat.reduceAdd, Int.reduceAdd, Int.reduceEq, Int.reduceLT, Int.reduceLE, arr_pos, arr_neg, C_impl_size s.1 h.1.1.1.2 h.1.1.2.2.1, ← hz1, C_impl_GuessCount l F.length hf hFl, hc, hNi]
theorem C_spec_ProductNext (s : Sy) (F : List (List Tm)) (l : List Tm) (k : Int) (hs : FewSy s) (hF : FewSS F) (hf : Few l) (Q : List AV → Prop) : mc.C f_spec_ProductNext [⟨L V3, s.1⟩, ⟨L TR, s.2⟩, ⟨L (L T4), F⟩, ⟨L T4, l⟩, ⟨I, k⟩] Q = Q [⟨L I, pNext s F l k⟩] := by
 refine Mc.Ends.c (mc.ends F_spec_ProductNext ?_)
 have hb := @pN_bd s F l
 simp (contextual := true) (maxSteps := 1000000) (disch := omega) only [↓Sd, ↓So, ↓Sk, ↓den, ↓denA, Sa, Sb, Sc, Se, O1.d, O2.d, O3.d, cmI, arI, envOf, putN, ↓reduceIte, Nat.reduceLT, Nat.reduceSub, Nat.reduceAdd, Int.reduceAdd, Int.reduceEq, Int.reduceLT, Int.reduceLE, arr_pos, arr_neg, tr_spec_ProductNext, C_spec_ProductSize s F l hs hF hf, C_spec_l1In]
 refine ⟨fun h1 => by rw [pNext, if_neg fun h => h1 (by omega)], fun h1 => ?_⟩
 have hp : askP s F l := Classical.byContradiction fun g => by rw [pN, if_neg g] at h1; omega
 have hNe : pN s F l = szn s.1 * gM l F.length := if_pos hp
 have hk : k.toNat < szn s.1 * gM l F.length := by omega
 have hr := rowP_len hp.p hk
 have e : pNext s F l k = rowP s F l k.toNat := if_pos (by omega)
 rw [e]
 rw [hNe] at h1 hb
 have hgl : (graphP s F l).length = szn s.1 * gM l F.length := tab_len
 have hgr : (graphP s F l).getD k.toNat [] = rowP s F l k.toNat := tab_get hk
 simp (contextual := true) (maxSteps := 1000000) (disch := omega) only [↓Sd, ↓So, ↓Sk, ↓den, ↓denA, Sa, Sb, Sc, Se, O1.d, O2.d, O3.d, cmI, arI, envOf, putN, ↓reduceIte, Nat.reduceLT, Nat.reduceSub, Nat.reduceAdd, Int.reduceAdd, Int.reduceEq, Int.reduceLT, Int.reduceLE, arr_pos, arr_neg, C_spec_l22Make s F l hs hf hp.2.2 hp.p, hgl, hgr, C_spec_l3Copy (rowP s F l k.toNat) (by omega)]
theorem C_impl_ProductNext (s : Sy) (F : List (List Tm)) (l : List Tm) (k : Int) (hs : FewSy s) (hF : FewSS F) (hf : Few l) (Q : List AV → Prop) : mc.C f_impl_ProductNext [⟨L V3, s.1⟩, ⟨L TR, s.2⟩, ⟨L (L T4), F⟩, ⟨L T4, l⟩, ⟨I, k⟩] Q = Q [⟨L I, pNext s F l k⟩] := by
 refine Mc.Ends.c (mc.ends F_impl_ProductNext ?_)
 have hb := @pN_bd s F l
 simp (contextual := true) (maxSteps := 1000000) (disch := omega) only [↓Sd, ↓So, ↓Sk, ↓den, ↓denA, Sa, Sb, Sc, Se, O1.d, O2.d, O3.d, cmI, arI, envOf, putN, ↓reduceIte, Nat.reduceLT, Nat.reduceSub, Nat.reduceAdd, Int.reduceAdd, Int.reduceEq, Int.reduceLT, Int.reduceLE, arr_pos, arr_neg, tr_impl_ProductNext, C_impl_ProductSize s F l hs hF hf, C_impl_in]
 refine ⟨fun h1 => by rw [pNext, if_neg fun h => h1 (by omega)], fun h1 => ?_⟩
 have hp : askP s F l := Classical.byContradiction fun g => by rw [pN, if_neg g] at h1; omega
 have hNe : pN s F l = szn s.1 * gM l F.length := if_pos hp
 have hk : k.toNat < szn s.1 * gM l F.length := by omega
 have hr := rowP_len hp.p hk
 have e : pNext s F l k = rowP s F l k.toNat := if_pos (by omega)
 rw [e]
 rw [hNe] at h1 hb
 have hgl : (graphP s F l).length = szn s.1 * gM l F.length := tab_len
 have hgr : (graphP s F l).getD k.toNat [] = rowP s F l k.toNat := tab_get hk
 simp (contextual := true) (maxSteps := 1000000) (disch := omega) only [↓Sd, ↓So, ↓Sk, ↓den, ↓denA, Sa, Sb, Sc, Se, O1.d, O2.d, O3.d, cmI, arI, envOf, putN, ↓reduceIte, Nat.reduceLT, Nat.reduceSub, Nat.reduceAdd, Int.reduceAdd, Int.reduceEq, Int.reduceLT, Int.reduceLE, arr_pos, arr_neg, C_impl_productOf s F l hs hf hp.2.2 hp.p, hgl, hgr, C_impl_clone_int (rowP s F l k.toNat) (by omega)]
theorem pNext_bd {s : Sy} {F : List (List Tm)} {l : List Tm} {k : Int} : (pNext s F l k).length ≤ 51200 := by
 unfold pNext
 split
 ·rename_i h
  have hp : askP s F l := Classical.byContradiction fun g => by rw [pN, if_neg g] at h; omega
  rw [pN, if_pos hp] at h
  exact rowP_len hp.p (by omega)
 ·simp
theorem D_l20Asked (b : List Int) (p : Int) (s : Sy) (hb : Rdy b) (hp : 0 ≤ p ∧ p ≤ 600000000) (hs : SmSy s) {Q : List AV → Prop} (h : ∀ (F : List (List Tm)) (p' : Int), p ≤ p' ∧ p' ≤ p + 5000 → F.length ≤ 4 → (∀ x ∈ F, x.length ≤ 16) → Q [⟨L (L T4), F⟩, ⟨RD, (b, p')⟩]) : mc.C f_spec_l20Asked [⟨RD, (b, p)⟩, ⟨L V3, s.1⟩, ⟨L TR, s.2⟩] Q := by
 refine mc.c_of F_spec_l20Asked ?_
 simp (contextual := true) (maxSteps := 1000000) (disch := omega) only [↓Sd, ↓So, ↓Sk, ↓den, ↓denA, Sa, Sb, Sc, Se, O1.d, O2.d, O3.d, cmI, arI, envOf, putN, ↓reduceIte, Nat.reduceLT, Nat.reduceSub, Nat.reduceAdd, Int.reduceAdd, Int.reduceEq, Int.reduceLT, Int.reduceLE, arr_pos, arr_neg, tr_spec_l20Asked]
 have h3 := hs.1
 refine mc.wp_join (fun us => ∃ (p1 : Int) (F : List (List Tm)), us = [⟨L U, b⟩, ⟨I, p1⟩, ⟨L (L T4), F⟩] ∧ p ≤ p1 ∧ p1 ≤ p + 5000 ∧ F.length ≤ 4 ∧ ∀ x ∈ F, x.length ≤ 16) ?_ ?_
 ·simp (contextual := true) (maxSteps := 1000000) (disch := omega) only [↓Sd, ↓So, ↓Sk, ↓den, ↓denA, Sa, Sb, Sc, Se, O1.d, O2.d, O3.d, cmI, arI, envOf, putN, ↓reduceIte, Nat.reduceLT, Nat.reduceSub, Nat.reduceAdd, Int.reduceAdd, Int.reduceEq, Int.reduceLT, Int.reduceLE, arr_pos, arr_neg, ]
  refine D_num _ _ _ hb (by omega) (by simp) (by simp) fun n n0 => ?_; simp (contextual := true) (maxSteps := 1000000) (disch := omega) only [↓Sd, ↓So, ↓Sk, ↓den, ↓denA, Sa, Sb, Sc, Se, O1.d, O2.d, O3.d, cmI, arI, envOf, putN, ↓reduceIte, Nat.reduceLT, Nat.reduceSub, Nat.reduceAdd, Int.reduceAdd, Int.reduceEq, Int.reduceLT, Int.reduceLE, arr_pos, arr_neg, ]
  have hn : 0 ≤ n ∧ n ≤ 2 := by simp only [List.mem_append, List.mem_singleton] at n0; omega
  obtain ⟨N, hN⟩ : ∃ N : Nat, n = N := ⟨n.toNat, by omega⟩
  subst hN
  refine mc.lp_inv (fun k us => ∃ (p1 : Int) (F : List (List Tm)), us = [⟨I, (k : Int)⟩, ⟨L U, b⟩, ⟨I, p1⟩, ⟨L V3, s.1⟩, ⟨L TR, s.2⟩, ⟨L (L T4), F⟩] ∧ F.length + k ≤ 2 ∧ p ≤ p1 ∧ p1 + 2000 * k ≤ p + 1 + 4000 ∧ ∀ x ∈ F, x.length ≤ 16) N _ ⟨p + 1, [], rfl, by simp; omega, by omega, by omega, by simp⟩ ?_
  rintro k us ⟨p1, F, rfl, i1, i2, i3, i4⟩
  have app : ∀ (x : List Tm), x.length ≤ 16 → ∀ y ∈ F ++ [x], y.length ≤ 16 := fun x hx y hy => (List.mem_append.1 hy).elim (i4 y) fun hy => by rw [List.mem_singleton.1 hy]; exact hx
  cases k with
  | zero =>
   simp (contextual := true) (maxSteps := 1000000) (disch := omega) only [↓Sd, ↓So, ↓Sk, ↓den, ↓denA, Sa, Sb, Sc, Se, O1.d, O2.d, O3.d, cmI, arI, envOf, putN, ↓reduceIte, Nat.reduceLT, Nat.reduceSub, Nat.reduceAdd, Int.reduceAdd, Int.reduceEq, Int.reduceLT, Int.reduceLE, arr_pos, arr_neg, ]
   exact ⟨_, _, ⟨rfl, rfl⟩, by omega, by omega, by omega, i4⟩
  | succ k =>
   simp (contextual := true) (maxSteps := 1000000) (disch := omega) only [↓Sd, ↓So, ↓Sk, ↓den, ↓denA, Sa, Sb, Sc, Se, O1.d, O2.d, O3.d, cmI, arI, envOf, putN, ↓reduceIte, Nat.reduceLT, Nat.reduceSub, Nat.reduceAdd, Int.reduceAdd, Int.reduceEq, Int.reduceLT, Int.reduceLE, arr_pos, arr_neg, ]
   refine ⟨fun g => ?_, fun g => ⟨_, _, ⟨rfl, rfl⟩, by omega, by omega, by omega, i4⟩⟩
   refine mc.wp_join (fun us => ∃ (p1 : Int) (F : List (List Tm)), us = [⟨I, (k : Int) + 1⟩, ⟨L U, b⟩, ⟨I, p1⟩, ⟨L V3, s.1⟩, ⟨L TR, s.2⟩, ⟨L (L T4), F⟩] ∧ F.length + k ≤ 2 ∧ p ≤ p1 ∧ p1 + 2000 * k ≤ p + 1 + 4000 ∧ ∀ x ∈ F, x.length ≤ 16) ?_ ?_
   ·simp (contextual := true) (maxSteps := 1000000) (disch := omega) only [↓Sd, ↓So, ↓Sk, ↓den, ↓denA, Sa, Sb, Sc, Se, O1.d, O2.d, O3.d, cmI, arI, envOf, putN, ↓reduceIte, Nat.reduceLT, Nat.reduceSub, Nat.reduceAdd, Int.reduceAdd, Int.reduceEq, Int.reduceLT, Int.reduceLE, arr_pos, arr_neg, C_spec_l2Var (s.1.getD 0 (0, 0, 0))]
    refine ⟨fun g1 => ?_, fun g1 => ?_⟩
    ·refine D_pick1 _ _ _ hb (by omega) (by omega) fun a a0 a1 => ?_; simp (contextual := true) (maxSteps := 1000000) (disch := omega) only [↓Sd, ↓So, ↓Sk, ↓den, ↓denA, Sa, Sb, Sc, Se, O1.d, O2.d, O3.d, cmI, arI, envOf, putN, ↓reduceIte, Nat.reduceLT, Nat.reduceSub, Nat.reduceAdd, Int.reduceAdd, Int.reduceEq, Int.reduceLT, Int.reduceLE, arr_pos, arr_neg, ]
     refine ⟨fun g2 => ?_, fun g2 => ?_⟩
     ·refine D_l2Cond _ _ (s.1.getD 0 (0, 0, 0)) _ hb (by omega) fun m p2 hp2 hm => ?_
      simp (contextual := true) (maxSteps := 1000000) (disch := omega) only [↓Sd, ↓So, ↓Sk, ↓den, ↓denA, Sa, Sb, Sc, Se, O1.d, O2.d, O3.d, cmI, arI, envOf, putN, ↓reduceIte, Nat.reduceLT, Nat.reduceSub, Nat.reduceAdd, Int.reduceAdd, Int.reduceEq, Int.reduceLT, Int.reduceLE, arr_pos, arr_neg, ↓wpJoin, ]
      exact ⟨_, _, ⟨rfl, rfl⟩, by simp only [List.length_append, List.length_singleton]; omega, by omega, by omega, app m (by omega)⟩
     ·refine D_l1Any _ _ _ hb (by omega) (by omega) fun l p2 h1 h2 h4 => ?_
      simp (contextual := true) (maxSteps := 1000000) (disch := omega) only [↓Sd, ↓So, ↓Sk, ↓den, ↓denA, Sa, Sb, Sc, Se, O1.d, O2.d, O3.d, cmI, arI, envOf, putN, ↓reduceIte, Nat.reduceLT, Nat.reduceSub, Nat.reduceAdd, Int.reduceAdd, Int.reduceEq, Int.reduceLT, Int.reduceLE, arr_pos, arr_neg, ↓wpJoin, ]
      exact ⟨_, _, ⟨rfl, rfl⟩, by simp only [List.length_append, List.length_singleton]; omega, by omega, by omega, app l (by omega)⟩
    ·refine D_l1Any _ _ _ hb (by omega) (by omega) fun l p2 h1 h2 h4 => ?_
     simp (contextual := true) (maxSteps := 1000000) (disch := omega) only [↓Sd, ↓So, ↓Sk, ↓den, ↓denA, Sa, Sb, Sc, Se, O1.d, O2.d, O3.d, cmI, arI, envOf, putN, ↓reduceIte, Nat.reduceLT, Nat.reduceSub, Nat.reduceAdd, Int.reduceAdd, Int.reduceEq, Int.reduceLT, Int.reduceLE, arr_pos, arr_neg, ↓wpJoin, ]
     exact ⟨_, _, ⟨rfl, rfl⟩, by simp only [List.length_append, List.length_singleton]; omega, by omega, by omega, app l (by omega)⟩
   ·rintro us ⟨p2, F, rfl, a1, a2, a3, a4⟩
    simp (contextual := true) (maxSteps := 1000000) (disch := omega) only [↓Sd, ↓So, ↓Sk, ↓den, ↓denA, Sa, Sb, Sc, Se, O1.d, O2.d, O3.d, cmI, arI, envOf, putN, ↓reduceIte, Nat.reduceLT, Nat.reduceSub, Nat.reduceAdd, Int.reduceAdd, Int.reduceEq, Int.reduceLT, Int.reduceLE, arr_pos, arr_neg, ]
    exact ⟨k, by omega, p2, F, ⟨rfl, rfl, rfl⟩, a1, a2, a3, a4⟩
 ·rintro us ⟨p1, F, rfl, a1, a2, a3, a4⟩
  simp (contextual := true) (maxSteps := 1000000) (disch := omega) only [↓Sd, ↓So, ↓Sk, ↓den, ↓denA, Sa, Sb, Sc, Se, O1.d, O2.d, O3.d, cmI, arI, envOf, putN, ↓reduceIte, Nat.reduceLT, Nat.reduceSub, Nat.reduceAdd, Int.reduceAdd, Int.reduceEq, Int.reduceLT, Int.reduceLE, arr_pos, arr_neg, ]
  exact h _ _ (by omega) a3 a4
theorem D_l20Draw (b : List Int) (p facts later : Int) (hb : Rdy b) (hp : 0 ≤ p ∧ p ≤ 600000000) {Q : List AV → Prop} (h : ∀ (l : List Tm) (p' : Int), p ≤ p' ∧ p' ≤ p + 1000 → 2 ≤ l.length → l.length ≤ 8 → Q [⟨L T4, l⟩, ⟨RD, (b, p')⟩]) : mc.C f_spec_l20Draw [⟨RD, (b, p)⟩, ⟨I, facts⟩, ⟨I, later⟩] Q := by
 refine mc.c_of F_spec_l20Draw ?_
 simp (contextual := true) (maxSteps := 1000000) (disch := omega) only [↓Sd, ↓So, ↓Sk, ↓den, ↓denA, Sa, Sb, Sc, Se, O1.d, O2.d, O3.d, cmI, arI, envOf, putN, ↓reduceIte, Nat.reduceLT, Nat.reduceSub, Nat.reduceAdd, Int.reduceAdd, Int.reduceEq, Int.reduceLT, Int.reduceLE, arr_pos, arr_neg, tr_spec_l20Draw]
 refine D_pick1 _ _ _ hb (by omega) (by omega) fun n n0 n1 => ?_; simp (contextual := true) (maxSteps := 1000000) (disch := omega) only [↓Sd, ↓So, ↓Sk, ↓den, ↓denA, Sa, Sb, Sc, Se, O1.d, O2.d, O3.d, cmI, arI, envOf, putN, ↓reduceIte, Nat.reduceLT, Nat.reduceSub, Nat.reduceAdd, Int.reduceAdd, Int.reduceEq, Int.reduceLT, Int.reduceLE, arr_pos, arr_neg, ]
 obtain ⟨N, hN⟩ : ∃ N : Nat, n = N := ⟨n.toNat, by omega⟩
 subst hN
 refine mc.lp_inv (fun k us => ∃ (p1 later : Int) (l : List Tm), us = [⟨I, facts⟩, ⟨I, later⟩, ⟨I, (k : Int)⟩, ⟨L U, b⟩, ⟨I, p1⟩, ⟨L T4, l⟩] ∧ l.length + k = 2 + N ∧ p ≤ p1 ∧ p1 + 20 * k ≤ p + 1 + 20 * (2 + N)) (2 + N) _ ⟨p + 1, later, [], by simp, by simp, by omega, by omega⟩ ?_
 rintro k us ⟨p1, lt, l, rfl, i1, i2, i3⟩
 cases k with
 | zero =>
  simp (contextual := true) (maxSteps := 1000000) (disch := omega) only [↓Sd, ↓So, ↓Sk, ↓den, ↓denA, Sa, Sb, Sc, Se, O1.d, O2.d, O3.d, cmI, arI, envOf, putN, ↓reduceIte, Nat.reduceLT, Nat.reduceSub, Nat.reduceAdd, Int.reduceAdd, Int.reduceEq, Int.reduceLT, Int.reduceLE, arr_pos, arr_neg, ]
  exact h _ _ (by omega) (by omega) (by omega)
 | succ k =>
  simp (contextual := true) (maxSteps := 1000000) (disch := omega) only [↓Sd, ↓So, ↓Sk, ↓den, ↓denA, Sa, Sb, Sc, Se, O1.d, O2.d, O3.d, cmI, arI, envOf, putN, ↓reduceIte, Nat.reduceLT, Nat.reduceSub, Nat.reduceAdd, Int.reduceAdd, Int.reduceEq, Int.reduceLT, Int.reduceLE, arr_pos, arr_neg, ]
  refine D_num _ _ _ hb (by omega) (by simp) (by simp) fun o o0 => ?_; simp (contextual := true) (maxSteps := 1000000) (disch := omega) only [↓Sd, ↓So, ↓Sk, ↓den, ↓denA, Sa, Sb, Sc, Se, O1.d, O2.d, O3.d, cmI, arI, envOf, putN, ↓reduceIte, Nat.reduceLT, Nat.reduceSub, Nat.reduceAdd, Int.reduceAdd, Int.reduceEq, Int.reduceLT, Int.reduceLE, arr_pos, arr_neg, ]
  refine mc.wp_join (fun us => ∃ (o : Int), us = [⟨I, facts⟩, ⟨I, lt⟩, ⟨I, (k : Int) + 1⟩, ⟨I, o⟩, ⟨L U, b⟩, ⟨I, p1 + 1⟩, ⟨L T4, l⟩]) ?_ ?_
  ·simp (contextual := true) (maxSteps := 1000000) (disch := omega) only [↓Sd, ↓So, ↓Sk, ↓den, ↓denA, Sa, Sb, Sc, Se, O1.d, O2.d, O3.d, cmI, arI, envOf, putN, ↓reduceIte, Nat.reduceLT, Nat.reduceSub, Nat.reduceAdd, Int.reduceAdd, Int.reduceEq, Int.reduceLT, Int.reduceLE, arr_pos, arr_neg, ]
   exact ⟨fun _ => ⟨fun _ => ⟨_, rfl⟩, fun _ => ⟨_, rfl⟩⟩, fun _ => ⟨_, rfl⟩⟩
  ·rintro us ⟨o, rfl⟩
   refine mc.wp_join (fun us => ∃ (lt p2 : Int) (t : Tm), us = [⟨I, facts⟩, ⟨I, lt⟩, ⟨I, (k : Int) + 1⟩, ⟨L U, b⟩, ⟨I, p2⟩, ⟨L T4, l⟩, ⟨I, t.1⟩, ⟨I, t.2.1⟩, ⟨I, t.2.2.1⟩, ⟨I, t.2.2.2⟩] ∧ p1 ≤ p2 ∧ p2 ≤ p1 + 20) ?_ ?_
   ·simp (contextual := true) (maxSteps := 1000000) (disch := omega) only [↓Sd, ↓So, ↓Sk, ↓den, ↓denA, Sa, Sb, Sc, Se, O1.d, O2.d, O3.d, cmI, arI, envOf, putN, ↓reduceIte, Nat.reduceLT, Nat.reduceSub, Nat.reduceAdd, Int.reduceAdd, Int.reduceEq, Int.reduceLT, Int.reduceLE, arr_pos, arr_neg, ]
    refine ⟨fun g => ?_, fun g => ⟨fun g1 => ?_, fun g1 => ?_⟩⟩
    ·refine D_pick _ _ _ hb (by omega) fun v1 _ _ => ?_
     simp (contextual := true) (maxSteps := 1000000) (disch := omega) only [↓Sd, ↓So, ↓Sk, ↓den, ↓denA, Sa, Sb, Sc, Se, O1.d, O2.d, O3.d, cmI, arI, envOf, putN, ↓reduceIte, Nat.reduceLT, Nat.reduceSub, Nat.reduceAdd, Int.reduceAdd, Int.reduceEq, Int.reduceLT, Int.reduceLE, arr_pos, arr_neg, ]
     exact ⟨fun _ => ⟨_, _, (_, _, _, _), ⟨rfl, rfl, rfl, rfl, rfl, rfl⟩, by omega, by omega⟩, fun _ => ⟨fun _ => ⟨_, _, (_, _, _, _), ⟨rfl, rfl, rfl, rfl, rfl, rfl⟩, by omega, by omega⟩, fun _ => ⟨_, _, (_, _, _, _), ⟨rfl, rfl, rfl, rfl, rfl, rfl⟩, by omega, by omega⟩⟩⟩
    ·refine D_pick _ _ _ hb (by omega) fun v1 _ _ => ?_
     simp (contextual := true) (maxSteps := 1000000) (disch := omega) only [↓Sd, ↓So, ↓Sk, ↓den, ↓denA, Sa, Sb, Sc, Se, O1.d, O2.d, O3.d, cmI, arI, envOf, putN, ↓reduceIte, Nat.reduceLT, Nat.reduceSub, Nat.reduceAdd, Int.reduceAdd, Int.reduceEq, Int.reduceLT, Int.reduceLE, arr_pos, arr_neg, ]
     exact ⟨fun _ => ⟨_, _, (_, _, _, _), ⟨rfl, rfl, rfl, rfl, rfl, rfl⟩, by omega, by omega⟩, fun _ => ⟨fun _ => ⟨_, _, (_, _, _, _), ⟨rfl, rfl, rfl, rfl, rfl, rfl⟩, by omega, by omega⟩, fun _ => ⟨_, _, (_, _, _, _), ⟨rfl, rfl, rfl, rfl, rfl, rfl⟩, by omega, by omega⟩⟩⟩
    ·refine D_pick1 _ _ _ hb (by omega) (by omega) fun x x0 x1 => ?_; simp (contextual := true) (maxSteps := 1000000) (disch := omega) only [↓Sd, ↓So, ↓Sk, ↓den, ↓denA, Sa, Sb, Sc, Se, O1.d, O2.d, O3.d, cmI, arI, envOf, putN, ↓reduceIte, Nat.reduceLT, Nat.reduceSub, Nat.reduceAdd, Int.reduceAdd, Int.reduceEq, Int.reduceLT, Int.reduceLE, arr_pos, arr_neg, ]
     refine D_pick1 _ _ _ hb (by omega) (by omega) fun y y0 y1 => ?_; simp (contextual := true) (maxSteps := 1000000) (disch := omega) only [↓Sd, ↓So, ↓Sk, ↓den, ↓denA, Sa, Sb, Sc, Se, O1.d, O2.d, O3.d, cmI, arI, envOf, putN, ↓reduceIte, Nat.reduceLT, Nat.reduceSub, Nat.reduceAdd, Int.reduceAdd, Int.reduceEq, Int.reduceLT, Int.reduceLE, arr_pos, arr_neg, ]
     refine D_pick1 _ _ _ hb (by omega) (by omega) fun z z0 z1 => ?_; simp (contextual := true) (maxSteps := 1000000) (disch := omega) only [↓Sd, ↓So, ↓Sk, ↓den, ↓denA, Sa, Sb, Sc, Se, O1.d, O2.d, O3.d, cmI, arI, envOf, putN, ↓reduceIte, Nat.reduceLT, Nat.reduceSub, Nat.reduceAdd, Int.reduceAdd, Int.reduceEq, Int.reduceLT, Int.reduceLE, arr_pos, arr_neg, ]
     refine mc.wp_join (fun us => ∃ (a c : Int), us = [⟨I, facts⟩, ⟨I, lt⟩, ⟨I, (k : Int) + 1⟩, ⟨I, o⟩, ⟨L U, b⟩, ⟨I, p1 + 1 + 1 + 1 + 1⟩, ⟨L T4, l⟩, ⟨I, o⟩, ⟨I, (0 : Int)⟩, ⟨I, a⟩, ⟨I, c⟩]) ?_ ?_
     ·simp (contextual := true) (maxSteps := 1000000) (disch := omega) only [↓Sd, ↓So, ↓Sk, ↓den, ↓denA, Sa, Sb, Sc, Se, O1.d, O2.d, O3.d, cmI, arI, envOf, putN, ↓reduceIte, Nat.reduceLT, Nat.reduceSub, Nat.reduceAdd, Int.reduceAdd, Int.reduceEq, Int.reduceLT, Int.reduceLE, arr_pos, arr_neg, C_spec_l20One]
      exact ⟨fun _ => ⟨_, _, rfl, rfl⟩, fun _ => ⟨_, _, rfl, rfl⟩⟩
     ·rintro us ⟨a, c, rfl⟩
      simp (contextual := true) (maxSteps := 1000000) (disch := omega) only [↓Sd, ↓So, ↓Sk, ↓den, ↓denA, Sa, Sb, Sc, Se, O1.d, O2.d, O3.d, cmI, arI, envOf, putN, ↓reduceIte, Nat.reduceLT, Nat.reduceSub, Nat.reduceAdd, Int.reduceAdd, Int.reduceEq, Int.reduceLT, Int.reduceLE, arr_pos, arr_neg, ]
      exact ⟨fun _ => ⟨_, _, (_, _, _, _), ⟨rfl, rfl, rfl, rfl, rfl, rfl⟩, by omega, by omega⟩, fun _ => ⟨_, _, (_, _, _, _), ⟨rfl, rfl, rfl, rfl, rfl, rfl⟩, by omega, by omega⟩⟩
   ·rintro us ⟨lt, p2, t, rfl, c1, c2⟩
    simp (contextual := true) (maxSteps := 1000000) (disch := omega) only [↓Sd, ↓So, ↓Sk, ↓den, ↓denA, Sa, Sb, Sc, Se, O1.d, O2.d, O3.d, cmI, arI, envOf, putN, ↓reduceIte, Nat.reduceLT, Nat.reduceSub, Nat.reduceAdd, Int.reduceAdd, Int.reduceEq, Int.reduceLT, Int.reduceLE, arr_pos, arr_neg, ]
    exact ⟨k, by omega, p2, lt, l ++ [t], ⟨rfl, rfl, rfl, rfl⟩, by simp only [List.length_append, List.length_singleton]; omega, by omega, by omega⟩
theorem D_l20Any (b : List Int) (p facts later : Int) (hb : Rdy b) (hp : 0 ≤ p ∧ p ≤ 500000000) {Q : List AV → Prop} (h : ∀ (l : List Tm) (p' : Int), p ≤ p' ∧ p' ≤ p + 2000 → 2 ≤ l.length → l.length ≤ 8 → Q [⟨L T4, l⟩, ⟨RD, (b, p')⟩]) : mc.C f_spec_l20Any [⟨RD, (b, p)⟩, ⟨I, facts⟩, ⟨I, later⟩] Q := by
 refine mc.c_of F_spec_l20Any ?_
 simp (contextual := true) (maxSteps := 1000000) (disch := omega) only [↓Sd, ↓So, ↓Sk, ↓den, ↓denA, Sa, Sb, Sc, Se, O1.d, O2.d, O3.d, cmI, arI, envOf, putN, ↓reduceIte, Nat.reduceLT, Nat.reduceSub, Nat.reduceAdd, Int.reduceAdd, Int.reduceEq, Int.reduceLT, Int.reduceLE, arr_pos, arr_neg, tr_spec_l20Any]
 refine D_l20Draw _ _ _ _ hb (by omega) fun l p1 hp1 h2 h8 => ?_
 simp (contextual := true) (maxSteps := 1000000) (disch := omega) only [↓Sd, ↓So, ↓Sk, ↓den, ↓denA, Sa, Sb, Sc, Se, O1.d, O2.d, O3.d, cmI, arI, envOf, putN, ↓reduceIte, Nat.reduceLT, Nat.reduceSub, Nat.reduceAdd, Int.reduceAdd, Int.reduceEq, Int.reduceLT, Int.reduceLE, arr_pos, arr_neg, ]
 refine mc.wp_join (fun us => ∃ (p1 : Int) (l : List Tm), us = [⟨L U, b⟩, ⟨I, p1⟩, ⟨L T4, l⟩] ∧ p ≤ p1 ∧ p1 ≤ p + 2000 ∧ 2 ≤ l.length ∧ l.length ≤ 8) ?_ ?_
 ·simp (contextual := true) (maxSteps := 1000000) (disch := omega) only [↓Sd, ↓So, ↓Sk, ↓den, ↓denA, Sa, Sb, Sc, Se, O1.d, O2.d, O3.d, cmI, arI, envOf, putN, ↓reduceIte, Nat.reduceLT, Nat.reduceSub, Nat.reduceAdd, Int.reduceAdd, Int.reduceEq, Int.reduceLT, Int.reduceLE, arr_pos, arr_neg, ]
  refine D_pick1 _ _ _ hb (by omega) (by omega) fun a a0 a1 => ?_; simp (contextual := true) (maxSteps := 1000000) (disch := omega) only [↓Sd, ↓So, ↓Sk, ↓den, ↓denA, Sa, Sb, Sc, Se, O1.d, O2.d, O3.d, cmI, arI, envOf, putN, ↓reduceIte, Nat.reduceLT, Nat.reduceSub, Nat.reduceAdd, Int.reduceAdd, Int.reduceEq, Int.reduceLT, Int.reduceLE, arr_pos, arr_neg, ]
  refine ⟨fun _ => ?_, fun _ => ⟨_, _, ⟨rfl, rfl⟩, by omega, by omega, by omega, by omega⟩⟩
  refine D_pick1 _ _ _ hb (by omega) (by omega) fun i i0 i1 => ?_; simp (contextual := true) (maxSteps := 1000000) (disch := omega) only [↓Sd, ↓So, ↓Sk, ↓den, ↓denA, Sa, Sb, Sc, Se, O1.d, O2.d, O3.d, cmI, arI, envOf, putN, ↓reduceIte, Nat.reduceLT, Nat.reduceSub, Nat.reduceAdd, Int.reduceAdd, Int.reduceEq, Int.reduceLT, Int.reduceLE, arr_pos, arr_neg, ]
  refine D_pick1 _ _ _ hb (by omega) (by omega) fun c c0 c1 => ?_; simp (contextual := true) (maxSteps := 1000000) (disch := omega) only [↓Sd, ↓So, ↓Sk, ↓den, ↓denA, Sa, Sb, Sc, Se, O1.d, O2.d, O3.d, cmI, arI, envOf, putN, ↓reduceIte, Nat.reduceLT, Nat.reduceSub, Nat.reduceAdd, Int.reduceAdd, Int.reduceEq, Int.reduceLT, Int.reduceLE, arr_pos, arr_neg, ]
  refine mc.wp_join (fun us => ∃ (p2 : Int) (t : Tm), us = [⟨I, i⟩, ⟨L U, b⟩, ⟨I, p2⟩, ⟨L T4, l⟩, ⟨I, t.1⟩, ⟨I, t.2.1⟩, ⟨I, t.2.2.1⟩, ⟨I, t.2.2.2⟩] ∧ p1 ≤ p2 ∧ p2 ≤ p1 + 20) ?_ ?_
  ·simp (contextual := true) (maxSteps := 1000000) (disch := omega) only [↓Sd, ↓So, ↓Sk, ↓den, ↓denA, Sa, Sb, Sc, Se, O1.d, O2.d, O3.d, cmI, arI, envOf, putN, ↓reduceIte, Nat.reduceLT, Nat.reduceSub, Nat.reduceAdd, Int.reduceAdd, Int.reduceEq, Int.reduceLT, Int.reduceLE, arr_pos, arr_neg, ]
   refine ⟨fun _ => ?_, fun _ => ⟨fun _ => ?_, fun _ => ⟨fun _ => ?_, fun _ => ?_⟩⟩⟩
   ·refine D_num _ _ _ hb (by omega) (by simp) (by simp) fun x x0 => ?_; simp (contextual := true) (maxSteps := 1000000) (disch := omega) only [↓Sd, ↓So, ↓Sk, ↓den, ↓denA, Sa, Sb, Sc, Se, O1.d, O2.d, O3.d, cmI, arI, envOf, putN, ↓reduceIte, Nat.reduceLT, Nat.reduceSub, Nat.reduceAdd, Int.reduceAdd, Int.reduceEq, Int.reduceLT, Int.reduceLE, arr_pos, arr_neg, ]
    generalize l.getD i.toNat (0, 0, 0, 0) = t0
    exact ⟨_, (x, t0.2.1, t0.2.2.1, t0.2.2.2), ⟨rfl, rfl, rfl, rfl, rfl⟩, by omega, by omega⟩
   ·refine D_num _ _ _ hb (by omega) (by simp) (by simp) fun x x0 => ?_; simp (contextual := true) (maxSteps := 1000000) (disch := omega) only [↓Sd, ↓So, ↓Sk, ↓den, ↓denA, Sa, Sb, Sc, Se, O1.d, O2.d, O3.d, cmI, arI, envOf, putN, ↓reduceIte, Nat.reduceLT, Nat.reduceSub, Nat.reduceAdd, Int.reduceAdd, Int.reduceEq, Int.reduceLT, Int.reduceLE, arr_pos, arr_neg, ]
    generalize l.getD i.toNat (0, 0, 0, 0) = t0
    exact ⟨_, (t0.1, x, t0.2.2.1, t0.2.2.2), ⟨rfl, rfl, rfl, rfl, rfl⟩, by omega, by omega⟩
   ·refine D_num _ _ _ hb (by omega) (by simp) (by simp) fun x x0 => ?_; simp (contextual := true) (maxSteps := 1000000) (disch := omega) only [↓Sd, ↓So, ↓Sk, ↓den, ↓denA, Sa, Sb, Sc, Se, O1.d, O2.d, O3.d, cmI, arI, envOf, putN, ↓reduceIte, Nat.reduceLT, Nat.reduceSub, Nat.reduceAdd, Int.reduceAdd, Int.reduceEq, Int.reduceLT, Int.reduceLE, arr_pos, arr_neg, ]
    generalize l.getD i.toNat (0, 0, 0, 0) = t0
    exact ⟨_, (t0.1, t0.2.1, x, t0.2.2.2), ⟨rfl, rfl, rfl, rfl, rfl⟩, by omega, by omega⟩
   ·refine D_num _ _ _ hb (by omega) (by simp) (by simp) fun x x0 => ?_; simp (contextual := true) (maxSteps := 1000000) (disch := omega) only [↓Sd, ↓So, ↓Sk, ↓den, ↓denA, Sa, Sb, Sc, Se, O1.d, O2.d, O3.d, cmI, arI, envOf, putN, ↓reduceIte, Nat.reduceLT, Nat.reduceSub, Nat.reduceAdd, Int.reduceAdd, Int.reduceEq, Int.reduceLT, Int.reduceLE, arr_pos, arr_neg, ]
    generalize l.getD i.toNat (0, 0, 0, 0) = t0
    exact ⟨_, (t0.1, t0.2.1, t0.2.2.1, x), ⟨rfl, rfl, rfl, rfl, rfl⟩, by omega, by omega⟩
  ·rintro us ⟨p2, t, rfl, c1, c2⟩
   simp (contextual := true) (maxSteps := 1000000) (disch := omega) only [↓Sd, ↓So, ↓Sk, ↓den, ↓denA, Sa, Sb, Sc, Se, O1.d, O2.d, O3.d, cmI, arI, envOf, putN, ↓reduceIte, Nat.reduceLT, Nat.reduceSub, Nat.reduceAdd, Int.reduceAdd, Int.reduceEq, Int.reduceLT, Int.reduceLE, arr_pos, arr_neg, ]
   exact ⟨_, _, ⟨rfl, rfl⟩, by omega, by omega, by rw [List.length_set]; omega, by rw [List.length_set]; omega⟩
 ·rintro us ⟨p2, l, rfl, a1, a2, a3, a4⟩
  simp (contextual := true) (maxSteps := 1000000) (disch := omega) only [↓Sd, ↓So, ↓Sk, ↓den, ↓denA, Sa, Sb, Sc, Se, O1.d, O2.d, O3.d, cmI, arI, envOf, putN, ↓reduceIte, Nat.reduceLT, Nat.reduceSub, Nat.reduceAdd, Int.reduceAdd, Int.reduceEq, Int.reduceLT, Int.reduceLE, arr_pos, arr_neg, ]
  exact h _ _ (by omega) (by omega) (by omega)
theorem D_l22Draw (b : List Int) (hb : Byt b) (hl : Lt63 b) {Q : List AV → Prop} (h : ∀ (b' : List Int) (p : Int) (s : Sy) (F : List (List Tm)) (l : List Tm), Rdy b' → 0 ≤ p ∧ p ≤ 300000 → SmSy s → F.length ≤ 4 → (∀ x ∈ F, x.length ≤ 16) → l.length ≤ 8 → Q [⟨RD, (b', p)⟩, ⟨L V3, s.1⟩, ⟨L TR, s.2⟩, ⟨L (L T4), F⟩, ⟨L T4, l⟩]) : mc.C f_spec_l22Draw [⟨L U, b⟩] Q := by
 refine mc.c_of F_spec_l22Draw ?_
 simp (contextual := true) (maxSteps := 1000000) (disch := omega) only [↓Sd, ↓So, ↓Sk, ↓den, ↓denA, Sa, Sb, Sc, Se, O1.d, O2.d, O3.d, cmI, arI, envOf, putN, ↓reduceIte, Nat.reduceLT, Nat.reduceSub, Nat.reduceAdd, Int.reduceAdd, Int.reduceEq, Int.reduceLT, Int.reduceLE, arr_pos, arr_neg, tr_spec_l22Draw]
 refine D_open b hb hl fun b hb => ?_
 simp (contextual := true) (maxSteps := 1000000) (disch := omega) only [↓Sd, ↓So, ↓Sk, ↓den, ↓denA, Sa, Sb, Sc, Se, O1.d, O2.d, O3.d, cmI, arI, envOf, putN, ↓reduceIte, Nat.reduceLT, Nat.reduceSub, Nat.reduceAdd, Int.reduceAdd, Int.reduceEq, Int.reduceLT, Int.reduceLE, arr_pos, arr_neg, ]
 refine D_l2Any _ _ _ hb (by omega) fun s p' _ hs => ?_
 simp (contextual := true) (maxSteps := 1000000) (disch := omega) only [↓Sd, ↓So, ↓Sk, ↓den, ↓denA, Sa, Sb, Sc, Se, O1.d, O2.d, O3.d, cmI, arI, envOf, putN, ↓reduceIte, Nat.reduceLT, Nat.reduceSub, Nat.reduceAdd, Int.reduceAdd, Int.reduceEq, Int.reduceLT, Int.reduceLE, arr_pos, arr_neg, ]
 refine mc.wp_join (fun us => ∃ (p1 : Int) (s : Sy), us = [⟨L U, b⟩, ⟨I, p1⟩, ⟨L V3, s.1⟩, ⟨L TR, s.2⟩] ∧ 0 ≤ p1 ∧ p1 ≤ 100000 ∧ SmSy s) ?_ ?_
 ·simp (contextual := true) (maxSteps := 1000000) (disch := omega) only [↓Sd, ↓So, ↓Sk, ↓den, ↓denA, Sa, Sb, Sc, Se, O1.d, O2.d, O3.d, cmI, arI, envOf, putN, ↓reduceIte, Nat.reduceLT, Nat.reduceSub, Nat.reduceAdd, Int.reduceAdd, Int.reduceEq, Int.reduceLT, Int.reduceLE, arr_pos, arr_neg, ]
  refine D_pick1 _ _ _ hb (by omega) (by omega) fun a a0 a1 => ?_; simp (contextual := true) (maxSteps := 1000000) (disch := omega) only [↓Sd, ↓So, ↓Sk, ↓den, ↓denA, Sa, Sb, Sc, Se, O1.d, O2.d, O3.d, cmI, arI, envOf, putN, ↓reduceIte, Nat.reduceLT, Nat.reduceSub, Nat.reduceAdd, Int.reduceAdd, Int.reduceEq, Int.reduceLT, Int.reduceLE, arr_pos, arr_neg, ]
  refine ⟨fun _ => ?_, fun _ => ⟨_, s, ⟨rfl, rfl, rfl⟩, by omega, by omega, hs⟩⟩
  refine D_l2System _ _ _ hb (by omega) fun s p1 hp1 hs h1 h2 h5 => ?_
  simp (contextual := true) (maxSteps := 1000000) (disch := omega) only [↓Sd, ↓So, ↓Sk, ↓den, ↓denA, Sa, Sb, Sc, Se, O1.d, O2.d, O3.d, cmI, arI, envOf, putN, ↓reduceIte, Nat.reduceLT, Nat.reduceSub, Nat.reduceAdd, Int.reduceAdd, Int.reduceEq, Int.reduceLT, Int.reduceLE, arr_pos, arr_neg, ]
  exact ⟨_, s, ⟨rfl, rfl, rfl⟩, by omega, by omega, hs⟩
 rintro us ⟨p1, s, rfl, a1, a2, hs⟩
 have h3 := hs.1
 refine mc.wp_join (fun us => ∃ (p2 : Int) (F : List (List Tm)), us = [⟨L U, b⟩, ⟨I, p2⟩, ⟨L V3, s.1⟩, ⟨L TR, s.2⟩, ⟨L (L T4), F⟩] ∧ p1 ≤ p2 ∧ p2 ≤ p1 + 1000 ∧ F.length ≤ 4 ∧ ∀ x ∈ F, x.length ≤ 16) ?_ ?_
 ·simp (contextual := true) (maxSteps := 1000000) (disch := omega) only [↓Sd, ↓So, ↓Sk, ↓den, ↓denA, Sa, Sb, Sc, Se, O1.d, O2.d, O3.d, cmI, arI, envOf, putN, ↓reduceIte, Nat.reduceLT, Nat.reduceSub, Nat.reduceAdd, Int.reduceAdd, Int.reduceEq, Int.reduceLT, Int.reduceLE, arr_pos, arr_neg, C_spec_l2Var (s.1.getD 0 (0, 0, 0))]
  refine ⟨fun g => ⟨fun g1 => ?_, fun g1 => ⟨_, _, ⟨rfl, rfl⟩, by omega, by omega, by simp, by simp⟩⟩, fun g => ⟨_, _, ⟨rfl, rfl⟩, by omega, by omega, by simp, by simp⟩⟩
  refine D_num _ _ _ hb (by omega) (by simp) (by simp) fun n n0 => ?_; simp (contextual := true) (maxSteps := 1000000) (disch := omega) only [↓Sd, ↓So, ↓Sk, ↓den, ↓denA, Sa, Sb, Sc, Se, O1.d, O2.d, O3.d, cmI, arI, envOf, putN, ↓reduceIte, Nat.reduceLT, Nat.reduceSub, Nat.reduceAdd, Int.reduceAdd, Int.reduceEq, Int.reduceLT, Int.reduceLE, arr_pos, arr_neg, ]
  have hn : 0 ≤ n ∧ n ≤ 2 := by simp only [List.mem_append, List.mem_singleton] at n0; omega
  obtain ⟨N, hN⟩ : ∃ N : Nat, n = N := ⟨n.toNat, by omega⟩
  subst hN
  refine mc.lp_inv (fun k us => ∃ (p2 : Int) (F : List (List Tm)), us = [⟨I, (k : Int)⟩, ⟨L U, b⟩, ⟨I, p2⟩, ⟨L V3, s.1⟩, ⟨L TR, s.2⟩, ⟨L (L T4), F⟩] ∧ F.length + k ≤ 2 ∧ p1 ≤ p2 ∧ p2 + 10 * k ≤ p1 + 100 ∧ ∀ x ∈ F, x.length ≤ 16) N _ ⟨p1 + 1, [], rfl, by simp; omega, by omega, by omega, by simp⟩ ?_
  rintro k us ⟨p2, F, rfl, i1, i2, i3, i4⟩
  have app : ∀ (x : List Tm), x.length ≤ 16 → ∀ y ∈ F ++ [x], y.length ≤ 16 := fun x hx y hy => (List.mem_append.1 hy).elim (i4 y) fun hy => by rw [List.mem_singleton.1 hy]; exact hx
  cases k with
  | zero =>
   simp (contextual := true) (maxSteps := 1000000) (disch := omega) only [↓Sd, ↓So, ↓Sk, ↓den, ↓denA, Sa, Sb, Sc, Se, O1.d, O2.d, O3.d, cmI, arI, envOf, putN, ↓reduceIte, Nat.reduceLT, Nat.reduceSub, Nat.reduceAdd, Int.reduceAdd, Int.reduceEq, Int.reduceLT, Int.reduceLE, arr_pos, arr_neg, ]
   exact ⟨_, _, ⟨rfl, rfl⟩, by omega, by omega, by omega, i4⟩
  | succ k =>
   simp (contextual := true) (maxSteps := 1000000) (disch := omega) only [↓Sd, ↓So, ↓Sk, ↓den, ↓denA, Sa, Sb, Sc, Se, O1.d, O2.d, O3.d, cmI, arI, envOf, putN, ↓reduceIte, Nat.reduceLT, Nat.reduceSub, Nat.reduceAdd, Int.reduceAdd, Int.reduceEq, Int.reduceLT, Int.reduceLE, arr_pos, arr_neg, ]
   refine D_l2Cond _ _ (s.1.getD 0 (0, 0, 0)) _ hb (by omega) fun m p3 hp3 hm => ?_
   simp (contextual := true) (maxSteps := 1000000) (disch := omega) only [↓Sd, ↓So, ↓Sk, ↓den, ↓denA, Sa, Sb, Sc, Se, O1.d, O2.d, O3.d, cmI, arI, envOf, putN, ↓reduceIte, Nat.reduceLT, Nat.reduceSub, Nat.reduceAdd, Int.reduceAdd, Int.reduceEq, Int.reduceLT, Int.reduceLE, arr_pos, arr_neg, ↓wpJoin, ]
   exact ⟨k, by omega, p3, _, ⟨iD (by omega), rfl, rfl⟩, by simp only [List.length_append, List.length_singleton]; omega, by omega, by omega, app m (by omega)⟩
 rintro us ⟨p2, F, rfl, c1, c2, c3, c4⟩
 refine mc.wp_join (fun us => ∃ (p2 : Int) (F : List (List Tm)), us = [⟨L U, b⟩, ⟨I, p2⟩, ⟨L V3, s.1⟩, ⟨L TR, s.2⟩, ⟨L (L T4), F⟩] ∧ p1 ≤ p2 ∧ p2 ≤ p1 + 20000 ∧ F.length ≤ 4 ∧ ∀ x ∈ F, x.length ≤ 16) ?_ ?_
 ·simp (contextual := true) (maxSteps := 1000000) (disch := omega) only [↓Sd, ↓So, ↓Sk, ↓den, ↓denA, Sa, Sb, Sc, Se, O1.d, O2.d, O3.d, cmI, arI, envOf, putN, ↓reduceIte, Nat.reduceLT, Nat.reduceSub, Nat.reduceAdd, Int.reduceAdd, Int.reduceEq, Int.reduceLT, Int.reduceLE, arr_pos, arr_neg, ]
  refine D_pick1 _ _ _ hb (by omega) (by omega) fun a a0 a1 => ?_; simp (contextual := true) (maxSteps := 1000000) (disch := omega) only [↓Sd, ↓So, ↓Sk, ↓den, ↓denA, Sa, Sb, Sc, Se, O1.d, O2.d, O3.d, cmI, arI, envOf, putN, ↓reduceIte, Nat.reduceLT, Nat.reduceSub, Nat.reduceAdd, Int.reduceAdd, Int.reduceEq, Int.reduceLT, Int.reduceLE, arr_pos, arr_neg, ]
  refine ⟨fun _ => ?_, fun _ => ⟨_, _, ⟨rfl, rfl⟩, by omega, by omega, c3, c4⟩⟩
  refine D_l20Asked _ _ s hb (by omega) hs fun F p3 hp3 g1 g2 => ?_
  simp (contextual := true) (maxSteps := 1000000) (disch := omega) only [↓Sd, ↓So, ↓Sk, ↓den, ↓denA, Sa, Sb, Sc, Se, O1.d, O2.d, O3.d, cmI, arI, envOf, putN, ↓reduceIte, Nat.reduceLT, Nat.reduceSub, Nat.reduceAdd, Int.reduceAdd, Int.reduceEq, Int.reduceLT, Int.reduceLE, arr_pos, arr_neg, ]
  exact ⟨_, _, ⟨rfl, rfl⟩, by omega, by omega, g1, g2⟩
 rintro us ⟨p3, F, rfl, d1, d2, d3, d4⟩
 simp (contextual := true) (maxSteps := 1000000) (disch := omega) only [↓Sd, ↓So, ↓Sk, ↓den, ↓denA, Sa, Sb, Sc, Se, O1.d, O2.d, O3.d, cmI, arI, envOf, putN, ↓reduceIte, Nat.reduceLT, Nat.reduceSub, Nat.reduceAdd, Int.reduceAdd, Int.reduceEq, Int.reduceLT, Int.reduceLE, arr_pos, arr_neg, ]
 refine D_pick1 _ _ _ hb (by omega) (by omega) fun a a0 a1 => ?_; simp (contextual := true) (maxSteps := 1000000) (disch := omega) only [↓Sd, ↓So, ↓Sk, ↓den, ↓denA, Sa, Sb, Sc, Se, O1.d, O2.d, O3.d, cmI, arI, envOf, putN, ↓reduceIte, Nat.reduceLT, Nat.reduceSub, Nat.reduceAdd, Int.reduceAdd, Int.reduceEq, Int.reduceLT, Int.reduceLE, arr_pos, arr_neg, ]
 refine D_l20Any _ _ _ _ hb (by omega) fun l p4 hp4 g1 g2 => ?_
 simp (contextual := true) (maxSteps := 1000000) (disch := omega) only [↓Sd, ↓So, ↓Sk, ↓den, ↓denA, Sa, Sb, Sc, Se, O1.d, O2.d, O3.d, cmI, arI, envOf, putN, ↓reduceIte, Nat.reduceLT, Nat.reduceSub, Nat.reduceAdd, Int.reduceAdd, Int.reduceEq, Int.reduceLT, Int.reduceLE, arr_pos, arr_neg, ↓wpJoin, ]
 exact h _ _ s F l hb (by omega) hs d3 d4 g2
theorem D_DrawProductNext (b : List Int) (hb : Byt b) (hl : Lt63 b) {Q : List AV → Prop} (h : ∀ (s : Sy) (F : List (List Tm)) (l : List Tm) (k : Int), SmSy s → F.length ≤ 4 → (∀ x ∈ F, x.length ≤ 16) → l.length ≤ 8 → Q [⟨L V3, s.1⟩, ⟨L TR, s.2⟩, ⟨L (L T4), F⟩, ⟨L T4, l⟩, ⟨I, k⟩]) : mc.C f_spec_DrawProductNext [⟨L U, b⟩] Q := by
 refine mc.c_of F_spec_DrawProductNext ?_
 simp (contextual := true) (maxSteps := 1000000) (disch := omega) only [↓Sd, ↓So, ↓Sk, ↓den, ↓denA, Sa, Sb, Sc, Se, O1.d, O2.d, O3.d, cmI, arI, envOf, putN, ↓reduceIte, Nat.reduceLT, Nat.reduceSub, Nat.reduceAdd, Int.reduceAdd, Int.reduceEq, Int.reduceLT, Int.reduceLE, arr_pos, arr_neg, tr_spec_DrawProductNext]
 refine D_l22Draw b hb hl fun b p s F l hb hp hs hF hF2 hl8 => ?_
 have hFS : FewSS F := ⟨by unfold Few; omega, fun x hx => by have := hF2 x hx; unfold Few; omega⟩
 have hf : Few l := by unfold Few; omega
 simp (contextual := true) (maxSteps := 1000000) (disch := omega) only [↓Sd, ↓So, ↓Sk, ↓den, ↓denA, Sa, Sb, Sc, Se, O1.d, O2.d, O3.d, cmI, arI, envOf, putN, ↓reduceIte, Nat.reduceLT, Nat.reduceSub, Nat.reduceAdd, Int.reduceAdd, Int.reduceEq, Int.reduceLT, Int.reduceLE, arr_pos, arr_neg, C_spec_ProductSize s F l hs.few hFS hf]
 refine D_pick _ _ _ hb (by omega) fun v1 _ _ => ?_
 simp (contextual := true) (maxSteps := 1000000) (disch := omega) only [↓Sd, ↓So, ↓Sk, ↓den, ↓denA, Sa, Sb, Sc, Se, O1.d, O2.d, O3.d, cmI, arI, envOf, putN, ↓reduceIte, Nat.reduceLT, Nat.reduceSub, Nat.reduceAdd, Int.reduceAdd, Int.reduceEq, Int.reduceLT, Int.reduceLE, arr_pos, arr_neg, ]
 refine D_pick _ _ _ hb (by omega) fun v2 _ _ => ?_
 simp (contextual := true) (maxSteps := 1000000) (disch := omega) only [↓Sd, ↓So, ↓Sk, ↓den, ↓denA, Sa, Sb, Sc, Se, O1.d, O2.d, O3.d, cmI, arI, envOf, putN, ↓reduceIte, Nat.reduceLT, Nat.reduceSub, Nat.reduceAdd, Int.reduceAdd, Int.reduceEq, Int.reduceLT, Int.reduceLE, arr_pos, arr_neg, ]
 refine D_pick _ _ _ hb (by omega) fun v3 _ _ => ?_
 simp (contextual := true) (maxSteps := 1000000) (disch := omega) only [↓Sd, ↓So, ↓Sk, ↓den, ↓denA, Sa, Sb, Sc, Se, O1.d, O2.d, O3.d, cmI, arI, envOf, putN, ↓reduceIte, Nat.reduceLT, Nat.reduceSub, Nat.reduceAdd, Int.reduceAdd, Int.reduceEq, Int.reduceLT, Int.reduceLE, arr_pos, arr_neg, ]
 refine D_num _ _ _ hb (by omega) (by simp) (by simp) fun k k0 => ?_; simp (contextual := true) (maxSteps := 1000000) (disch := omega) only [↓Sd, ↓So, ↓Sk, ↓den, ↓denA, Sa, Sb, Sc, Se, O1.d, O2.d, O3.d, cmI, arI, envOf, putN, ↓reduceIte, Nat.reduceLT, Nat.reduceSub, Nat.reduceAdd, Int.reduceAdd, Int.reduceEq, Int.reduceLT, Int.reduceLE, arr_pos, arr_neg, ]
 simp (contextual := true) (maxSteps := 1000000) (disch := omega) only [↓Sd, ↓So, ↓Sk, ↓den, ↓denA, Sa, Sb, Sc, Se, O1.d, O2.d, O3.d, cmI, arI, envOf, putN, ↓reduceIte, Nat.reduceLT, Nat.reduceSub, Nat.reduceAdd, Int.reduceAdd, Int.reduceEq, Int.reduceLT, Int.reduceLE, arr_pos, arr_neg, ↓wpJoin, ]
 exact h s F l k hs hF hF2 hl8
theorem putM_ne {x : List Int} : ∀ {l : List (List Int)}, putM x l ≠ []
 | [] => by simp [putM]
 | y :: l => by
  simp only [putM]
  split
  ·simp
  ·split <;> simp
theorem nxtN_nil {s : Sy} {st : List Int} : ∀ {k : Nat}, nxtN s st k = [] → ∀ j, j < k → useM s.1 (s.2.getD j ([], [], [])) st = []
 | 0, _, j, hj => absurd hj (Nat.not_lt_zero _)
 | k + 1, h, j, hj => by
  simp only [nxtN] at h
  split at h
  ·rename_i g
   rcases Nat.lt_succ_iff_lt_or_eq.1 hj with h1 | rfl
   ·exact nxtN_nil h j h1
   ·exact g
  ·exact absurd h putM_ne
theorem nxt_nil {s : Sy} {st : List Int} : nxt s st = [] ↔ ∀ j, j < s.2.length → useM s.1 (s.2.getD j ([], [], [])) st = [] := by
 refine ⟨nxtN_nil, fun h => ?_⟩
 cases g : nxt s st with
 | nil => rfl
 | cons x t =>
  have hx : x ∈ nxtN s st s.2.length := by show x ∈ nxt s st; rw [g]; exact List.mem_cons_self
  obtain ⟨r, h1, h2, h3⟩ := nxtN_rule hx
  exact absurd (h2.symm.trans (h r h1)) h3
def usb (s : Sy) (st : List Int) : List Int := upTo (fun k => decide (¬ useM s.1 (s.2.getD k ([], [], [])) st = [])) s.2.length
theorem usb_nil {s : Sy} {st : List Int} : ((usb s st).length : Int) = 0 ↔ nxt s st = [] := by
 rw [nxt_nil]
 have h1 := @upTo_nil (fun k => decide (¬ useM s.1 (s.2.getD k ([], [], [])) st = [])) s.2.length
 unfold usb
 constructor
 ·intro h j hj
  have := h1.1 (by omega) j hj
  simpa using this
 ·intro h
  have := h1.2 fun k hk => decide_eq_false fun g => g (h k hk)
  omega
theorem C_impl_usableIn (s : Sy) (a : List Int) (h : valid s) (ha : inR s.1 a) (Q : List AV → Prop) : mc.C f_impl_usableIn [⟨L V3, s.1⟩, ⟨L TR, s.2⟩, ⟨L I, a⟩] Q = Q [⟨L I, usb s a⟩] := by
 refine Mc.Ends.c (mc.ends F_impl_usableIn ?_)
 simp (contextual := true) (maxSteps := 1000000) (disch := omega) only [↓Sd, ↓So, ↓Sk, ↓den, ↓denA, Sa, Sb, Sc, Se, O1.d, O2.d, O3.d, cmI, arI, envOf, putN, ↓reduceIte, Nat.reduceLT, Nat.reduceSub, Nat.reduceAdd, Int.reduceAdd, Int.reduceEq, Int.reduceLT, Int.reduceLE, arr_pos, arr_neg, tr_impl_usableIn]
 refine mc.lp_for (List Int) (fun i o => [⟨L I, a⟩, ⟨I, (s.2.length : Int)⟩, ⟨I, (i : Int)⟩, ⟨L V3, s.1⟩, ⟨L TR, s.2⟩, ⟨L I, o⟩]) (fun i o => o = upTo (fun k => decide (¬ useM s.1 (s.2.getD k ([], [], [])) a = [])) i) s.2.length 0 [] _ rfl (Nat.zero_le _) rfl ?_ ?_
 ·rintro i o hi rfl
  have h1 := @upTo_len (fun k => decide (¬ useM s.1 (s.2.getD k ([], [], [])) a = [])) i
  have h8 := h.2.1
  simp (contextual := true) (maxSteps := 1000000) (disch := omega) only [↓Sd, ↓So, ↓Sk, ↓den, ↓denA, Sa, Sb, Sc, Se, O1.d, O2.d, O3.d, cmI, arI, envOf, putN, ↓reduceIte, Nat.reduceLT, Nat.reduceSub, Nat.reduceAdd, Int.reduceAdd, Int.reduceEq, Int.reduceLT, Int.reduceLE, arr_pos, arr_neg, ↓wpJoin, C_impl_use s a i h ha hi]
  exact ⟨fun g => (upTo_s (p := fun k => decide (¬ useM s.1 (s.2.getD k ([], [], [])) a = [])) (decide_eq_true g)).symm, fun g => (upTo_n (p := fun k => decide (¬ useM s.1 (s.2.getD k ([], [], [])) a = [])) (by simpa using g)).symm⟩
 ·rintro o rfl
  have h1 := @upTo_len (fun k => decide (¬ useM s.1 (s.2.getD k ([], [], [])) a = [])) s.2.length
  have h8 := h.2.1
  simp (contextual := true) (maxSteps := 1000000) (disch := omega) only [↓Sd, ↓So, ↓Sk, ↓den, ↓denA, Sa, Sb, Sc, Se, O1.d, O2.d, O3.d, cmI, arI, envOf, putN, ↓reduceIte, Nat.reduceLT, Nat.reduceSub, Nat.reduceAdd, Int.reduceAdd, Int.reduceEq, Int.reduceLT, Int.reduceLE, arr_pos, arr_neg, C_impl_clone_int (upTo (fun k => decide (¬ useM s.1 (s.2.getD k ([], [], [])) a = [])) s.2.length) (by omega)]
  rfl
theorem C_impl_follows (s : Sy) (a b : List Int) (h : valid s) (ha : inR s.1 a) (hb : inR s.1 b) (Q : List AV → Prop) : mc.C f_impl_follows [⟨L V3, s.1⟩, ⟨L TR, s.2⟩, ⟨L I, a⟩, ⟨L I, b⟩] Q = Q [⟨B, if nxt s a = [] then decide (a = b) else decide (0 ≤ rbt s a b)⟩] := by
 refine Mc.Ends.c (mc.ends F_impl_follows ?_)
 have hla : a.length ≤ 1048576 := by have := ha.1; have := h.1.2; omega
 have hlb : b.length ≤ 1048576 := by have := hb.1; have := h.1.2; omega
 simp (contextual := true) (maxSteps := 1000000) (disch := omega) only [↓Sd, ↓So, ↓Sk, ↓den, ↓denA, Sa, Sb, Sc, Se, O1.d, O2.d, O3.d, cmI, arI, envOf, putN, ↓reduceIte, Nat.reduceLT, Nat.reduceSub, Nat.reduceAdd, Int.reduceAdd, Int.reduceEq, Int.reduceLT, Int.reduceLE, arr_pos, arr_neg, tr_impl_follows, C_impl_usableIn s a h ha]
 refine ⟨fun g => ?_, fun g => ?_⟩
 ·rw [if_pos (usb_nil.1 g)]
  simp (contextual := true) (maxSteps := 1000000) (disch := omega) only [↓Sd, ↓So, ↓Sk, ↓den, ↓denA, Sa, Sb, Sc, Se, O1.d, O2.d, O3.d, cmI, arI, envOf, putN, ↓reduceIte, Nat.reduceLT, Nat.reduceSub, Nat.reduceAdd, Int.reduceAdd, Int.reduceEq, Int.reduceLT, Int.reduceLE, arr_pos, arr_neg, C_slices_Equal a b hla hlb]
 ·rw [if_neg fun e => g (usb_nil.2 e)]
  simp (contextual := true) (maxSteps := 1000000) (disch := omega) only [↓Sd, ↓So, ↓Sk, ↓den, ↓denA, Sa, Sb, Sc, Se, O1.d, O2.d, O3.d, cmI, arI, envOf, putN, ↓reduceIte, Nat.reduceLT, Nat.reduceSub, Nat.reduceAdd, Int.reduceAdd, Int.reduceEq, Int.reduceLT, Int.reduceLE, arr_pos, arr_neg, C_impl_ruleBetween s a b h ha hlb]
theorem C_impl_Follows (s : Sy) (a b : List Int) (hs : FewSy s) (h : valid s) (ha : inR s.1 a) (hb : inR s.1 b) (Q : List AV → Prop) : mc.C f_impl_Follows [⟨L V3, s.1⟩, ⟨L TR, s.2⟩, ⟨L I, a⟩, ⟨L I, b⟩] Q = Q [⟨B, if nxt s a = [] then decide (a = b) else decide (0 ≤ rbt s a b)⟩] := by
 have hla : a.length ≤ 1048576 := by have := ha.1; have := h.1.2; omega
 have hlb : b.length ≤ 1048576 := by have := hb.1; have := h.1.2; omega
 refine Mc.Ends.c (mc.ends F_impl_Follows ?_)
 simp (contextual := true) (maxSteps := 1000000) (disch := omega) only [↓Sd, ↓So, ↓Sk, ↓den, ↓denA, Sa, Sb, Sc, Se, O1.d, O2.d, O3.d, cmI, arI, envOf, putN, ↓reduceIte, Nat.reduceLT, Nat.reduceSub, Nat.reduceAdd, Int.reduceAdd, Int.reduceEq, Int.reduceLT, Int.reduceLE, arr_pos, arr_neg, tr_impl_Follows, C_impl_InRange s a hs h hla, ha, C_impl_inRange s b h.1.2 hlb, hb, C_impl_follows s a b h ha hb]
theorem C_impl_SizeOf (s : Sy) (hs : FewSy s) (h : valid s) (Q : List AV → Prop) : mc.C f_impl_SizeOf [⟨L V3, s.1⟩, ⟨L TR, s.2⟩] Q = Q [⟨I, sz s.1⟩] := by
 refine Mc.Ends.c (mc.ends F_impl_SizeOf ?_)
 simp (contextual := true) (maxSteps := 1000000) (disch := omega) only [↓Sd, ↓So, ↓Sk, ↓den, ↓denA, Sa, Sb, Sc, Se, O1.d, O2.d, O3.d, cmI, arI, envOf, putN, ↓reduceIte, Nat.reduceLT, Nat.reduceSub, Nat.reduceAdd, Int.reduceAdd, Int.reduceEq, Int.reduceLT, Int.reduceLE, arr_pos, arr_neg, tr_impl_SizeOf, C_impl_SystemValid s hs, h, C_impl_size s.1 h.1.2 h.2.2.1]
theorem C_impl_StateAt (s : Sy) (k : Nat) (hs : FewSy s) (h : valid s) (hk : k < szn s.1) (Q : List AV → Prop) : mc.C f_impl_StateAt [⟨L V3, s.1⟩, ⟨L TR, s.2⟩, ⟨I, (k : Int)⟩] Q = Q [⟨L I, stN s k⟩] := by
 refine Mc.Ends.c (mc.ends F_impl_StateAt ?_)
 have hz := szn_eq h
 have hz1 := hz.1
 have hst : stAt s.1 (k : Int) = stN s k := rfl
 simp (contextual := true) (maxSteps := 1000000) (disch := omega) only [↓Sd, ↓So, ↓Sk, ↓den, ↓denA, Sa, Sb, Sc, Se, O1.d, O2.d, O3.d, cmI, arI, envOf, putN, ↓reduceIte, Nat.reduceLT, Nat.reduceSub, Nat.reduceAdd, Int.reduceAdd, Int.reduceEq, Int.reduceLT, Int.reduceLE, arr_pos, arr_neg, tr_impl_StateAt, C_impl_SizeOf s hs h, ← hz1, C_impl_in, C_impl_stateAt s (k : Int) h.1.2 h.2.2.1 (by omega), hst]
 done
theorem C_impl_GuessNext (l : List Tm) (n g k : Nat) (hf : Few l) (hn : n ≤ 1048576) (h : asked l n) (hg : g < gM l n) (hk : k < gM l n) (Q : List AV → Prop) : mc.C f_impl_GuessNext [⟨L T4, l⟩, ⟨I, (n : Int)⟩, ⟨I, (g : Int)⟩, ⟨I, (k : Int)⟩] Q = Q [⟨B, bhB l n g k⟩] := by
 have ha := Ask.of h
 have hm : gM l n ≤ 128 := (pow_bd ha.few).2
 have hc := gC_gM h
 refine Mc.Ends.c (mc.ends F_impl_GuessNext ?_)
 have hbe : ∀ Q : List AV → Prop, mc.C f_impl_behindOk [⟨L T4, l⟩, ⟨L I, trv l n (vb g (gK l n))⟩, ⟨L I, trv l n (vb k (gK l n))⟩] Q = Q [⟨B, bhB l n g k⟩] := C_impl_behindOk l (n : Int) (gT l n g) (gT l n k) ha.tv gT_len gT_len gT_bit gT_bit
 simp (contextual := true) (maxSteps := 1000000) (disch := omega) only [↓Sd, ↓So, ↓Sk, ↓den, ↓denA, Sa, Sb, Sc, Se, O1.d, O2.d, O3.d, cmI, arI, envOf, putN, ↓reduceIte, Nat.reduceLT, Nat.reduceSub, Nat.reduceAdd, Int.reduceAdd, Int.reduceEq, Int.reduceLT, Int.reduceLE, arr_pos, arr_neg, tr_impl_GuessNext, C_impl_GuessCount l n hf hn, hc, C_impl_in, C_impl_truths l n g hf ha (by omega), C_impl_truths l n k hf ha (by omega), hbe]
theorem C_impl_LettersOf (s : Sy) (F : List (List Tm)) (k : Nat) (hs : FewSy s) (hF : FewSS F) (h : fOk s F) (hk : k < szn s.1) (Q : List AV → Prop) : mc.C f_impl_LettersOf [⟨L V3, s.1⟩, ⟨L TR, s.2⟩, ⟨L (L T4), F⟩, ⟨L I, stN s k⟩] Q = Q [⟨L I, ltr F (stN s k)⟩] := by
 have hat := fOk_at h hk
 have hin := stN_in h.1 hk
 have hl : (stN s k).length ≤ 1048576 := by have := hin.1; have := h.1.1.2; omega
 have hll : (ltr F (stN s k)).length ≤ 1048576 := by rw [ltr, tab_len]; have := h.2.1; omega
 refine Mc.Ends.c (mc.ends F_impl_LettersOf ?_)
 simp (contextual := true) (maxSteps := 1000000) (disch := omega) only [↓Sd, ↓So, ↓Sk, ↓den, ↓denA, Sa, Sb, Sc, Se, O1.d, O2.d, O3.d, cmI, arI, envOf, putN, ↓reduceIte, Nat.reduceLT, Nat.reduceSub, Nat.reduceAdd, Int.reduceAdd, Int.reduceEq, Int.reduceLT, Int.reduceLE, arr_pos, arr_neg, tr_impl_LettersOf, C_impl_factsOk s F hs hF, h, C_impl_inRange s (stN s k) h.1.1.2 hl, hin, C_impl_letters F (stN s k) h.2.1 hat.1 hat.2, C_impl_clone_int (ltr F (stN s k)) hll]
theorem stepR_nil {s : Sy} {n : Nat} (hn : n < szn s.1) : (steps s).getD n [] = [] ↔ nxt s (stN s n) = [] := by
 rw [steps, tab_get hn, stepR, List.map_eq_nil_iff]
theorem rowP_mem {s : Sy} {F : List (List Tm)} {l : List Tm} {K : Nat} (h : PAsk s F l) (hK : K < szn s.1 * gM l F.length) {y : Int} (hy : y ∈ rowP s F l K) :
  ∃ x k, y = ((x * gM l F.length + k : Nat) : Int) ∧ x < szn s.1 ∧ k < gM l F.length ∧ bhB l F.length (K % gM l F.length) k = true ∧ ltr F (stN s x) = (vb k (gK l F.length)).take F.length ∧ (if nxt s (stN s (K / gM l F.length)) = [] then decide (stN s (K / gM l F.length) = stN s x) else decide (0 ≤ rbt s (stN s (K / gM l F.length)) (stN s x))) = true := by
 have hv := h.facts.1
 have hm := h.m
 have hq : K / gM l F.length < szn s.1 := Nat.div_lt_of_lt_mul (by rw [Nat.mul_comm]; exact hK)
 unfold rowP at hy
 split at hy
 ·obtain ⟨x, h1, h2⟩ := List.mem_flatMap.1 hy
  obtain ⟨k, h3, rfl⟩ := List.mem_map.1 h2
  obtain ⟨k, h4, rfl, h5⟩ := upTo_mem.1 h3
  rw [Bool.and_eq_true] at h5
  obtain ⟨h5, h6⟩ := h5
  have hx : 0 ≤ x ∧ x < (szn s.1 : Int) := by
   rw [onw_row hq] at h1
   split at h1
   ·rw [List.mem_singleton.1 h1]; exact ⟨Int.natCast_nonneg _, Int.ofNat_lt.2 hq⟩
   ·exact (steps_tbl hv).row x h1
  obtain ⟨x, rfl⟩ : ∃ z : Nat, x = z := ⟨x.toNat, by omega⟩
  refine ⟨x, k, by rw [Int.natCast_add, Int.natCast_mul], by omega, h4, h5, ?_, ?_⟩
  ·rw [Int.toNat_natCast] at h6
   unfold fitB at h6
   have e1 : (x * gM l F.length + k) / gM l F.length = x := by rw [Nat.mul_comm, Nat.mul_add_div (by omega), Nat.div_eq_of_lt h4, Nat.add_zero]
   have e2 : (x * gM l F.length + k) % gM l F.length = k := by rw [Nat.mul_comm, Nat.mul_add_mod, Nat.mod_eq_of_lt h4]
   rw [e1, e2] at h6
   exact of_decide_eq_true h6
  ·rw [onw_row hq] at h1
   split at h1
   ·rename_i g
    rw [if_pos ((stepR_nil hq).1 g)]
    have : x = K / gM l F.length := by have := List.mem_singleton.1 h1; omega
    rw [this]
    exact decide_eq_true rfl
   ·rename_i g
    rw [if_neg fun e => g ((stepR_nil hq).2 e)]
    exact decide_eq_true (rbt_step hv hq h1)
 ·simp at hy
theorem law_FnProductNext (b : List Int) (hb : Byt b) (hl : Lt63 b) : mc.C f_laws_FnProductNext [⟨L U, b⟩] (· = [⟨B, true⟩]) := by
 refine mc.c_of F_laws_FnProductNext ?_
 have h63 := hl
 unfold Lt63 at h63
 simp (contextual := true) (maxSteps := 1000000) (disch := omega) only [↓Sd, ↓So, ↓Sk, ↓den, ↓denA, Sa, Sb, Sc, Se, O1.d, O2.d, O3.d, cmI, arI, envOf, putN, ↓reduceIte, Nat.reduceLT, Nat.reduceSub, Nat.reduceAdd, Int.reduceAdd, Int.reduceEq, Int.reduceLT, Int.reduceLE, arr_pos, arr_neg, tr_laws_FnProductNext]
 intro _
 refine D_DrawProductNext b hb hl fun s F l k hs hF hF2 hl8 => ?_
 have hs := hs.few
 have hFS : FewSS F := ⟨by unfold Few; omega, fun x hx => by have := hF2 x hx; unfold Few; omega⟩
 have hf : Few l := by unfold Few; omega
 have hr := @pNext_bd s F l k
 simp (contextual := true) (maxSteps := 1000000) (disch := omega) only [↓Sd, ↓So, ↓Sk, ↓den, ↓denA, Sa, Sb, Sc, Se, O1.d, O2.d, O3.d, cmI, arI, envOf, putN, ↓reduceIte, Nat.reduceLT, Nat.reduceSub, Nat.reduceAdd, Int.reduceAdd, Int.reduceEq, Int.reduceLT, Int.reduceLE, arr_pos, arr_neg, C_impl_ProductNext s F l k hs hFS hf, C_spec_ProductNext s F l k hs hFS hf, C_laws_wcInts (pNext s F l k) (pNext s F l k) (by omega) (by omega), C_impl_ProductSize s F l hs hFS hf, C_spec_ProductSize s F l hs hFS hf, C_impl_GuessCount l F.length hf (by omega)]
 by_cases hk : 0 ≤ k ∧ k < pN s F l
 ·have hp : askP s F l := Classical.byContradiction fun g => by rw [pN, if_neg g] at hk; omega
  have hS := hp.2.1
  have hc := gC_gM hp.2.2
  have hm := hp.p.m
  have hN := hp.p.N
  rw [pN, if_pos hp] at hk
  obtain ⟨K, rfl⟩ : ∃ K : Nat, k = K := ⟨k.toNat, by omega⟩
  have hKN : K < szn s.1 * gM l F.length := by omega
  have hq : K / gM l F.length < szn s.1 := Nat.div_lt_of_lt_mul (by rw [Nat.mul_comm]; exact hKN)
  have hg : K % gM l F.length < gM l F.length := Nat.mod_lt _ (by omega)
  have e : pNext s F l (K : Int) = rowP s F l K := by rw [pNext, pN, if_pos hp, if_pos hk]; rfl
  have hrow := fun {y} => @rowP_mem s F l K hp.p hKN y
  rw [e] at hr ⊢
  obtain ⟨R, hR⟩ : ∃ R, rowP s F l K = R := ⟨_, rfl⟩
  rw [hR] at hr hrow ⊢
  have hn1 := fun k hk => C_impl_GuessNext l F.length (K % gM l F.length) k hf (by omega) hp.2.2 hg hk
  have hgl := fun k (hk : k < gM l F.length) => C_impl_GuessLetter l F.length k hf hp.2.2 hk
  rw [hc]
  obtain ⟨m, hme⟩ : ∃ m, gM l F.length = m := ⟨_, rfl⟩
  rw [hme] at hm hN hk hKN hq hg hrow hn1 hgl ⊢
  obtain ⟨q, hqe⟩ : ∃ q, K / m = q := ⟨_, rfl⟩
  obtain ⟨g, hge⟩ : ∃ g, K % m = g := ⟨_, rfl⟩
  have hqi : (K : Int) / (m : Int) = (q : Int) := by rw [← hqe]; rfl
  have hgi : (K : Int) % (m : Int) = (g : Int) := by rw [← hge]; rfl
  rw [hqe] at hrow hq
  rw [hge] at hrow hg hn1
  have hN2 : K < 6400 := by omega
  clear hqe hge hk hKN
  refine mc.lp_for Unit (fun i _ => [⟨I, (K : Int)⟩, ⟨I, (m : Int)⟩, ⟨I, (R.length : Int)⟩, ⟨I, (i : Int)⟩, ⟨L V3, s.1⟩, ⟨L TR, s.2⟩, ⟨L (L T4), F⟩, ⟨L T4, l⟩, ⟨L I, R⟩]) (fun _ _ => True) R.length 0 () _ rfl (Nat.zero_le _) trivial ?_ ?_
  ·rintro i - hi -
   obtain ⟨x, k, hye, hx, hk, h1, h2, h3⟩ := hrow (getD_mem (d := 0) hi)
   obtain ⟨y, hy⟩ : ∃ y, x * m + k = y := ⟨_, rfl⟩
   have hyx : (y : Int) / (m : Int) = (x : Int) := by
    have : y / m = x := by rw [← hy, Nat.mul_comm, Nat.mul_add_div (by omega), Nat.div_eq_of_lt hk, Nat.add_zero]
    rw [← this]; rfl
   have hyk : (y : Int) % (m : Int) = (k : Int) := by
    have : y % m = k := by rw [← hy, Nat.mul_comm, Nat.mul_add_mod, Nat.mod_eq_of_lt hk]
    rw [← this]; rfl
   have hyN : y < 6400 := by
    have := pair_lt hx hk
    omega
   rw [hy] at hye
   have hin1 := stN_in hp.1.1 hq
   have hin2 := stN_in hp.1.1 hx
   have hll : (ltr F (stN s x)).length ≤ 1048576 := by rw [ltr, tab_len]; omega
   have hw := C_laws_wcInts (ltr F (stN s x)) (ltr F (stN s x)) hll hll
   simp (contextual := true) (maxSteps := 1000000) (disch := omega) only [↓Sd, ↓So, ↓Sk, ↓den, ↓denA, Sa, Sb, Sc, Se, O1.d, O2.d, O3.d, cmI, arI, envOf, putN, ↓reduceIte, Nat.reduceLT, Nat.reduceSub, Nat.reduceAdd, Int.reduceAdd, Int.reduceEq, Int.reduceLT, Int.reduceLE, arr_pos, arr_neg, hye, hqi, hyx, hgi, hyk, C_impl_StateAt s q hs hp.1.1 hq, C_impl_StateAt s x hs hp.1.1 hx, C_impl_Follows s (stN s q) (stN s x) hs hp.1.1 hin1 hin2, h3, hn1 k hk, h1, C_impl_LettersOf s F x hs hFS hp.1 hx, hgl k hk, ← h2, hw]
   done
  ·rintro - -
   simp (contextual := true) (maxSteps := 1000000) (disch := omega) only [↓Sd, ↓So, ↓Sk, ↓den, ↓denA, Sa, Sb, Sc, Se, O1.d, O2.d, O3.d, cmI, arI, envOf, putN, ↓reduceIte, Nat.reduceLT, Nat.reduceSub, Nat.reduceAdd, Int.reduceAdd, Int.reduceEq, Int.reduceLT, Int.reduceLE, arr_pos, arr_neg, ]
 ·have e : pNext s F l k = [] := if_neg hk
  rw [e]
  refine mc.lp_step ?_
  simp (contextual := true) (maxSteps := 1000000) (disch := omega) only [↓Sd, ↓So, ↓Sk, ↓den, ↓denA, Sa, Sb, Sc, Se, O1.d, O2.d, O3.d, cmI, arI, envOf, putN, ↓reduceIte, Nat.reduceLT, Nat.reduceSub, Nat.reduceAdd, Int.reduceAdd, Int.reduceEq, Int.reduceLT, Int.reduceLE, arr_pos, arr_neg, ]
  done
end Go.Proofs.YtdcdnfcmllfmlaaGreat
