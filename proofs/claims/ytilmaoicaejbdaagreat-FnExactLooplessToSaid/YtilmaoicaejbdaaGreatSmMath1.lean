/- What the trees come to: plain mathematics; no condition. -/
import Derived.Test.YtilmaoicaejbdaaGreatSmMath0
namespace Go.Proofs.YtilmaoicaejbdaaGreat
open Go Go.Sm Go.Sm.Q
set_option linter.unusedSimpArgs false
set_option linter.unusedVariables false
theorem cmpL_trans : ∀ {l m k : List Int}, cmpL l m < 0 → cmpL m k < 0 → cmpL l k < 0
 | [], [], _, h, _ => by simp [cmpL] at h
 | [], _ :: _, [], _, h => by simp [cmpL] at h
 | [], _ :: _, _ :: _, _, _ => by simp [cmpL]
 | _ :: _, [], _, h, _ => by simp [cmpL] at h
 | _ :: _, _ :: _, [], _, h => by simp [cmpL] at h
 | a :: l, b :: m, c :: k, h1, h2 => by
  simp only [cmpL] at h1 h2 ⊢
  by_cases a1 : a < b
  ·by_cases a2 : b < c
   ·rw [if_pos (by omega)]; omega
   ·by_cases a3 : b > c
    ·rw [if_neg a2, if_pos a3] at h2; omega
    ·rw [if_pos (by omega)]; omega
  ·by_cases a0 : a > b
   ·rw [if_neg a1, if_pos a0] at h1; omega
   ·rw [if_neg a1, if_neg a0] at h1
    by_cases a2 : b < c
    ·rw [if_pos (by omega)]; omega
    ·by_cases a3 : b > c
     ·rw [if_neg a2, if_pos a3] at h2; omega
     ·rw [if_neg a2, if_neg a3] at h2
      rw [if_neg (by omega), if_neg (by omega)]; exact cmpL_trans h1 h2
theorem cmpL_drop {l m : List Int} {i : Nat} (h1 : i < l.length) (h2 : i < m.length) : cmpL (l.drop i) (m.drop i) = if l.getD i 0 < m.getD i 0 then -1 else if l.getD i 0 > m.getD i 0 then 1 else cmpL (l.drop (i + 1)) (m.drop (i + 1)) := by
 rw [drop_cons (d := 0) h1, drop_cons (d := 0) h2]; rfl
def putM (x : List Int) : List (List Int) → List (List Int)
 | [] => [x]
 | y :: l => if y = x then y :: l else if cmpL x y < 0 then x :: y :: l else y :: putM x l
theorem putM_len {x : List Int} : ∀ {l : List (List Int)}, (putM x l).length ≤ l.length + 1
 | [] => by simp [putM]
 | y :: l => by
  simp only [putM]
  split
  ·simp
  ·split
   ·simp
   ·simp only [List.length_cons]; have := @putM_len x l; omega
theorem putM_mem {x z : List Int} : ∀ {l : List (List Int)}, z ∈ putM x l → z = x ∨ z ∈ l
 | [], h => .inl (by simpa [putM] using h)
 | y :: l, h => by
  simp only [putM] at h
  split at h
  ·exact .inr h
  ·split at h
   ·exact List.mem_cons.1 h
   ·rcases List.mem_cons.1 h with rfl | h
    ·exact .inr (List.mem_cons_self ..)
    ·rcases putM_mem h with h | h
     ·exact .inl h
     ·exact .inr (List.mem_cons_of_mem _ h)
def Asc (l : List (List Int)) : Prop := l.Pairwise fun a b => cmpL a b < 0
theorem putM_asc {x : List Int} : ∀ {l : List (List Int)}, Asc l → Asc (putM x l)
 | [], _ => List.pairwise_singleton _ _
 | y :: l, h => by
  have h' := List.pairwise_cons.1 h
  simp only [putM]
  split
  ·exact h
  ·rename_i hne
   split
   ·rename_i hlt
    refine List.pairwise_cons.2 ⟨fun z hz => ?_, h⟩
    rcases List.mem_cons.1 hz with rfl | hz
    ·exact hlt
    ·exact cmpL_trans hlt (h'.1 z hz)
   ·rename_i hge
    refine List.pairwise_cons.2 ⟨fun z hz => ?_, putM_asc h'.2⟩
    rcases putM_mem hz with rfl | hz
    ·have h1 := @cmpL_anti y z
     have h2 : cmpL y z ≠ 0 := fun h => hne (cmpL_eq h)
     omega
    ·exact h'.1 z hz
theorem putM_at {x : List Int} : ∀ {l : List (List Int)} {i : Nat}, i ≤ l.length → (∀ k, k < i → cmpL (l.getD k []) x < 0) → (∀ k, i ≤ k → k < l.length → 0 ≤ cmpL (l.getD k []) x) →
  putM x l = if i < l.length ∧ cmpL (l.getD i []) x = 0 then l else l.take i ++ [x] ++ l.drop i
 | [], i, hi, _, _ => by
  have : i = 0 := by simpa using hi
  subst this
  simp [putM]
 | y :: l, 0, _, _, h2 => by
  have h3 : 0 ≤ cmpL y x := h2 0 (Nat.le_refl _) (by simp)
  simp only [putM]
  by_cases h0 : cmpL y x = 0
  ·rw [if_pos (cmpL_eq h0), if_pos ⟨by simp, h0⟩]
  ·have h4 : ¬ y = x := fun h => h0 (by rw [h, cmpL_self])
   have h5 := @cmpL_anti y x
   rw [if_neg h4, if_pos (by omega), if_neg (fun h => h0 h.2)]
   simp
 | y :: l, i + 1, hi, h1, h2 => by
  have h3 : cmpL y x < 0 := h1 0 (by omega)
  have h4 : ¬ y = x := fun h => by rw [h, cmpL_self] at h3; omega
  have h5 := @cmpL_anti y x
  have ih := putM_at (x := x) (l := l) (i := i) (by simpa using hi) (fun k hk => h1 (k + 1) (by omega)) (fun k h6 h7 => h2 (k + 1) (by omega) (by simpa using h7))
  simp only [putM]
  rw [if_neg h4, if_neg (by omega), ih]
  simp only [List.length_cons, List.getD_cons_succ, Nat.add_lt_add_iff_right]
  split
  ·rfl
  ·simp
theorem C_spec_l2Same (a b : List Int) (ha : a.length ≤ 1048576) (hb : b.length ≤ 1048576) (Q : List AV → Prop) : mc.C f_spec_l2Same [⟨L I, a⟩, ⟨L I, b⟩] Q = Q [⟨B, decide (a = b)⟩] := by
 refine Mc.Ends.c (mc.ends F_spec_l2Same ?_)
 generalize hK : decide (a = b) = K
 simp (contextual := true) (maxSteps := 1000000) (disch := omega) only [↓Sd, ↓So, ↓Sk, ↓den, ↓denA, Sa, Sb, Sc, Se, O1.d, O2.d, O3.d, cmI, arI, envOf, putN, ↓reduceIte, Nat.reduceLT, Nat.reduceSub, Nat.reduceAdd, Int.reduceAdd, Int.reduceEq, Int.reduceLT, Int.reduceLE, arr_pos, arr_neg, tr_spec_l2Same]
 refine ⟨fun g => by rw [← hK, decide_eq_false]; exact fun h => g (by rw [h]), fun g => ?_⟩
 refine lp_all (fun i => [⟨L I, a⟩, ⟨L I, b⟩, ⟨I, (i : Int)⟩]) (fun i => a.getD i 0 = b.getD i 0) a.length _ rfl ?_ ?_
 ·intro i hi
  have hno : ¬ a.getD i 0 = b.getD i 0 → false = K := fun h => by rw [← hK, decide_eq_false]; exact fun h1 => h (by rw [h1])
  simp (contextual := true) (maxSteps := 1000000) (disch := omega) only [↓Sd, ↓So, ↓Sk, ↓den, ↓denA, Sa, Sb, Sc, Se, O1.d, O2.d, O3.d, cmI, arI, envOf, putN, ↓reduceIte, Nat.reduceLT, Nat.reduceSub, Nat.reduceAdd, Int.reduceAdd, Int.reduceEq, Int.reduceLT, Int.reduceLE, arr_pos, arr_neg, ]
  exact hno
 ·intro h
  simp (contextual := true) (maxSteps := 1000000) (disch := omega) only [↓Sd, ↓So, ↓Sk, ↓den, ↓denA, Sa, Sb, Sc, Se, O1.d, O2.d, O3.d, cmI, arI, envOf, putN, ↓reduceIte, Nat.reduceLT, Nat.reduceSub, Nat.reduceAdd, Int.reduceAdd, Int.reduceEq, Int.reduceLT, Int.reduceLE, arr_pos, arr_neg, ]
  rw [← hK, decide_eq_true]
  refine List.ext_getElem (by omega) fun i h1 h2 => ?_
  have := h i h1
  rwa [getD_lt h1, getD_lt h2] at this
theorem C_spec_l2Less (a b : List Int) (ha : a.length ≤ 1048576) (hb : b.length ≤ 1048576) (Q : List AV → Prop) : mc.C f_spec_l2Less [⟨L I, a⟩, ⟨L I, b⟩] Q = Q [⟨B, decide (cmpL a b < 0)⟩] := by
 refine Mc.Ends.c (mc.ends F_spec_l2Less ?_)
 generalize hK : decide (cmpL a b < 0) = K
 simp (contextual := true) (maxSteps := 1000000) (disch := omega) only [↓Sd, ↓So, ↓Sk, ↓den, ↓denA, Sa, Sb, Sc, Se, O1.d, O2.d, O3.d, cmI, arI, envOf, putN, ↓reduceIte, Nat.reduceLT, Nat.reduceSub, Nat.reduceAdd, Int.reduceAdd, Int.reduceEq, Int.reduceLT, Int.reduceLE, arr_pos, arr_neg, tr_spec_l2Less]
 refine mc.wp_join (fun us => us = [⟨L I, a⟩, ⟨L I, b⟩] ∧ K = decide (a.length < b.length)) ?_ ?_
 ·simp (contextual := true) (maxSteps := 1000000) (disch := omega) only [↓Sd, ↓So, ↓Sk, ↓den, ↓denA, Sa, Sb, Sc, Se, O1.d, O2.d, O3.d, cmI, arI, envOf, putN, ↓reduceIte, Nat.reduceLT, Nat.reduceSub, Nat.reduceAdd, Int.reduceAdd, Int.reduceEq, Int.reduceLT, Int.reduceLE, arr_pos, arr_neg, ]
  refine mc.lp_for Unit (fun i _ => [⟨L I, a⟩, ⟨L I, b⟩, ⟨I, (i : Int)⟩]) (fun i _ => i ≤ b.length ∧ cmpL (a.drop i) (b.drop i) = cmpL a b) a.length 0 () _ rfl (Nat.zero_le _) ⟨Nat.zero_le _, rfl⟩ ?_ ?_
  ·rintro i - hi ⟨h1, h2⟩
   simp (contextual := true) (maxSteps := 1000000) (disch := omega) only [↓Sd, ↓So, ↓Sk, ↓den, ↓denA, Sa, Sb, Sc, Se, O1.d, O2.d, O3.d, cmI, arI, envOf, putN, ↓reduceIte, Nat.reduceLT, Nat.reduceSub, Nat.reduceAdd, Int.reduceAdd, Int.reduceEq, Int.reduceLT, Int.reduceLE, arr_pos, arr_neg, ]
   refine ⟨fun h => ?_, fun h => ?_⟩
   ·have h3 : i < b.length := by omega
    rw [cmpL_drop hi h3] at h2
    refine ⟨fun h4 => ?_, fun h4 => ⟨h3, ?_⟩⟩
    ·rw [← hK, ← h2]
     by_cases h5 : a.getD i 0 < b.getD i 0
     ·rw [if_pos h5, decide_eq_true h5]; rfl
     ·rw [if_neg h5, if_pos (by omega), decide_eq_false h5]; rfl
    ·rw [if_neg (by omega), if_neg (by omega)] at h2; exact h2
   ·have h3 : i = b.length := by omega
    subst h3
    rw [List.drop_length, drop_cons (d := 0) hi] at h2
    rw [← hK, ← h2, decide_eq_false (by simp [cmpL]), decide_eq_false (by omega)]
  ·rintro - ⟨h1, h2⟩
   rw [List.drop_length] at h2
   simp (contextual := true) (maxSteps := 1000000) (disch := omega) only [↓Sd, ↓So, ↓Sk, ↓den, ↓denA, Sa, Sb, Sc, Se, O1.d, O2.d, O3.d, cmI, arI, envOf, putN, ↓reduceIte, Nat.reduceLT, Nat.reduceSub, Nat.reduceAdd, Int.reduceAdd, Int.reduceEq, Int.reduceLT, Int.reduceLE, arr_pos, arr_neg, ]
   rw [← hK, ← h2]
   by_cases h3 : a.length < b.length
   ·rw [decide_eq_true h3, drop_cons (d := 0) h3]; rfl
   ·rw [decide_eq_false h3, List.drop_eq_nil_of_le (by omega)]; rfl
 ·rintro _ ⟨rfl, h⟩
  simp (contextual := true) (maxSteps := 1000000) (disch := omega) only [↓Sd, ↓So, ↓Sk, ↓den, ↓denA, Sa, Sb, Sc, Se, O1.d, O2.d, O3.d, cmI, arI, envOf, putN, ↓reduceIte, Nat.reduceLT, Nat.reduceSub, Nat.reduceAdd, Int.reduceAdd, Int.reduceEq, Int.reduceLT, Int.reduceLE, arr_pos, arr_neg, ]
  rw [h]
  exact decide_eq_decide.2 Int.ofNat_lt
theorem C_cmp_isNaN_int (a : Int) (Q : List AV → Prop) : mc.C f_cmp_isNaN_int [⟨I, a⟩] Q = Q [⟨B, false⟩] := by
 refine Mc.Ends.c (mc.ends F_cmp_isNaN_int ?_)
 simp (contextual := true) (maxSteps := 1000000) (disch := omega) only [↓Sd, ↓So, ↓Sk, ↓den, ↓denA, Sa, Sb, Sc, Se, O1.d, O2.d, O3.d, cmI, arI, envOf, putN, ↓reduceIte, Nat.reduceLT, Nat.reduceSub, Nat.reduceAdd, Int.reduceAdd, Int.reduceEq, Int.reduceLT, Int.reduceLE, arr_pos, arr_neg, tr_cmp_isNaN_int]
 simp
theorem C_cmp_Compare_int (a b : Int) (Q : List AV → Prop) : mc.C f_cmp_Compare_int [⟨I, a⟩, ⟨I, b⟩] Q = Q [⟨I, if a < b then -1 else if a > b then 1 else 0⟩] := by
 refine Mc.Ends.c (mc.ends F_cmp_Compare_int ?_)
 generalize hK : (if a < b then -1 else if a > b then 1 else 0 : Int) = K
 simp (contextual := true) (maxSteps := 1000000) (disch := omega) only [↓Sd, ↓So, ↓Sk, ↓den, ↓denA, Sa, Sb, Sc, Se, O1.d, O2.d, O3.d, cmI, arI, envOf, putN, ↓reduceIte, Nat.reduceLT, Nat.reduceSub, Nat.reduceAdd, Int.reduceAdd, Int.reduceEq, Int.reduceLT, Int.reduceLE, arr_pos, arr_neg, tr_cmp_Compare_int, C_cmp_isNaN_int]
 grind
theorem C_slices_Compare (a b : List Int) (ha : a.length ≤ 1048576) (hb : b.length ≤ 1048576) (Q : List AV → Prop) : mc.C f_slices_Compare_Sint_int [⟨L I, a⟩, ⟨L I, b⟩] Q = Q [⟨I, cmpL a b⟩] := by
 refine Mc.Ends.c (mc.ends F_slices_Compare_Sint_int ?_)
 generalize hK : cmpL a b = K
 simp (contextual := true) (maxSteps := 1000000) (disch := omega) only [↓Sd, ↓So, ↓Sk, ↓den, ↓denA, Sa, Sb, Sc, Se, O1.d, O2.d, O3.d, cmI, arI, envOf, putN, ↓reduceIte, Nat.reduceLT, Nat.reduceSub, Nat.reduceAdd, Int.reduceAdd, Int.reduceEq, Int.reduceLT, Int.reduceLE, arr_pos, arr_neg, tr_slices_Compare_Sint_int]
 refine mc.lp_for Unit (fun i _ => [⟨L I, a⟩, ⟨L I, b⟩, ⟨L I, a⟩, ⟨I, (a.length : Int)⟩, ⟨I, (i : Int)⟩]) (fun i _ => i ≤ b.length ∧ cmpL (a.drop i) (b.drop i) = K) a.length 0 () _ rfl (Nat.zero_le _) ⟨Nat.zero_le _, hK⟩ ?_ ?_
 ·rintro i - hi ⟨h1, h2⟩
  simp (contextual := true) (maxSteps := 1000000) (disch := omega) only [↓Sd, ↓So, ↓Sk, ↓den, ↓denA, Sa, Sb, Sc, Se, O1.d, O2.d, O3.d, cmI, arI, envOf, putN, ↓reduceIte, Nat.reduceLT, Nat.reduceSub, Nat.reduceAdd, Int.reduceAdd, Int.reduceEq, Int.reduceLT, Int.reduceLE, arr_pos, arr_neg, C_cmp_Compare_int]
  refine ⟨fun h => ?_, fun h => ?_⟩
  ·have h3 : i = b.length := by omega
   subst h3
   rw [List.drop_length, drop_cons (d := 0) hi] at h2
   rw [← h2]; rfl
  ·have h3 : i < b.length := by omega
   rw [cmpL_drop hi h3] at h2
   refine ⟨fun h4 => ?_, fun h4 => ⟨h3, ?_⟩⟩
   ·rw [← h2]
    by_cases h5 : a.getD i 0 < b.getD i 0
    ·rw [if_pos h5, if_pos h5]
    ·by_cases h6 : a.getD i 0 > b.getD i 0
     ·rw [if_neg h5, if_pos h6, if_neg h5, if_pos h6]
     ·rw [if_neg h5, if_neg h6] at h4; exact absurd rfl h4
   ·by_cases h5 : a.getD i 0 < b.getD i 0
    ·rw [if_pos h5] at h4; omega
    ·by_cases h6 : a.getD i 0 > b.getD i 0
     ·rw [if_neg h5, if_pos h6] at h4; omega
     ·rw [if_neg h5, if_neg h6] at h2; exact h2
 ·rintro - ⟨h1, h2⟩
  rw [List.drop_length] at h2
  simp (contextual := true) (maxSteps := 1000000) (disch := omega) only [↓Sd, ↓So, ↓Sk, ↓den, ↓denA, Sa, Sb, Sc, Se, O1.d, O2.d, O3.d, cmI, arI, envOf, putN, ↓reduceIte, Nat.reduceLT, Nat.reduceSub, Nat.reduceAdd, Int.reduceAdd, Int.reduceEq, Int.reduceLT, Int.reduceLE, arr_pos, arr_neg, ]
  refine ⟨fun h => ?_, fun h => ?_⟩
  ·rw [← h2, drop_cons (d := 0) (by omega)]; rfl
  ·rw [← h2, List.drop_eq_nil_of_le (by omega)]; rfl
theorem C_spec_l2Put (l : List (List Int)) (x : List Int) (hl : l.length ≤ 1048576) (hx : x.length ≤ 1048576) (hs : ∀ y ∈ l, y.length ≤ 1048576) (Q : List AV → Prop) : mc.C f_spec_l2Put [⟨L (L I), l⟩, ⟨L I, x⟩] Q = Q [⟨L (L I), putM x l⟩] := by
 refine Mc.Ends.c (mc.ends F_spec_l2Put ?_)
 generalize hK : putM x l = K
 simp (contextual := true) (maxSteps := 1000000) (disch := omega) only [↓Sd, ↓So, ↓Sk, ↓den, ↓denA, Sa, Sb, Sc, Se, O1.d, O2.d, O3.d, cmI, arI, envOf, putN, ↓reduceIte, Nat.reduceLT, Nat.reduceSub, Nat.reduceAdd, Int.reduceAdd, Int.reduceEq, Int.reduceLT, Int.reduceLE, arr_pos, arr_neg, tr_spec_l2Put]
 refine mc.lp_for (Bool × List (List Int)) (fun i s => [⟨L (L I), l⟩, ⟨L I, x⟩, ⟨B, s.1⟩, ⟨I, (i : Int)⟩, ⟨L (L I), s.2⟩]) (fun i s => s.2.length ≤ i + s.1.toNat ∧ (s.1 = true → s.2 ++ l.drop i = K) ∧ (s.1 = false → s.2 ++ putM x (l.drop i) = K)) l.length 0 (false, []) _ rfl (Nat.zero_le _) ⟨by simp, by simp, fun _ => hK⟩ ?_ ?_
 ·rintro i ⟨d, o⟩ hi ⟨h1, h2, h3⟩
  have hy := hs _ (getD_mem (d := []) hi)
  rw [drop_cons (d := []) hi] at h2 h3
  obtain ⟨y, hg⟩ : ∃ y, l.getD i [] = y := ⟨_, rfl⟩
  rw [hg] at h2 h3 hy
  simp only at h1 h2 h3
  have h4 : (o.length : Int) ≤ 1048577 := by cases d <;> simp at h1 <;> omega
  cases d with
  | true =>
   have h2 := h2 rfl
   simp (contextual := true) (maxSteps := 1000000) (disch := omega) only [↓Sd, ↓So, ↓Sk, ↓den, ↓denA, Sa, Sb, Sc, Se, O1.d, O2.d, O3.d, cmI, arI, envOf, putN, ↓reduceIte, Nat.reduceLT, Nat.reduceSub, Nat.reduceAdd, Int.reduceAdd, Int.reduceEq, Int.reduceLT, Int.reduceLE, arr_pos, arr_neg, ↓wpJoin, hg]
   exact ⟨(true, o ++ [y]), ⟨rfl, rfl⟩, by simp at h1 ⊢; omega, fun _ => by rw [← h2]; simp, fun h => by cases h⟩
  | false =>
   have h3 := h3 rfl
   simp only [putM] at h3
   simp (contextual := true) (maxSteps := 1000000) (disch := omega) only [↓Sd, ↓So, ↓Sk, ↓den, ↓denA, Sa, Sb, Sc, Se, O1.d, O2.d, O3.d, cmI, arI, envOf, putN, ↓reduceIte, Nat.reduceLT, Nat.reduceSub, Nat.reduceAdd, Int.reduceAdd, Int.reduceEq, Int.reduceLT, Int.reduceLE, arr_pos, arr_neg, ↓wpJoin, hg, C_spec_l2Same y x hy hx, C_spec_l2Less x y hx hy]
   refine ⟨fun h => ?_, fun h => ⟨fun h5 => ?_, fun h5 => ?_⟩⟩
   ·rw [if_pos h] at h3
    exact ⟨(true, o ++ [x]), ⟨rfl, rfl⟩, by simp at h1 ⊢; omega, fun _ => by rw [← h3, ← h]; simp, fun h => by cases h⟩
   ·rw [if_neg h, if_pos h5] at h3
    exact ⟨(true, o ++ [x] ++ [y]), ⟨rfl, rfl⟩, by simp at h1 ⊢; omega, fun _ => by rw [← h3]; simp, fun h => by cases h⟩
   ·rw [if_neg h, if_neg h5] at h3
    exact ⟨(false, o ++ [y]), ⟨rfl, rfl⟩, by simp at h1 ⊢; omega, fun h => (nomatch h), fun _ => by rw [← h3]; simp⟩
 ·rintro ⟨d, o⟩ ⟨h1, h2, h3⟩
  simp only [List.drop_length] at h1 h2 h3
  have h4 : (o.length : Int) ≤ 1048577 := by cases d <;> simp at h1 <;> omega
  cases d with
  | true => simp (contextual := true) (maxSteps := 1000000) (disch := omega) only [↓Sd, ↓So, ↓Sk, ↓den, ↓denA, Sa, Sb, Sc, Se, O1.d, O2.d, O3.d, cmI, arI, envOf, putN, ↓reduceIte, Nat.reduceLT, Nat.reduceSub, Nat.reduceAdd, Int.reduceAdd, Int.reduceEq, Int.reduceLT, Int.reduceLE, arr_pos, arr_neg, ↓wpJoin, ]; simpa using h2 rfl
  | false => simp (contextual := true) (maxSteps := 1000000) (disch := omega) only [↓Sd, ↓So, ↓Sk, ↓den, ↓denA, Sa, Sb, Sc, Se, O1.d, O2.d, O3.d, cmI, arI, envOf, putN, ↓reduceIte, Nat.reduceLT, Nat.reduceSub, Nat.reduceAdd, Int.reduceAdd, Int.reduceEq, Int.reduceLT, Int.reduceLE, arr_pos, arr_neg, ↓wpJoin, ]; simpa [putM] using h3 rfl
def nxtN (s : Sy) (st : List Int) : Nat → List (List Int)
 | 0 => []
 | k + 1 => if useM s.1 (s.2.getD k ([], [], [])) st = [] then nxtN s st k else putM (useM s.1 (s.2.getD k ([], [], [])) st) (nxtN s st k)
def nxt (s : Sy) (st : List Int) : List (List Int) := nxtN s st s.2.length
theorem nxtN_len {s : Sy} {st : List Int} : ∀ {k : Nat}, (nxtN s st k).length ≤ k
 | 0 => Nat.le_refl _
 | k + 1 => by
  have := @nxtN_len s st k
  simp only [nxtN]
  split
  ·omega
  ·exact Nat.le_trans putM_len (by omega)
theorem nxtN_asc {s : Sy} {st : List Int} : ∀ {k : Nat}, Asc (nxtN s st k)
 | 0 => List.Pairwise.nil
 | k + 1 => by
  simp only [nxtN]
  split
  ·exact nxtN_asc
  ·exact putM_asc nxtN_asc
theorem nxtN_in {s : Sy} {st : List Int} : ∀ {k : Nat}, ∀ x ∈ nxtN s st k, inR s.1 x
 | 0, x, h => by simp [nxtN] at h
 | k + 1, x, h => by
  simp only [nxtN] at h
  split at h
  ·exact nxtN_in x h
  ·rename_i h1
   rcases putM_mem h with rfl | h
   ·exact useM_in h1
   ·exact nxtN_in x h
theorem C_spec_l2Next (s : Sy) (st : List Int) (h : valid s) (hst : inR s.1 st) (Q : List AV → Prop) : mc.C f_spec_l2Next [⟨L V3, s.1⟩, ⟨L TR, s.2⟩, ⟨L I, st⟩] Q = Q [⟨L (L I), nxt s st⟩] := by
 have h8 := h.2.1
 have h5 := h.1.2
 refine Mc.Ends.c (mc.ends F_spec_l2Next ?_)
 simp (contextual := true) (maxSteps := 1000000) (disch := omega) only [↓Sd, ↓So, ↓Sk, ↓den, ↓denA, Sa, Sb, Sc, Se, O1.d, O2.d, O3.d, cmI, arI, envOf, putN, ↓reduceIte, Nat.reduceLT, Nat.reduceSub, Nat.reduceAdd, Int.reduceAdd, Int.reduceEq, Int.reduceLT, Int.reduceLE, arr_pos, arr_neg, tr_spec_l2Next]
 refine mc.lp_for (List (List Int)) (fun i o => [⟨L I, st⟩, ⟨I, (i : Int)⟩, ⟨L V3, s.1⟩, ⟨L TR, s.2⟩, ⟨L (L I), o⟩]) (fun i o => o = nxtN s st i) s.2.length 0 [] _ rfl (Nat.zero_le _) rfl ?_ ?_
 ·rintro i o hi rfl
  have h1 := @nxtN_len s st i
  have hin : ∀ x ∈ nxtN s st i, x.length ≤ 1048576 := fun x hx => by have := (nxtN_in x hx).1; omega
  have hu : (useM s.1 (s.2.getD i ([], [], [])) st).length ≤ 1048576 := by
   by_cases h0 : useM s.1 (s.2.getD i ([], [], [])) st = []
   ·rw [h0]; simp
   ·have := (useM_in h0).1; omega
  simp (contextual := true) (maxSteps := 1000000) (disch := omega) only [↓Sd, ↓So, ↓Sk, ↓den, ↓denA, Sa, Sb, Sc, Se, O1.d, O2.d, O3.d, cmI, arI, envOf, putN, ↓reduceIte, Nat.reduceLT, Nat.reduceSub, Nat.reduceAdd, Int.reduceAdd, Int.reduceEq, Int.reduceLT, Int.reduceLE, arr_pos, arr_neg, ↓wpJoin, C_spec_l2Use s st i h hst hi, C_spec_l2Put _ _ (Nat.le_trans h1 (by omega)) hu hin]
  simp only [nxtN]
  refine ⟨fun g => ?_, fun g => ?_⟩
  ·rw [if_neg (fun h0 => by rw [h0] at g; simp at g)]
  ·rw [if_pos (List.eq_nil_of_length_eq_zero (by omega))]
 ·rintro o rfl
  simp (contextual := true) (maxSteps := 1000000) (disch := omega) only [↓Sd, ↓So, ↓Sk, ↓den, ↓denA, Sa, Sb, Sc, Se, O1.d, O2.d, O3.d, cmI, arI, envOf, putN, ↓reduceIte, Nat.reduceLT, Nat.reduceSub, Nat.reduceAdd, Int.reduceAdd, Int.reduceEq, Int.reduceLT, Int.reduceLE, arr_pos, arr_neg, ]
  rfl
theorem C_impl_clone_Sint (l : List (List Int)) (hl : l.length ≤ 1048576) (Q : List AV → Prop) : mc.C f_impl_clone_Sint [⟨L (L I), l⟩] Q = Q [⟨L (L I), l⟩] := by
 refine Mc.Ends.c (mc.ends F_impl_clone_Sint ?_)
 simp (contextual := true) (maxSteps := 1000000) (disch := omega) only [↓Sd, ↓So, ↓Sk, ↓den, ↓denA, Sa, Sb, Sc, Se, O1.d, O2.d, O3.d, cmI, arI, envOf, putN, ↓reduceIte, Nat.reduceLT, Nat.reduceSub, Nat.reduceAdd, Int.reduceAdd, Int.reduceEq, Int.reduceLT, Int.reduceLE, arr_pos, arr_neg, tr_impl_clone_Sint, overL_rep]
 intro h
 exact (List.eq_nil_of_length_eq_zero (by omega)).symm
theorem Asc.lt {l : List (List Int)} (h : Asc l) {i j : Nat} (hij : i < j) (hj : j < l.length) : cmpL (l.getD i []) (l.getD j []) < 0 := by
 rw [getD_lt (by omega), getD_lt hj]
 exact List.pairwise_iff_getElem.1 h i j (by omega) hj hij
theorem C_impl_nextStates (s : Sy) (st : List Int) (h : valid s) (hst : inR s.1 st) (Q : List AV → Prop) : mc.C f_impl_nextStates [⟨L V3, s.1⟩, ⟨L TR, s.2⟩, ⟨L I, st⟩] Q = Q [⟨L (L I), nxt s st⟩] := by
 have h8 := h.2.1
 have h5 := h.1.2
 refine Mc.Ends.c (mc.ends F_impl_nextStates ?_)
 simp (contextual := true) (maxSteps := 1000000) (disch := omega) only [↓Sd, ↓So, ↓Sk, ↓den, ↓denA, Sa, Sb, Sc, Se, O1.d, O2.d, O3.d, cmI, arI, envOf, putN, ↓reduceIte, Nat.reduceLT, Nat.reduceSub, Nat.reduceAdd, Int.reduceAdd, Int.reduceEq, Int.reduceLT, Int.reduceLE, arr_pos, arr_neg, tr_impl_nextStates]
 refine mc.lp_for (List (List Int)) (fun i o => [⟨L I, st⟩, ⟨I, (s.2.length : Int)⟩, ⟨I, (i : Int)⟩, ⟨L V3, s.1⟩, ⟨L TR, s.2⟩, ⟨L (L I), o⟩]) (fun i o => o = nxtN s st i) s.2.length 0 [] _ rfl (Nat.zero_le _) rfl ?_ ?_
 ·rintro i o hi rfl
  have h1 := @nxtN_len s st i
  have hin : ∀ x ∈ nxtN s st i, x.length ≤ 1048576 := fun x hx => by have := (nxtN_in x hx).1; omega
  have hasc := @nxtN_asc s st i
  simp (contextual := true) (maxSteps := 1000000) (disch := omega) only [↓Sd, ↓So, ↓Sk, ↓den, ↓denA, Sa, Sb, Sc, Se, O1.d, O2.d, O3.d, cmI, arI, envOf, putN, ↓reduceIte, Nat.reduceLT, Nat.reduceSub, Nat.reduceAdd, Int.reduceAdd, Int.reduceEq, Int.reduceLT, Int.reduceLE, arr_pos, arr_neg, ]
  refine mc.wp_join (fun us => us = [⟨L I, st⟩, ⟨I, (s.2.length : Int)⟩, ⟨I, (i : Int)⟩, ⟨L V3, s.1⟩, ⟨L TR, s.2⟩, ⟨L (L I), nxtN s st (i + 1)⟩]) ?_ ?_
  ·simp (contextual := true) (maxSteps := 1000000) (disch := omega) only [↓Sd, ↓So, ↓Sk, ↓den, ↓denA, Sa, Sb, Sc, Se, O1.d, O2.d, O3.d, cmI, arI, envOf, putN, ↓reduceIte, Nat.reduceLT, Nat.reduceSub, Nat.reduceAdd, Int.reduceAdd, Int.reduceEq, Int.reduceLT, Int.reduceLE, arr_pos, arr_neg, C_impl_use s st i h hst hi]
   simp only [nxtN]
   refine ⟨fun g => ?_, fun g => ?_⟩
   ·rw [if_neg g]
    have hu : (useM s.1 (s.2.getD i ([], [], [])) st).length ≤ 1048576 := by have := (useM_in g).1; omega
    generalize useM s.1 (s.2.getD i ([], [], [])) st = x at *
    generalize nxtN s st i = l at *
    refine mc.wp_join (fun us => ∃ at' : Nat, at' ≤ l.length ∧ (∀ k, k < at' → cmpL (l.getD k []) x < 0) ∧ (∀ k, at' ≤ k → k < l.length → 0 ≤ cmpL (l.getD k []) x) ∧
     us = [⟨L I, st⟩, ⟨I, (at' : Int)⟩, ⟨B, decide (at' < l.length ∧ cmpL (l.getD at' []) x = 0)⟩, ⟨I, (s.2.length : Int)⟩, ⟨I, (i : Int)⟩, ⟨L V3, s.1⟩, ⟨L TR, s.2⟩, ⟨L (L I), l⟩, ⟨L I, x⟩]) ?_ ?_
    ·simp (contextual := true) (maxSteps := 1000000) (disch := omega) only [↓Sd, ↓So, ↓Sk, ↓den, ↓denA, Sa, Sb, Sc, Se, O1.d, O2.d, O3.d, cmI, arI, envOf, putN, ↓reduceIte, Nat.reduceLT, Nat.reduceSub, Nat.reduceAdd, Int.reduceAdd, Int.reduceEq, Int.reduceLT, Int.reduceLE, arr_pos, arr_neg, ]
     refine mc.lp_inv (fun k us => ∃ lo hi : Nat, k = hi - lo ∧ lo ≤ hi ∧ hi ≤ l.length ∧ (∀ k, k < lo → cmpL (l.getD k []) x < 0) ∧ (∀ k, hi ≤ k → k < l.length → 0 ≤ cmpL (l.getD k []) x) ∧
      us = [⟨I, (l.length : Int)⟩, ⟨I, (lo : Int)⟩, ⟨I, (hi : Int)⟩, ⟨L I, st⟩, ⟨I, (s.2.length : Int)⟩, ⟨I, (i : Int)⟩, ⟨L (L I), l⟩, ⟨L I, x⟩, ⟨L V3, s.1⟩, ⟨L TR, s.2⟩]) l.length _ ⟨0, l.length, rfl, Nat.zero_le _, Nat.le_refl _, fun k hk => absurd hk (Nat.not_lt_zero _), fun k h1 h2 => absurd h1 (by omega), rfl⟩ ?_
     rintro k us ⟨lo, hi, rfl, a1, a2, a3, a4, rfl⟩
     obtain ⟨m, hm⟩ : ∃ m : Nat, ((lo : Int) + hi) / 2 = m := ⟨((lo + hi) / 2), by omega⟩
     have hc : ∀ n, n < l.length → ∀ Q, mc.C f_slices_Compare_Sint_int [⟨L I, l.getD n []⟩, ⟨L I, x⟩] Q = Q [⟨I, cmpL (l.getD n []) x⟩] := fun n hn Q => C_slices_Compare _ _ (hin _ (getD_mem hn)) hu Q
     simp (contextual := true) (maxSteps := 1000000) (disch := omega) only [↓Sd, ↓So, ↓Sk, ↓den, ↓denA, Sa, Sb, Sc, Se, O1.d, O2.d, O3.d, cmI, arI, envOf, putN, ↓reduceIte, Nat.reduceLT, Nat.reduceSub, Nat.reduceAdd, Int.reduceAdd, Int.reduceEq, Int.reduceLT, Int.reduceLE, arr_pos, arr_neg, hm]
     refine ⟨fun g1 => ?_, fun g1 => ⟨fun g2 => ?_, fun g2 => ?_⟩⟩
     ·rw [hc m (by omega)]
      simp (contextual := true) (maxSteps := 1000000) (disch := omega) only [↓Sd, ↓So, ↓Sk, ↓den, ↓denA, Sa, Sb, Sc, Se, O1.d, O2.d, O3.d, cmI, arI, envOf, putN, ↓reduceIte, Nat.reduceLT, Nat.reduceSub, Nat.reduceAdd, Int.reduceAdd, Int.reduceEq, Int.reduceLT, Int.reduceLE, arr_pos, arr_neg, hm]
      refine ⟨fun g2 => ⟨hi - (m + 1), by omega, m + 1, hi, rfl, by omega, a2, fun k hk => ?_, a4, rfl, rfl⟩, fun g2 => ⟨m - lo, by omega, lo, m, rfl, by omega, by omega, a3, fun k hk1 hk2 => ?_, rfl, rfl⟩⟩
      ·rcases Nat.lt_succ_iff_lt_or_eq.1 hk with h3 | rfl
       ·exact cmpL_trans (hasc.lt h3 (by omega)) g2
       ·exact g2
      ·rcases Nat.lt_or_eq_of_le hk1 with h3 | rfl
       ·exact Classical.byContradiction fun h4 => g2 (cmpL_trans (hasc.lt h3 hk2) (by omega))
       ·omega
     ·rw [hc lo (by omega)]
      simp (contextual := true) (maxSteps := 1000000) (disch := omega) only [↓Sd, ↓So, ↓Sk, ↓den, ↓denA, Sa, Sb, Sc, Se, O1.d, O2.d, O3.d, cmI, arI, envOf, putN, ↓reduceIte, Nat.reduceLT, Nat.reduceSub, Nat.reduceAdd, Int.reduceAdd, Int.reduceEq, Int.reduceLT, Int.reduceLE, arr_pos, arr_neg, ]
      refine ⟨lo, by omega, a3, fun k hk1 hk2 => a4 k (by omega) hk2, rfl, ?_⟩
      have : lo < l.length := by omega
      simp [this]
      rfl
     ·refine ⟨lo, by omega, a3, fun k hk1 hk2 => a4 k (by omega) hk2, rfl, ?_⟩
      have : ¬ lo < l.length := by omega
      simp [this]
    ·rintro _ ⟨at', b1, b2, b3, rfl⟩
     simp (contextual := true) (maxSteps := 1000000) (disch := omega) only [↓Sd, ↓So, ↓Sk, ↓den, ↓denA, Sa, Sb, Sc, Se, O1.d, O2.d, O3.d, cmI, arI, envOf, putN, ↓reduceIte, Nat.reduceLT, Nat.reduceSub, Nat.reduceAdd, Int.reduceAdd, Int.reduceEq, Int.reduceLT, Int.reduceLE, arr_pos, arr_neg, ]
     rw [putM_at b1 b2 b3]
     refine ⟨fun g1 => by rw [if_neg g1], fun g1 => by rw [if_pos g1]⟩
   ·rw [if_pos (by simpa using g)]
  ·rintro _ rfl
   simp (contextual := true) (maxSteps := 1000000) (disch := omega) only [↓Sd, ↓So, ↓Sk, ↓den, ↓denA, Sa, Sb, Sc, Se, O1.d, O2.d, O3.d, cmI, arI, envOf, putN, ↓reduceIte, Nat.reduceLT, Nat.reduceSub, Nat.reduceAdd, Int.reduceAdd, Int.reduceEq, Int.reduceLT, Int.reduceLE, arr_pos, arr_neg, ]
 ·rintro o rfl
  simp (contextual := true) (maxSteps := 1000000) (disch := omega) only [↓Sd, ↓So, ↓Sk, ↓den, ↓denA, Sa, Sb, Sc, Se, O1.d, O2.d, O3.d, cmI, arI, envOf, putN, ↓reduceIte, Nat.reduceLT, Nat.reduceSub, Nat.reduceAdd, Int.reduceAdd, Int.reduceEq, Int.reduceLT, Int.reduceLE, arr_pos, arr_neg, C_impl_clone_Sint (nxtN s st s.2.length) (Nat.le_trans nxtN_len (by omega))]
  rfl
def fst0 (l : List Vr) : List Int := l.map (·.2.2)
theorem fst0_next {l : List Vr} {i : Nat} (hi : i < l.length) : fst0 (l.take i) ++ [(l.getD i (0, 0, 0)).2.2] = fst0 (l.take (i + 1)) := by
 rw [← take_next (d := (0, 0, 0)) hi]; simp [fst0]
theorem C_spec_FirstState (s : Sy) (hs : FewSy s) (hv : valid s) (Q : List AV → Prop) : mc.C f_spec_FirstState [⟨L V3, s.1⟩, ⟨L TR, s.2⟩] Q = Q [⟨L I, fst0 s.1⟩] := by
 have h := hv.1.2
 refine Mc.Ends.c (mc.ends F_spec_FirstState ?_)
 simp (contextual := true) (maxSteps := 1000000) (disch := omega) only [↓Sd, ↓So, ↓Sk, ↓den, ↓denA, Sa, Sb, Sc, Se, O1.d, O2.d, O3.d, cmI, arI, envOf, putN, ↓reduceIte, Nat.reduceLT, Nat.reduceSub, Nat.reduceAdd, Int.reduceAdd, Int.reduceEq, Int.reduceLT, Int.reduceLE, arr_pos, arr_neg, tr_spec_FirstState]
 refine mc.wp_join (fun us => us = [⟨L I, fst0 s.1⟩]) ?_ (by rintro _ rfl; simp (contextual := true) (maxSteps := 1000000) (disch := omega) only [↓Sd, ↓So, ↓Sk, ↓den, ↓denA, Sa, Sb, Sc, Se, O1.d, O2.d, O3.d, cmI, arI, envOf, putN, ↓reduceIte, Nat.reduceLT, Nat.reduceSub, Nat.reduceAdd, Int.reduceAdd, Int.reduceEq, Int.reduceLT, Int.reduceLE, arr_pos, arr_neg, ])
 simp (contextual := true) (maxSteps := 1000000) (disch := omega) only [↓Sd, ↓So, ↓Sk, ↓den, ↓denA, Sa, Sb, Sc, Se, O1.d, O2.d, O3.d, cmI, arI, envOf, putN, ↓reduceIte, Nat.reduceLT, Nat.reduceSub, Nat.reduceAdd, Int.reduceAdd, Int.reduceEq, Int.reduceLT, Int.reduceLE, arr_pos, arr_neg, ]
 refine mc.lp_for (List Int) (fun i o => [⟨I, (i : Int)⟩, ⟨L V3, s.1⟩, ⟨L TR, s.2⟩, ⟨L I, o⟩]) (fun i o => o = fst0 (s.1.take i)) s.1.length 0 [] _ rfl (Nat.zero_le _) rfl ?_ ?_
 ·rintro i o hi rfl
  have h1 : ((fst0 (s.1.take i)).length : Int) ≤ 5 := by simp [fst0]; omega
  simp (contextual := true) (maxSteps := 1000000) (disch := omega) only [↓Sd, ↓So, ↓Sk, ↓den, ↓denA, Sa, Sb, Sc, Se, O1.d, O2.d, O3.d, cmI, arI, envOf, putN, ↓reduceIte, Nat.reduceLT, Nat.reduceSub, Nat.reduceAdd, Int.reduceAdd, Int.reduceEq, Int.reduceLT, Int.reduceLE, arr_pos, arr_neg, C_spec_SystemValid s hs, hv]
  exact fst0_next hi
 ·rintro o rfl
  simp (contextual := true) (maxSteps := 1000000) (disch := omega) only [↓Sd, ↓So, ↓Sk, ↓den, ↓denA, Sa, Sb, Sc, Se, O1.d, O2.d, O3.d, cmI, arI, envOf, putN, ↓reduceIte, Nat.reduceLT, Nat.reduceSub, Nat.reduceAdd, Int.reduceAdd, Int.reduceEq, Int.reduceLT, Int.reduceLE, arr_pos, arr_neg, ]
  rw [List.take_length]
theorem C_spec_l3Copy (l : List Int) (hl : l.length ≤ 1048576) (Q : List AV → Prop) : mc.C f_spec_l3Copy [⟨L I, l⟩] Q = Q [⟨L I, l⟩] := by
 refine Mc.Ends.c (mc.ends F_spec_l3Copy ?_)
 simp (contextual := true) (maxSteps := 1000000) (disch := omega) only [↓Sd, ↓So, ↓Sk, ↓den, ↓denA, Sa, Sb, Sc, Se, O1.d, O2.d, O3.d, cmI, arI, envOf, putN, ↓reduceIte, Nat.reduceLT, Nat.reduceSub, Nat.reduceAdd, Int.reduceAdd, Int.reduceEq, Int.reduceLT, Int.reduceLE, arr_pos, arr_neg, tr_spec_l3Copy]
 refine mc.lp_for (List Int) (fun i o => [⟨L I, l⟩, ⟨I, (i : Int)⟩, ⟨L I, o⟩]) (fun i o => o = l.take i) l.length 0 [] _ rfl (Nat.zero_le _) rfl ?_ ?_
 ·rintro i o hi rfl
  have h1 : ((l.take i).length : Int) ≤ 1048576 := by rw [List.length_take]; omega
  simp (contextual := true) (maxSteps := 1000000) (disch := omega) only [↓Sd, ↓So, ↓Sk, ↓den, ↓denA, Sa, Sb, Sc, Se, O1.d, O2.d, O3.d, cmI, arI, envOf, putN, ↓reduceIte, Nat.reduceLT, Nat.reduceSub, Nat.reduceAdd, Int.reduceAdd, Int.reduceEq, Int.reduceLT, Int.reduceLE, arr_pos, arr_neg, ]
  exact take_next hi
 ·rintro o rfl
  simp (contextual := true) (maxSteps := 1000000) (disch := omega) only [↓Sd, ↓So, ↓Sk, ↓den, ↓denA, Sa, Sb, Sc, Se, O1.d, O2.d, O3.d, cmI, arI, envOf, putN, ↓reduceIte, Nat.reduceLT, Nat.reduceSub, Nat.reduceAdd, Int.reduceAdd, Int.reduceEq, Int.reduceLT, Int.reduceLE, arr_pos, arr_neg, ]
  rw [List.take_length]
def numN (l : List Vr) (st : List Int) : Nat → Int
 | 0 => 0
 | i + 1 => numN l st i * wd (l.getD i (0, 0, 0)) + st.getD i 0 - (l.getD i (0, 0, 0)).1
def num (l : List Vr) (st : List Int) : Int := numN l st l.length
theorem numN_bd {l : List Vr} {st : List Int} (hv : ∀ v ∈ l, vOk v) (hst : inR l st) : ∀ {i : Nat}, i ≤ l.length → 0 ≤ numN l st i ∧ numN l st i < sz (l.take i)
 | 0, _ => by simp [numN, sz]
 | i + 1, hi => by
  have ih := numN_bd hv hst (i := i) (by omega)
  have h1 := hst.2 i (by omega)
  have h2 := hv _ (getD_mem (d := (0, 0, 0)) (show i < l.length by omega))
  have h3 := wd_ok h2
  rw [sz_next (d := (0, 0, 0)) (by omega)]
  simp only [numN]
  have h4 : 0 ≤ numN l st i * wd (l.getD i (0, 0, 0)) := Int.mul_nonneg ih.1 (by omega)
  have h5 : (numN l st i + 1) * wd (l.getD i (0, 0, 0)) ≤ sz (l.take i) * wd (l.getD i (0, 0, 0)) := Int.mul_le_mul_of_nonneg_right (by omega) (by omega)
  rw [Int.add_mul, Int.one_mul] at h5
  have h6 : wd (l.getD i (0, 0, 0)) = (l.getD i (0, 0, 0)).2.1 - (l.getD i (0, 0, 0)).1 + 1 := rfl
  omega
theorem num_bd {l : List Vr} {st : List Int} (hv : ∀ v ∈ l, vOk v) (hst : inR l st) : 0 ≤ num l st ∧ num l st < sz l := by
 have := numN_bd hv hst (Nat.le_refl l.length)
 rwa [List.take_length] at this
theorem C_spec_l4Number (s : Sy) (st : List Int) (h5 : s.1.length ≤ 5) (hv : ∀ v ∈ s.1, vOk v) (hst : inR s.1 st) (Q : List AV → Prop) : mc.C f_spec_l4Number [⟨L V3, s.1⟩, ⟨L TR, s.2⟩, ⟨L I, st⟩] Q = Q [⟨I, num s.1 st⟩] := by
 have hl := hst.1
 refine Mc.Ends.c (mc.ends F_spec_l4Number ?_)
 simp (contextual := true) (maxSteps := 1000000) (disch := omega) only [↓Sd, ↓So, ↓Sk, ↓den, ↓denA, Sa, Sb, Sc, Se, O1.d, O2.d, O3.d, cmI, arI, envOf, putN, ↓reduceIte, Nat.reduceLT, Nat.reduceSub, Nat.reduceAdd, Int.reduceAdd, Int.reduceEq, Int.reduceLT, Int.reduceLE, arr_pos, arr_neg, tr_spec_l4Number]
 refine mc.lp_for Int (fun i n => [⟨L I, st⟩, ⟨I, n⟩, ⟨I, (i : Int)⟩, ⟨L V3, s.1⟩, ⟨L TR, s.2⟩]) (fun i n => n = numN s.1 st i) st.length 0 0 _ rfl (Nat.zero_le _) rfl ?_ ?_
 ·rintro i n hi rfl
  have h1 := numN_bd hv hst (i := i) (by omega)
  have h2 := sz_get (l := s.1) h5 (show i ≤ s.1.length by omega) fun j hj => hv _ (getD_mem (by omega))
  have h3 := hv _ (getD_mem (d := (0, 0, 0)) (show i < s.1.length by omega))
  have h4 := hst.2 i (by omega)
  have h6 : 0 ≤ numN s.1 st i * wd (s.1.getD i (0, 0, 0)) ∧ numN s.1 st i * wd (s.1.getD i (0, 0, 0)) ≤ 64000000 := by
   have a := wd_ok h3
   refine ⟨Int.mul_nonneg h1.1 (by omega), ?_⟩
   have := Int.mul_le_mul (show numN s.1 st i ≤ 3200000 by omega) a.2 (by omega) (by omega)
   omega
  unfold vOk at h3
  unfold wd at h6
  simp (contextual := true) (maxSteps := 1000000) (disch := omega) only [↓Sd, ↓So, ↓Sk, ↓den, ↓denA, Sa, Sb, Sc, Se, O1.d, O2.d, O3.d, cmI, arI, envOf, putN, ↓reduceIte, Nat.reduceLT, Nat.reduceSub, Nat.reduceAdd, Int.reduceAdd, Int.reduceEq, Int.reduceLT, Int.reduceLE, arr_pos, arr_neg, ]
  rfl
 ·rintro n rfl
  simp (contextual := true) (maxSteps := 1000000) (disch := omega) only [↓Sd, ↓So, ↓Sk, ↓den, ↓denA, Sa, Sb, Sc, Se, O1.d, O2.d, O3.d, cmI, arI, envOf, putN, ↓reduceIte, Nat.reduceLT, Nat.reduceSub, Nat.reduceAdd, Int.reduceAdd, Int.reduceEq, Int.reduceLT, Int.reduceLE, arr_pos, arr_neg, ]
  rw [hl]; rfl
theorem C_impl_number (s : Sy) (st : List Int) (h5 : s.1.length ≤ 5) (hv : ∀ v ∈ s.1, vOk v) (hst : inR s.1 st) (Q : List AV → Prop) : mc.C f_impl_number [⟨L V3, s.1⟩, ⟨L TR, s.2⟩, ⟨L I, st⟩] Q = Q [⟨I, num s.1 st⟩] := by
 have hl := hst.1
 refine Mc.Ends.c (mc.ends F_impl_number ?_)
 simp (contextual := true) (maxSteps := 1000000) (disch := omega) only [↓Sd, ↓So, ↓Sk, ↓den, ↓denA, Sa, Sb, Sc, Se, O1.d, O2.d, O3.d, cmI, arI, envOf, putN, ↓reduceIte, Nat.reduceLT, Nat.reduceSub, Nat.reduceAdd, Int.reduceAdd, Int.reduceEq, Int.reduceLT, Int.reduceLE, arr_pos, arr_neg, tr_impl_number]
 refine mc.lp_for Int (fun i n => [⟨L I, st⟩, ⟨I, n⟩, ⟨L V3, s.1⟩, ⟨I, (s.1.length : Int)⟩, ⟨I, (i : Int)⟩]) (fun i n => n = numN s.1 st i) s.1.length 0 0 _ rfl (Nat.zero_le _) rfl ?_ ?_
 ·rintro i n hi rfl
  have h1 := numN_bd hv hst (i := i) (by omega)
  have h2 := sz_get (l := s.1) h5 (show i ≤ s.1.length by omega) fun j hj => hv _ (getD_mem (by omega))
  have h3 := hv _ (getD_mem (d := (0, 0, 0)) (show i < s.1.length by omega))
  have h4 := hst.2 i (by omega)
  have h6 : 0 ≤ numN s.1 st i * wd (s.1.getD i (0, 0, 0)) ∧ numN s.1 st i * wd (s.1.getD i (0, 0, 0)) ≤ 64000000 := by
   have a := wd_ok h3
   refine ⟨Int.mul_nonneg h1.1 (by omega), ?_⟩
   have := Int.mul_le_mul (show numN s.1 st i ≤ 3200000 by omega) a.2 (by omega) (by omega)
   omega
  unfold vOk at h3
  unfold wd at h6
  simp (contextual := true) (maxSteps := 1000000) (disch := omega) only [↓Sd, ↓So, ↓Sk, ↓den, ↓denA, Sa, Sb, Sc, Se, O1.d, O2.d, O3.d, cmI, arI, envOf, putN, ↓reduceIte, Nat.reduceLT, Nat.reduceSub, Nat.reduceAdd, Int.reduceAdd, Int.reduceEq, Int.reduceLT, Int.reduceLE, arr_pos, arr_neg, ]
  rfl
 ·rintro n rfl
  simp (contextual := true) (maxSteps := 1000000) (disch := omega) only [↓Sd, ↓So, ↓Sk, ↓den, ↓denA, Sa, Sb, Sc, Se, O1.d, O2.d, O3.d, cmI, arI, envOf, putN, ↓reduceIte, Nat.reduceLT, Nat.reduceSub, Nat.reduceAdd, Int.reduceAdd, Int.reduceEq, Int.reduceLT, Int.reduceLE, arr_pos, arr_neg, ]
  rfl
def dg : List Vr → Int → Int × List Int
 | [], n => (n, [])
 | v :: l, n => ((dg l n).1 / wd v, (v.1 + (dg l n).1 % wd v) :: (dg l n).2)
def stAt (l : List Vr) (n : Int) : List Int := (dg l n).2
theorem dg_len : ∀ {l : List Vr} {n : Int}, (dg l n).2.length = l.length
 | [], n => rfl
 | v :: l, n => by simp [dg, dg_len]
theorem dg_bd {l : List Vr} {n : Int} (hv : ∀ v ∈ l, vOk v) (hn : 0 ≤ n ∧ n ≤ 3200000) : 0 ≤ (dg l n).1 ∧ (dg l n).1 ≤ 3200000 := by
 induction l with
 | nil => exact hn
 | cons v l ih =>
  have h := ih fun v hv' => hv v (List.mem_cons_of_mem _ hv')
  have h1 := wd_ok (hv v (List.mem_cons_self ..))
  simp only [dg]
  exact ⟨Int.ediv_nonneg h.1 (by omega), Int.le_trans (Int.ediv_le_self _ h.1) h.2⟩
theorem stAt_in {l : List Vr} {n : Int} (hv : ∀ v ∈ l, vOk v) (hn : 0 ≤ n ∧ n ≤ 3200000) : inR l (stAt l n) := by
 induction l with
 | nil => exact ⟨rfl, fun i hi => absurd hi (Nat.not_lt_zero _)⟩
 | cons v l ih =>
  have h := ih fun v hv' => hv v (List.mem_cons_of_mem _ hv')
  have h1 := hv v (List.mem_cons_self ..)
  have h2 := wd_ok h1
  refine ⟨by simp [stAt, dg_len], fun i hi => ?_⟩
  cases i with
  | succ i => exact h.2 i (by simpa using hi)
  | zero =>
   have a1 := Int.emod_nonneg (dg l n).1 (show wd v ≠ 0 by omega)
   have a2 := Int.emod_lt_of_pos (dg l n).1 (show 0 < wd v by omega)
   have a3 : wd v = v.2.1 - v.1 + 1 := rfl
   simp only [stAt, dg, List.getD_cons_zero]
   omega
theorem set_down {pre D : List Int} {k : Nat} {x : Int} (h : k < pre.length) : (pre.take (k + 1) ++ D).set k x = pre.take k ++ x :: D := by
 rw [← take_next (d := 0) h, List.append_assoc, List.set_append_right _ _ (by rw [List.length_take]; omega)]
 have : k - (pre.take k).length = 0 := by rw [List.length_take]; omega
 rw [this]; rfl
theorem dg_next {l : List Vr} {n : Int} {k : Nat} (h : k < l.length) : dg (l.drop k) n = ((dg (l.drop (k + 1)) n).1 / wd (l.getD k (0, 0, 0)), ((l.getD k (0, 0, 0)).1 + (dg (l.drop (k + 1)) n).1 % wd (l.getD k (0, 0, 0))) :: (dg (l.drop (k + 1)) n).2) := by
 rw [drop_cons (d := (0, 0, 0)) h]; rfl
theorem C_impl_stateAt (s : Sy) (n : Int) (h5 : s.1.length ≤ 5) (hv : ∀ v ∈ s.1, vOk v) (hn : 0 ≤ n ∧ n ≤ 3200000) (Q : List AV → Prop) : mc.C f_impl_stateAt [⟨L V3, s.1⟩, ⟨L TR, s.2⟩, ⟨I, n⟩] Q = Q [⟨L I, stAt s.1 n⟩] := by
 refine Mc.Ends.c (mc.ends F_impl_stateAt ?_)
 simp (contextual := true) (maxSteps := 1000000) (disch := omega) only [↓Sd, ↓So, ↓Sk, ↓den, ↓denA, Sa, Sb, Sc, Se, O1.d, O2.d, O3.d, cmI, arI, envOf, putN, ↓reduceIte, Nat.reduceLT, Nat.reduceSub, Nat.reduceAdd, Int.reduceAdd, Int.reduceEq, Int.reduceLT, Int.reduceLE, arr_pos, arr_neg, tr_impl_stateAt, List.length_replicate]
 refine mc.lp_down (Int × List Int) (fun k x => [⟨I, x.1⟩, ⟨I, (k : Int) - 1⟩, ⟨L V3, s.1⟩, ⟨L TR, s.2⟩, ⟨L I, x.2⟩]) (fun k x => k ≤ s.1.length ∧ x.1 = (dg (s.1.drop k) n).1 ∧ x.2 = (List.replicate s.1.length (0 : Int)).take k ++ (dg (s.1.drop k) n).2) s.1.length (n, List.replicate s.1.length 0) _ rfl ⟨Nat.le_refl _, by simp [dg], by simp [dg]⟩ ?_ ?_
 ·rintro k ⟨m, o⟩ ⟨hk, rfl, rfl⟩
  have hv' : ∀ k, ∀ v ∈ s.1.drop k, vOk v := fun k v hv1 => hv v (List.mem_of_mem_drop hv1)
  have h1 := dg_bd (hv' (k + 1)) hn
  have h2 := dg_bd (hv' k) hn
  have h3 := hv _ (getD_mem (d := (0, 0, 0)) (show k < s.1.length by omega))
  have h4 := wd_ok h3
  have h6 := Int.emod_nonneg (dg (s.1.drop (k + 1)) n).1 (show wd (s.1.getD k (0, 0, 0)) ≠ 0 by omega)
  have h7 := Int.emod_lt_of_pos (dg (s.1.drop (k + 1)) n).1 (show 0 < wd (s.1.getD k (0, 0, 0)) by omega)
  have hlen : ((List.replicate s.1.length (0 : Int)).take (k + 1) ++ (dg (s.1.drop (k + 1)) n).2).length = s.1.length := by simp [dg_len]; omega
  have hset : ∀ x : Int, ((List.replicate s.1.length (0 : Int)).take (k + 1) ++ (dg (s.1.drop (k + 1)) n).2).set k x = (List.replicate s.1.length (0 : Int)).take k ++ x :: (dg (s.1.drop (k + 1)) n).2 := fun x => set_down (by rw [List.length_replicate]; omega)
  have e := dg_next (l := s.1) (n := n) (k := k) (by omega)
  rw [e] at h2 ⊢
  clear e
  generalize dg (s.1.drop (k + 1)) n = D at *
  generalize (List.replicate s.1.length (0 : Int)).take (k + 1) ++ D.2 = O at *
  generalize (List.replicate s.1.length (0 : Int)).take k = P at *
  simp only [wd] at h2 h4 h6 h7 ⊢
  unfold vOk at h3
  simp (contextual := true) (maxSteps := 1000000) (disch := omega) only [↓Sd, ↓So, ↓Sk, ↓den, ↓denA, Sa, Sb, Sc, Se, O1.d, O2.d, O3.d, cmI, arI, envOf, putN, ↓reduceIte, Nat.reduceLT, Nat.reduceSub, Nat.reduceAdd, Int.reduceAdd, Int.reduceEq, Int.reduceLT, Int.reduceLE, arr_pos, arr_neg, hset]
  exact ⟨(_, _), ⟨rfl, rfl⟩, by omega, rfl, rfl⟩
 ·rintro ⟨m, o⟩ ⟨hk, rfl, rfl⟩
  simp (contextual := true) (maxSteps := 1000000) (disch := omega) only [↓Sd, ↓So, ↓Sk, ↓den, ↓denA, Sa, Sb, Sc, Se, O1.d, O2.d, O3.d, cmI, arI, envOf, putN, ↓reduceIte, Nat.reduceLT, Nat.reduceSub, Nat.reduceAdd, Int.reduceAdd, Int.reduceEq, Int.reduceLT, Int.reduceLE, arr_pos, arr_neg, List.take_zero, List.nil_append, List.drop_zero]
  rfl
theorem C_spec_l4State (s : Sy) (n : Int) (hs : FewSy s) (hV : valid s) (hn : 0 ≤ n ∧ n ≤ 3200000) (Q : List AV → Prop) : mc.C f_spec_l4State [⟨L V3, s.1⟩, ⟨L TR, s.2⟩, ⟨I, n⟩] Q = Q [⟨L I, stAt s.1 n⟩] := by
 have h5 := hV.1.2
 have hv := hV.2.2.1
 have hf : (fst0 s.1).length = s.1.length := by simp [fst0]
 refine Mc.Ends.c (mc.ends F_spec_l4State ?_)
 simp (contextual := true) (maxSteps := 1000000) (disch := omega) only [↓Sd, ↓So, ↓Sk, ↓den, ↓denA, Sa, Sb, Sc, Se, O1.d, O2.d, O3.d, cmI, arI, envOf, putN, ↓reduceIte, Nat.reduceLT, Nat.reduceSub, Nat.reduceAdd, Int.reduceAdd, Int.reduceEq, Int.reduceLT, Int.reduceLE, arr_pos, arr_neg, tr_spec_l4State, C_spec_FirstState s hs hV, C_spec_l3Copy (fst0 s.1) (by omega)]
 generalize fst0 s.1 = pre at *
 refine mc.lp_down (Int × List Int) (fun k x => [⟨I, x.1⟩, ⟨I, (k : Int) - 1⟩, ⟨L V3, s.1⟩, ⟨L TR, s.2⟩, ⟨L I, x.2⟩]) (fun k x => k ≤ s.1.length ∧ x.1 = (dg (s.1.drop k) n).1 ∧ x.2 = pre.take k ++ (dg (s.1.drop k) n).2) s.1.length (n, pre) _ rfl ⟨Nat.le_refl _, by simp [dg], by rw [List.drop_length, ← hf, List.take_length]; simp [dg]⟩ ?_ ?_
 ·rintro k ⟨m, o⟩ ⟨hk, rfl, rfl⟩
  have hv' : ∀ k, ∀ v ∈ s.1.drop k, vOk v := fun k v hv1 => hv v (List.mem_of_mem_drop hv1)
  have h1 := dg_bd (hv' (k + 1)) hn
  have h2 := dg_bd (hv' k) hn
  have h3 := hv _ (getD_mem (d := (0, 0, 0)) (show k < s.1.length by omega))
  have h4 := wd_ok h3
  have h6 := Int.emod_nonneg (dg (s.1.drop (k + 1)) n).1 (show wd (s.1.getD k (0, 0, 0)) ≠ 0 by omega)
  have h7 := Int.emod_lt_of_pos (dg (s.1.drop (k + 1)) n).1 (show 0 < wd (s.1.getD k (0, 0, 0)) by omega)
  have hlen : (pre.take (k + 1) ++ (dg (s.1.drop (k + 1)) n).2).length = s.1.length := by simp [dg_len, hf]; omega
  have hset : ∀ x : Int, (pre.take (k + 1) ++ (dg (s.1.drop (k + 1)) n).2).set k x = pre.take k ++ x :: (dg (s.1.drop (k + 1)) n).2 := fun x => set_down (by omega)
  have e := dg_next (l := s.1) (n := n) (k := k) (by omega)
  rw [e] at h2 ⊢
  clear e
  generalize dg (s.1.drop (k + 1)) n = D at *
  generalize pre.take (k + 1) ++ D.2 = O at *
  generalize pre.take k = P at *
  simp only [wd] at h2 h4 h6 h7 ⊢
  unfold vOk at h3
  simp (contextual := true) (maxSteps := 1000000) (disch := omega) only [↓Sd, ↓So, ↓Sk, ↓den, ↓denA, Sa, Sb, Sc, Se, O1.d, O2.d, O3.d, cmI, arI, envOf, putN, ↓reduceIte, Nat.reduceLT, Nat.reduceSub, Nat.reduceAdd, Int.reduceAdd, Int.reduceEq, Int.reduceLT, Int.reduceLE, arr_pos, arr_neg, hset]
  exact ⟨(_, _), ⟨rfl, rfl⟩, by omega, rfl, rfl⟩
 ·rintro ⟨m, o⟩ ⟨hk, rfl, rfl⟩
  simp (contextual := true) (maxSteps := 1000000) (disch := omega) only [↓Sd, ↓So, ↓Sk, ↓den, ↓denA, Sa, Sb, Sc, Se, O1.d, O2.d, O3.d, cmI, arI, envOf, putN, ↓reduceIte, Nat.reduceLT, Nat.reduceSub, Nat.reduceAdd, Int.reduceAdd, Int.reduceEq, Int.reduceLT, Int.reduceLE, arr_pos, arr_neg, List.take_zero, List.nil_append, List.drop_zero]
  rfl
def tab {α : Type} (f : Nat → α) (n : Nat) : List α := (List.range n).map f
theorem tab_len {α : Type} {f : Nat → α} {n : Nat} : (tab f n).length = n := by simp [tab]
theorem tab_next {α : Type} {f : Nat → α} {n : Nat} : tab f n ++ [f n] = tab f (n + 1) := by simp [tab, List.range_succ]
theorem tab_get {α : Type} {f : Nat → α} {n i : Nat} {d : α} (h : i < n) : (tab f n).getD i d = f i := by simp [tab, h]
theorem tab_set {α : Type} {f : Nat → α} {N i : Nat} {z x : α} (h : i < N) (hx : x = f i) : (tab f i ++ List.replicate (N - i) z).set i x = tab f (i + 1) ++ List.replicate (N - (i + 1)) z := by
 have e := set_pad (l := tab f i) (k := N - (i + 1)) (x := x) (z := z)
 rw [tab_len] at e
 rw [sub_split h, e, hx, tab_next]
theorem tab_setr {α : Type} {f : Nat → α} {N i : Nat} {z x y : α} : (tab f i ++ y :: List.replicate N z).set i x = tab f i ++ x :: List.replicate N z := by
 rw [List.set_append_right _ _ (by rw [tab_len]; exact Nat.le_refl _), tab_len, Nat.sub_self]; rfl
theorem tab_getr {α : Type} {f : Nat → α} {i : Nat} {d y : α} {r : List α} : (tab f i ++ y :: r).getD i d = y := by
 rw [List.getD_eq_getElem?_getD, List.getElem?_append_right (by rw [tab_len]; exact Nat.le_refl _), tab_len, Nat.sub_self]; rfl
def szn (l : List Vr) : Nat := (sz l).toNat
theorem szn_eq {s : Sy} (h : valid s) : ((szn s.1 : Nat) : Int) = sz s.1 ∧ 1 ≤ szn s.1 ∧ szn s.1 ≤ 400 := by
 have h1 := sz_pos s.1 h.2.2.1 s.1.length (Nat.le_refl _)
 rw [List.take_length] at h1
 have h2 := h.2.2.2.2
 unfold szn
 omega
def stN (s : Sy) (n : Nat) : List Int := stAt s.1 n
theorem stN_in {s : Sy} (h : valid s) {n : Nat} (hn : n < szn s.1) : inR s.1 (stN s n) := stAt_in h.2.2.1 (by have := szn_eq h; omega)
def stepR (s : Sy) (n : Nat) : List Int := (nxt s (stN s n)).map (num s.1)
def steps (s : Sy) : List (List Int) := tab (stepR s) (szn s.1)
theorem nxt_len {s : Sy} {st : List Int} (h : valid s) : (nxt s st).length ≤ 8 := Nat.le_trans nxtN_len h.2.1
theorem nxt_in {s : Sy} {st : List Int} : ∀ x ∈ nxt s st, inR s.1 x := nxtN_in
theorem map_next {α β : Type} {l : List α} {g : α → β} {j : Nat} {d : α} (h : j < l.length) : (l.take j).map g ++ [g (l.getD j d)] = (l.take (j + 1)).map g := by
 rw [← take_next (d := d) h]; simp
theorem C_spec_l4Steps (s : Sy) (hs : FewSy s) (h : valid s) (Q : List AV → Prop) : mc.C f_spec_l4Steps [⟨L V3, s.1⟩, ⟨L TR, s.2⟩] Q = Q [⟨L (L I), steps s⟩] := by
 have hz := szn_eq h
 have h5 := h.1.2
 have hv := h.2.2.1
 refine Mc.Ends.c (mc.ends F_spec_l4Steps ?_)
 simp (contextual := true) (maxSteps := 1000000) (disch := omega) only [↓Sd, ↓So, ↓Sk, ↓den, ↓denA, Sa, Sb, Sc, Se, O1.d, O2.d, O3.d, cmI, arI, envOf, putN, ↓reduceIte, Nat.reduceLT, Nat.reduceSub, Nat.reduceAdd, Int.reduceAdd, Int.reduceEq, Int.reduceLT, Int.reduceLE, arr_pos, arr_neg, tr_spec_l4Steps]
 refine mc.lp_for (List (List Int)) (fun i o => [⟨I, (i : Int)⟩, ⟨L V3, s.1⟩, ⟨L TR, s.2⟩, ⟨L (L I), o⟩]) (fun i o => o = tab (stepR s) i) (szn s.1) 0 [] _ rfl (Nat.zero_le _) rfl ?_ ?_
 ·rintro i o hi rfl
  have hin := stN_in h hi
  have hst : stAt s.1 (i : Int) = stN s i := rfl
  have hl := @nxt_len s (stN s i) h
  have htl : (tab (stepR s) i).length = i := tab_len
  simp (contextual := true) (maxSteps := 1000000) (disch := omega) only [↓Sd, ↓So, ↓Sk, ↓den, ↓denA, Sa, Sb, Sc, Se, O1.d, O2.d, O3.d, cmI, arI, envOf, putN, ↓reduceIte, Nat.reduceLT, Nat.reduceSub, Nat.reduceAdd, Int.reduceAdd, Int.reduceEq, Int.reduceLT, Int.reduceLE, arr_pos, arr_neg, C_spec_SizeOf s hs, h, C_spec_l4State s i hs h (by omega), hst, C_spec_l2Next s (stN s i) h hin]
  refine mc.lp_for (List Int) (fun j o => [⟨I, (i : Int)⟩, ⟨I, (j : Int)⟩, ⟨L V3, s.1⟩, ⟨L TR, s.2⟩, ⟨L (L I), tab (stepR s) i⟩, ⟨L (L I), nxt s (stN s i)⟩, ⟨L I, o⟩]) (fun j o => o = ((nxt s (stN s i)).take j).map (num s.1)) (nxt s (stN s i)).length 0 [] _ rfl (Nat.zero_le _) rfl ?_ ?_
  ·rintro j o hj rfl
   have hx := nxt_in _ (getD_mem (d := []) hj)
   have hol : (((nxt s (stN s i)).take j).map (num s.1)).length ≤ 8 := by simp; omega
   simp (contextual := true) (maxSteps := 1000000) (disch := omega) only [↓Sd, ↓So, ↓Sk, ↓den, ↓denA, Sa, Sb, Sc, Se, O1.d, O2.d, O3.d, cmI, arI, envOf, putN, ↓reduceIte, Nat.reduceLT, Nat.reduceSub, Nat.reduceAdd, Int.reduceAdd, Int.reduceEq, Int.reduceLT, Int.reduceLE, arr_pos, arr_neg, C_spec_l4Number s _ h5 hv hx]
   exact map_next hj
  ·rintro o rfl
   rw [List.take_length]
   simp (contextual := true) (maxSteps := 1000000) (disch := omega) only [↓Sd, ↓So, ↓Sk, ↓den, ↓denA, Sa, Sb, Sc, Se, O1.d, O2.d, O3.d, cmI, arI, envOf, putN, ↓reduceIte, Nat.reduceLT, Nat.reduceSub, Nat.reduceAdd, Int.reduceAdd, Int.reduceEq, Int.reduceLT, Int.reduceLE, arr_pos, arr_neg, ]
   exact tab_next
 ·rintro o rfl
  simp (contextual := true) (maxSteps := 1000000) (disch := omega) only [↓Sd, ↓So, ↓Sk, ↓den, ↓denA, Sa, Sb, Sc, Se, O1.d, O2.d, O3.d, cmI, arI, envOf, putN, ↓reduceIte, Nat.reduceLT, Nat.reduceSub, Nat.reduceAdd, Int.reduceAdd, Int.reduceEq, Int.reduceLT, Int.reduceLE, arr_pos, arr_neg, C_spec_SizeOf s hs, h]
  rfl
theorem C_impl_nexts (s : Sy) (h : valid s) (Q : List AV → Prop) : mc.C f_impl_nexts [⟨L V3, s.1⟩, ⟨L TR, s.2⟩] Q = Q [⟨L (L I), steps s⟩] := by
 have hz := szn_eq h
 have h5 := h.1.2
 have hv := h.2.2.1
 refine Mc.Ends.c (mc.ends F_impl_nexts ?_)
 simp (contextual := true) (maxSteps := 1000000) (disch := omega) only [↓Sd, ↓So, ↓Sk, ↓den, ↓denA, Sa, Sb, Sc, Se, O1.d, O2.d, O3.d, cmI, arI, envOf, putN, ↓reduceIte, Nat.reduceLT, Nat.reduceSub, Nat.reduceAdd, Int.reduceAdd, Int.reduceEq, Int.reduceLT, Int.reduceLE, arr_pos, arr_neg, tr_impl_nexts, C_impl_size s.1 h5 hv, ← hz.1, List.length_replicate]
 refine mc.lp_for (List (List Int)) (fun i o => [⟨I, (szn s.1 : Int)⟩, ⟨I, (i : Int)⟩, ⟨L V3, s.1⟩, ⟨L TR, s.2⟩, ⟨L (L I), o⟩]) (fun i o => o = tab (stepR s) i ++ List.replicate (szn s.1 - i) []) (szn s.1) 0 (List.replicate (szn s.1) []) _ rfl (Nat.zero_le _) rfl ?_ ?_
 ·rintro i o hi rfl
  have hin := stN_in h hi
  have hst : stAt s.1 (i : Int) = stN s i := rfl
  have hl := @nxt_len s (stN s i) h
  simp (contextual := true) (maxSteps := 1000000) (disch := omega) only [↓Sd, ↓So, ↓Sk, ↓den, ↓denA, Sa, Sb, Sc, Se, O1.d, O2.d, O3.d, cmI, arI, envOf, putN, ↓reduceIte, Nat.reduceLT, Nat.reduceSub, Nat.reduceAdd, Int.reduceAdd, Int.reduceEq, Int.reduceLT, Int.reduceLE, arr_pos, arr_neg, C_impl_stateAt s i h5 hv (by omega), hst, C_impl_nextStates s (stN s i) h hin]
  rw [sub_split hi, List.replicate_succ]
  refine mc.lp_for (List Int) (fun j o => [⟨I, (i : Int)⟩, ⟨I, (szn s.1 : Int)⟩, ⟨I, (i : Int)⟩, ⟨I, ((nxt s (stN s i)).length : Int)⟩, ⟨I, (j : Int)⟩, ⟨L V3, s.1⟩, ⟨L TR, s.2⟩, ⟨L (L I), tab (stepR s) i ++ o :: List.replicate (szn s.1 - (i + 1)) []⟩, ⟨L (L I), nxt s (stN s i)⟩]) (fun j o => o = ((nxt s (stN s i)).take j).map (num s.1)) (nxt s (stN s i)).length 0 [] _ rfl (Nat.zero_le _) rfl ?_ ?_
  ·rintro j o hj rfl
   have hx := nxt_in _ (getD_mem (d := []) hj)
   have hol : (((nxt s (stN s i)).take j).map (num s.1)).length ≤ 8 := by simp; omega
   have hlen : (tab (stepR s) i ++ ((nxt s (stN s i)).take j).map (num s.1) :: List.replicate (szn s.1 - (i + 1)) []).length = szn s.1 := by simp [tab_len]; omega
   simp (contextual := true) (maxSteps := 1000000) (disch := omega) only [↓Sd, ↓So, ↓Sk, ↓den, ↓denA, Sa, Sb, Sc, Se, O1.d, O2.d, O3.d, cmI, arI, envOf, putN, ↓reduceIte, Nat.reduceLT, Nat.reduceSub, Nat.reduceAdd, Int.reduceAdd, Int.reduceEq, Int.reduceLT, Int.reduceLE, arr_pos, arr_neg, C_impl_number s _ h5 hv hx, tab_getr, tab_setr, tab_len, List.length_replicate]
   exact ⟨_, rfl, map_next hj⟩
  ·rintro o rfl
   rw [List.take_length]
   simp (contextual := true) (maxSteps := 1000000) (disch := omega) only [↓Sd, ↓So, ↓Sk, ↓den, ↓denA, Sa, Sb, Sc, Se, O1.d, O2.d, O3.d, cmI, arI, envOf, putN, ↓reduceIte, Nat.reduceLT, Nat.reduceSub, Nat.reduceAdd, Int.reduceAdd, Int.reduceEq, Int.reduceLT, Int.reduceLE, arr_pos, arr_neg, ]
   rw [← tab_next, List.append_assoc]; rfl
 ·rintro o rfl
  simp (contextual := true) (maxSteps := 1000000) (disch := omega) only [↓Sd, ↓So, ↓Sk, ↓den, ↓denA, Sa, Sb, Sc, Se, O1.d, O2.d, O3.d, cmI, arI, envOf, putN, ↓reduceIte, Nat.reduceLT, Nat.reduceSub, Nat.reduceAdd, Int.reduceAdd, Int.reduceEq, Int.reduceLT, Int.reduceLE, arr_pos, arr_neg, ]
  simp [steps]
def holdsN (s : Sy) (l : List Tm) (n : Nat) : Bool := evl l (stN s n) == 1
theorem C_impl_where (s : Sy) (l : List Tm) (h : valid s) (hl : kf l s.1.length ≠ 0) (Q : List AV → Prop) : mc.C f_impl_where [⟨L V3, s.1⟩, ⟨L TR, s.2⟩, ⟨L T4, l⟩] Q = Q [⟨L B, tab (holdsN s l) (szn s.1)⟩] := by
 have hz := szn_eq h
 have h5 := h.1.2
 have hv := h.2.2.1
 refine Mc.Ends.c (mc.ends F_impl_where ?_)
 simp (contextual := true) (maxSteps := 1000000) (disch := omega) only [↓Sd, ↓So, ↓Sk, ↓den, ↓denA, Sa, Sb, Sc, Se, O1.d, O2.d, O3.d, cmI, arI, envOf, putN, ↓reduceIte, Nat.reduceLT, Nat.reduceSub, Nat.reduceAdd, Int.reduceAdd, Int.reduceEq, Int.reduceLT, Int.reduceLE, arr_pos, arr_neg, tr_impl_where, C_impl_size s.1 h5 hv, ← hz.1, List.length_replicate]
 refine mc.lp_for (List Bool) (fun i o => [⟨L T4, l⟩, ⟨I, (szn s.1 : Int)⟩, ⟨I, (i : Int)⟩, ⟨L V3, s.1⟩, ⟨L TR, s.2⟩, ⟨L B, o⟩]) (fun i o => o = tab (holdsN s l) i ++ List.replicate (szn s.1 - i) false) (szn s.1) 0 (List.replicate (szn s.1) false) _ rfl (Nat.zero_le _) rfl ?_ ?_
 ·rintro i o hi rfl
  have hin := stN_in h hi
  have hst : stAt s.1 (i : Int) = stN s i := rfl
  simp (contextual := true) (maxSteps := 1000000) (disch := omega) only [↓Sd, ↓So, ↓Sk, ↓den, ↓denA, Sa, Sb, Sc, Se, O1.d, O2.d, O3.d, cmI, arI, envOf, putN, ↓reduceIte, Nat.reduceLT, Nat.reduceSub, Nat.reduceAdd, Int.reduceAdd, Int.reduceEq, Int.reduceLT, Int.reduceLE, arr_pos, arr_neg, C_impl_stateAt s i h5 hv (by omega), hst, C_impl_eval l (stN s i) s.1.length hl (hin.bds hv) (by rw [hin.1]), tab_len, List.length_replicate]
  exact tab_set hi rfl
 ·rintro o rfl
  simp (contextual := true) (maxSteps := 1000000) (disch := omega) only [↓Sd, ↓So, ↓Sk, ↓den, ↓denA, Sa, Sb, Sc, Se, O1.d, O2.d, O3.d, cmI, arI, envOf, putN, ↓reduceIte, Nat.reduceLT, Nat.reduceSub, Nat.reduceAdd, Int.reduceAdd, Int.reduceEq, Int.reduceLT, Int.reduceLE, arr_pos, arr_neg, ]
  simp
def upTo (p : Nat → Bool) : Nat → List Int
 | 0 => []
 | n + 1 => if p n = true then upTo p n ++ [(n : Int)] else upTo p n
theorem upTo_s {p : Nat → Bool} {n : Nat} (h : p n = true) : upTo p (n + 1) = upTo p n ++ [(n : Int)] := by rw [upTo, if_pos h]
theorem upTo_n {p : Nat → Bool} {n : Nat} (h : ¬ p n = true) : upTo p (n + 1) = upTo p n := by rw [upTo, if_neg h]
theorem upTo_len {p : Nat → Bool} : ∀ {n : Nat}, (upTo p n).length ≤ n
 | 0 => Nat.le_refl _
 | n + 1 => by
  have := @upTo_len p n
  simp only [upTo]
  split
  ·simp; omega
  ·omega
theorem upTo_mem {p : Nat → Bool} {x : Int} : ∀ {n : Nat}, x ∈ upTo p n ↔ ∃ k, k < n ∧ x = (k : Int) ∧ p k = true
 | 0 => by simp [upTo]
 | n + 1 => by
  have ih := @upTo_mem p x n
  simp only [upTo]
  constructor
  ·intro h
   split at h
   ·rename_i hp
    rcases List.mem_append.1 h with h | h
    ·obtain ⟨k, h1, h2⟩ := ih.1 h; exact ⟨k, by omega, h2⟩
    ·exact ⟨n, by omega, by simpa using h, hp⟩
   ·obtain ⟨k, h1, h2⟩ := ih.1 h; exact ⟨k, by omega, h2⟩
  ·rintro ⟨k, h1, h2, h3⟩
   rcases Nat.lt_succ_iff_lt_or_eq.1 h1 with h4 | rfl
   ·have h5 := ih.2 ⟨k, h4, h2, h3⟩
    split
    ·exact List.mem_append_left _ h5
    ·exact h5
   ·rw [if_pos h3, h2]; simp
theorem C_spec_StatesWhere (s : Sy) (l : List Tm) (hs : FewSy s) (hf : Few l) (h : valid s) (hl : kf l s.1.length = 2) (Q : List AV → Prop) : mc.C f_spec_StatesWhere [⟨L V3, s.1⟩, ⟨L TR, s.2⟩, ⟨L T4, l⟩] Q = Q [⟨L I, upTo (holdsN s l) (szn s.1)⟩] := by
 have hz := szn_eq h
 have h5 := h.1.2
 have hv := h.2.2.1
 refine Mc.Ends.c (mc.ends F_spec_StatesWhere ?_)
 simp (contextual := true) (maxSteps := 1000000) (disch := omega) only [↓Sd, ↓So, ↓Sk, ↓den, ↓denA, Sa, Sb, Sc, Se, O1.d, O2.d, O3.d, cmI, arI, envOf, putN, ↓reduceIte, Nat.reduceLT, Nat.reduceSub, Nat.reduceAdd, Int.reduceAdd, Int.reduceEq, Int.reduceLT, Int.reduceLE, arr_pos, arr_neg, tr_spec_StatesWhere, C_spec_SystemValid s hs, h, C_spec_l2Is l s.1.length 2 hf (by omega), hl]
 refine mc.lp_for (List Int) (fun i o => [⟨L T4, l⟩, ⟨I, (i : Int)⟩, ⟨L V3, s.1⟩, ⟨L TR, s.2⟩, ⟨L I, o⟩]) (fun i o => o = upTo (holdsN s l) i) (szn s.1) 0 [] _ rfl (Nat.zero_le _) rfl ?_ ?_
 ·rintro i o hi rfl
  have hin := stN_in h hi
  have hst : stAt s.1 (i : Int) = stN s i := rfl
  have hlen := @upTo_len (holdsN s l) i
  simp (contextual := true) (maxSteps := 1000000) (disch := omega) only [↓Sd, ↓So, ↓Sk, ↓den, ↓denA, Sa, Sb, Sc, Se, O1.d, O2.d, O3.d, cmI, arI, envOf, putN, ↓reduceIte, Nat.reduceLT, Nat.reduceSub, Nat.reduceAdd, Int.reduceAdd, Int.reduceEq, Int.reduceLT, Int.reduceLE, arr_pos, arr_neg, ↓wpJoin, C_spec_SizeOf s hs, h, C_spec_l4State s i hs h (by omega), hst, C_spec_l2Last l (stN s i) s.1.length (by omega) (hin.bds hv) (by rw [hin.1])]
  exact ⟨fun g => (upTo_s (by rw [holdsN, g]; rfl)).symm, fun g => (upTo_n (by simpa [holdsN] using g)).symm⟩
 ·rintro o rfl
  simp (contextual := true) (maxSteps := 1000000) (disch := omega) only [↓Sd, ↓So, ↓Sk, ↓den, ↓denA, Sa, Sb, Sc, Se, O1.d, O2.d, O3.d, cmI, arI, envOf, putN, ↓reduceIte, Nat.reduceLT, Nat.reduceSub, Nat.reduceAdd, Int.reduceAdd, Int.reduceEq, Int.reduceLT, Int.reduceLE, arr_pos, arr_neg, C_spec_SizeOf s hs, h]
noncomputable def dB (p : Prop) : Bool := @decide p (Classical.propDecidable p)
theorem dB_iff {p : Prop} : dB p = true ↔ p := @decide_eq_true_iff p (Classical.propDecidable p)
theorem dB_t {p : Prop} (h : p) : dB p = true := dB_iff.2 h
theorem dB_f {p : Prop} (h : ¬ p) : dB p = false := by cases h1 : dB p with | false => rfl | true => exact absurd (dB_iff.1 h1) h
theorem dB_congr {p q : Prop} (h : p ↔ q) : dB p = dB q := by rw [propext h]
theorem dB_eq {p : Prop} [Decidable p] : dB p = decide p := by by_cases h : p <;> simp [h, dB]
theorem tab_congr {α : Type} {f g : Nat → α} {n : Nat} (h : ∀ k, k < n → f k = g k) : tab f n = tab g n := by
 unfold tab
 exact List.map_congr_left fun k hk => h k (List.mem_range.1 hk)
theorem tab_set' {α : Type} {f : Nat → α} {n j : Nat} {x : α} : (tab f n).set j x = tab (fun k => if k = j then x else f k) n := by
 apply List.ext_getElem
 ·simp [tab]
 ·intro i h1 h2
  simp only [tab, List.length_set, List.length_map, List.length_range] at h1 h2
  rw [List.getElem_set]
  simp only [tab, List.getElem_map, List.getElem_range]
  by_cases h : j = i
  ·rw [if_pos h, if_pos h.symm]
  ·rw [if_neg h, if_neg (fun e => h e.symm)]
theorem rep_tab {α : Type} {z : α} {n : Nat} : List.replicate n z = tab (fun _ => z) n := by
 apply List.ext_getElem <;> simp [tab]
theorem mem_take_next {l : List Int} {i : Nat} {x : Int} (h : i < l.length) : x ∈ l.take (i + 1) ↔ x ∈ l.take i ∨ x = l.getD i 0 := by
 rw [← take_next (d := 0) h]; simp
theorem C_spec_l4Marks (l : List Int) (n : Nat) (hn : n ≤ 1048576) (hl : l.length ≤ 1048576) (h : ∀ x ∈ l, 0 ≤ x ∧ x < n) (Q : List AV → Prop) : mc.C f_spec_l4Marks [⟨L I, l⟩, ⟨I, (n : Int)⟩] Q = Q [⟨L B, tab (fun k => dB ((k : Int) ∈ l)) n⟩] := by
 refine Mc.Ends.c (mc.ends F_spec_l4Marks ?_)
 simp (contextual := true) (maxSteps := 1000000) (disch := omega) only [↓Sd, ↓So, ↓Sk, ↓den, ↓denA, Sa, Sb, Sc, Se, O1.d, O2.d, O3.d, cmI, arI, envOf, putN, ↓reduceIte, Nat.reduceLT, Nat.reduceSub, Nat.reduceAdd, Int.reduceAdd, Int.reduceEq, Int.reduceLT, Int.reduceLE, arr_pos, arr_neg, tr_spec_l4Marks]
 refine mc.lp_for (List Bool) (fun i o => [⟨L I, l⟩, ⟨I, (i : Int)⟩, ⟨L B, o⟩]) (fun i o => o = tab (fun k => dB ((k : Int) ∈ l.take i)) n) l.length 0 (List.replicate n false) _ rfl (Nat.zero_le _) ?_ ?_ ?_
 ·rw [rep_tab]; exact tab_congr fun k _ => (dB_f (by simp)).symm
 ·rintro i o hi rfl
  have hx := h _ (getD_mem (d := 0) hi)
  simp (contextual := true) (maxSteps := 1000000) (disch := omega) only [↓Sd, ↓So, ↓Sk, ↓den, ↓denA, Sa, Sb, Sc, Se, O1.d, O2.d, O3.d, cmI, arI, envOf, putN, ↓reduceIte, Nat.reduceLT, Nat.reduceSub, Nat.reduceAdd, Int.reduceAdd, Int.reduceEq, Int.reduceLT, Int.reduceLE, arr_pos, arr_neg, tab_len, tab_set']
  refine tab_congr fun k hk => ?_
  by_cases hk2 : k = (l.getD i 0).toNat
  ·rw [if_pos hk2, dB_t]; exact (mem_take_next hi).2 (.inr (by omega))
  ·rw [if_neg hk2]; refine dB_congr ?_
   rw [mem_take_next hi]
   exact ⟨.inl, fun h => h.elim id fun h => absurd h (by omega)⟩
 ·rintro o rfl
  rw [List.take_length]
  simp (contextual := true) (maxSteps := 1000000) (disch := omega) only [↓Sd, ↓So, ↓Sk, ↓den, ↓denA, Sa, Sb, Sc, Se, O1.d, O2.d, O3.d, cmI, arI, envOf, putN, ↓reduceIte, Nat.reduceLT, Nat.reduceSub, Nat.reduceAdd, Int.reduceAdd, Int.reduceEq, Int.reduceLT, Int.reduceLE, arr_pos, arr_neg, ]
theorem C_spec_l4Marks_i (l : List Int) (m : Int) (n : Nat) (e : m = n) (hn : n ≤ 1048576) (hl : l.length ≤ 1048576) (h : ∀ x ∈ l, 0 ≤ x ∧ x < n) (Q : List AV → Prop) : mc.C f_spec_l4Marks [⟨L I, l⟩, ⟨I, m⟩] Q = Q [⟨L B, tab (fun k => dB ((k : Int) ∈ l)) n⟩] := e ▸ C_spec_l4Marks l n hn hl h Q
theorem dB_upTo {p : Nat → Bool} {n k : Nat} : dB ((k : Int) ∈ upTo p n) = (decide (k < n) && p k) := by
 by_cases h : k < n ∧ p k = true
 ·rw [dB_t (upTo_mem.2 ⟨k, h.1, rfl, h.2⟩)]; simp [h]
 ·rw [dB_f]
  ·by_cases h1 : k < n
   ·have : p k = false := by cases h2 : p k with | false => rfl | true => exact absurd ⟨h1, h2⟩ h
    simp [this]
   ·simp [h1]
  ·intro h1
   obtain ⟨j, h2, h3, h4⟩ := upTo_mem.1 h1
   have : k = j := by omega
   subst this
   exact h ⟨h2, h4⟩
def Tbl (T : List (List Int)) (n : Nat) : Prop := T.length = n ∧ ∀ r ∈ T, r.length ≤ 1048576 ∧ ∀ x ∈ r, 0 ≤ x ∧ x < n
theorem Tbl.row {T : List (List Int)} {n i : Nat} (h : Tbl T n) : ∀ x ∈ T.getD i [], 0 ≤ x ∧ x < n := by
 intro x hx
 by_cases hi : i < T.length
 ·exact (h.2 _ (getD_mem hi)).2 x hx
 ·rw [List.getD_eq_getElem?_getD, List.getElem?_eq_none (by omega)] at hx
  cases hx
theorem steps_tbl {s : Sy} (h : valid s) : Tbl (steps s) (szn s.1) := by
 have hz := szn_eq h
 refine ⟨tab_len, fun r hr => ?_⟩
 simp only [steps, tab, List.mem_map, List.mem_range] at hr
 obtain ⟨i, hi, rfl⟩ := hr
 refine ⟨by simp only [stepR, List.length_map]; exact Nat.le_trans (nxt_len h) (by omega), fun x hx => ?_⟩
 simp only [stepR, List.mem_map] at hx
 obtain ⟨y, hy, rfl⟩ := hx
 have := num_bd h.2.2.1 (nxt_in y hy)
 omega
theorem C_impl_truthOf (s : Sy) (l : List Tm) (hs : FewSy s) (hf : Few l) (Q : List AV → Prop) : mc.C f_impl_truthOf [⟨L V3, s.1⟩, ⟨L TR, s.2⟩, ⟨L T4, l⟩] Q = Q [⟨B, decide (valid s ∧ kf l s.1.length = 2)⟩] := by
 refine Mc.Ends.c (mc.ends F_impl_truthOf ?_)
 generalize hK : decide (valid s ∧ kf l s.1.length = 2) = K
 simp (contextual := true) (maxSteps := 1000000) (disch := omega) only [↓Sd, ↓So, ↓Sk, ↓den, ↓denA, Sa, Sb, Sc, Se, O1.d, O2.d, O3.d, cmI, arI, envOf, putN, ↓reduceIte, Nat.reduceLT, Nat.reduceSub, Nat.reduceAdd, Int.reduceAdd, Int.reduceEq, Int.reduceLT, Int.reduceLE, arr_pos, arr_neg, tr_impl_truthOf, C_impl_SystemValid s hs, C_impl_kindOf l _ hf] <;> grind
theorem getD_set_eq {α : Type} {l : List α} {i : Nat} {x d : α} (h : i < l.length) : (l.set i x).getD i d = x := by
 simp [List.getD_eq_getElem?_getD, h]
theorem C_spec_l2Has (l : List Int) (x : Int) (hl : l.length ≤ 1048576) (Q : List AV → Prop) : mc.C f_spec_l2Has [⟨L I, l⟩, ⟨I, x⟩] Q = Q [⟨B, dB (x ∈ l)⟩] := by
 refine Mc.Ends.c (mc.ends F_spec_l2Has ?_)
 generalize hK : dB (x ∈ l) = K
 simp (contextual := true) (maxSteps := 1000000) (disch := omega) only [↓Sd, ↓So, ↓Sk, ↓den, ↓denA, Sa, Sb, Sc, Se, O1.d, O2.d, O3.d, cmI, arI, envOf, putN, ↓reduceIte, Nat.reduceLT, Nat.reduceSub, Nat.reduceAdd, Int.reduceAdd, Int.reduceEq, Int.reduceLT, Int.reduceLE, arr_pos, arr_neg, tr_spec_l2Has]
 refine lp_all (fun i => [⟨L I, l⟩, ⟨I, x⟩, ⟨I, (i : Int)⟩]) (fun i => ¬ l.getD i 0 = x) l.length _ rfl ?_ ?_
 ·intro i hi
  simp (contextual := true) (maxSteps := 1000000) (disch := omega) only [↓Sd, ↓So, ↓Sk, ↓den, ↓denA, Sa, Sb, Sc, Se, O1.d, O2.d, O3.d, cmI, arI, envOf, putN, ↓reduceIte, Nat.reduceLT, Nat.reduceSub, Nat.reduceAdd, Int.reduceAdd, Int.reduceEq, Int.reduceLT, Int.reduceLE, arr_pos, arr_neg, ]
  intro h
  rw [← hK, dB_t]
  rw [← h]; exact getD_mem hi
 ·intro h
  simp (contextual := true) (maxSteps := 1000000) (disch := omega) only [↓Sd, ↓So, ↓Sk, ↓den, ↓denA, Sa, Sb, Sc, Se, O1.d, O2.d, O3.d, cmI, arI, envOf, putN, ↓reduceIte, Nat.reduceLT, Nat.reduceSub, Nat.reduceAdd, Int.reduceAdd, Int.reduceEq, Int.reduceLT, Int.reduceLE, arr_pos, arr_neg, ]
  rw [← hK, dB_f]
  intro hx
  obtain ⟨i, hi, rfl⟩ := List.getElem_of_mem hx
  exact h i hi (getD_lt hi)
theorem getD_set_ne {α : Type} {l : List α} {i j : Nat} {x d : α} (h : i ≠ j) : (l.set i x).getD j d = l.getD j d := by
 simp [List.getD_eq_getElem?_getD, List.getElem?_set, h]
def Same {α : Type} (l s : List α) (d : α) (i : Nat) : Prop := s.length = l.length ∧ ∀ j, i ≤ j → s.getD j d = l.getD j d
theorem Same.refl {α : Type} {l : List α} {d : α} {i : Nat} : Same l l d i := ⟨rfl, fun _ _ => rfl⟩
theorem Same.set {α : Type} {l s : List α} {d x : α} {i : Nat} (h : Same l s d i) : Same l (s.set i x) d (i + 1) :=
 ⟨by rw [List.length_set]; exact h.1, fun j hj => by rw [getD_set_ne (by omega)]; exact h.2 j (by omega)⟩
theorem iD {k : IntKind} {a b : Int} (h : a = b) : @Eq (Ty.int k).D a b := h
theorem mk_IntS (l : List Int) (k : Int) (hk : 0 ≤ k ∧ k ≤ 9200000000000000000) (hl : l.length ≤ 1048576) (Q : List AV → Prop) : mc.C f_laws_markIntS [⟨L I, l⟩, ⟨I, k⟩] Q = Q [⟨I, k + l.length⟩, ⟨L I, tab (fun i => k + (i : Int)) l.length⟩] := by
 refine Mc.Ends.c (mc.ends F_laws_markIntS ?_)
 simp (contextual := true) (maxSteps := 1000000) (disch := omega) only [↓Sd, ↓So, ↓Sk, ↓den, ↓denA, Sa, Sb, Sc, Se, O1.d, O2.d, O3.d, cmI, arI, envOf, putN, ↓reduceIte, Nat.reduceLT, Nat.reduceSub, Nat.reduceAdd, Int.reduceAdd, Int.reduceEq, Int.reduceLT, Int.reduceLE, arr_pos, arr_neg, tr_laws_markIntS]
 refine mc.lp_for (List Int) (fun i s => [⟨I, k + (i : Int)⟩, ⟨I, (i : Int)⟩, ⟨L I, s⟩]) (fun i s => s = tab (fun i => k + (i : Int)) i ++ l.drop i) l.length 0 l _ (by simp) (Nat.zero_le _) (by simp [tab]) ?_ ?_
 ·rintro i s hi rfl
  have hlen : (tab (fun i => k + (i : Int)) i).length + (l.drop i).length = l.length := by rw [tab_len, List.length_drop]; omega
  have e : (tab (fun i => k + (i : Int)) i ++ l.drop i).set i (k + i) = tab (fun i => k + (i : Int)) (i + 1) ++ l.drop (i + 1) := by
   rw [List.set_append_right _ _ (by rw [tab_len]; exact Nat.le_refl _), tab_len, Nat.sub_self, drop_cons (d := 0) hi, List.set_cons_zero, ← tab_next, List.append_assoc]; rfl
  simp (contextual := true) (maxSteps := 1000000) (disch := omega) only [↓Sd, ↓So, ↓Sk, ↓den, ↓denA, Sa, Sb, Sc, Se, O1.d, O2.d, O3.d, cmI, arI, envOf, putN, ↓reduceIte, Nat.reduceLT, Nat.reduceSub, Nat.reduceAdd, Int.reduceAdd, Int.reduceEq, Int.reduceLT, Int.reduceLE, arr_pos, arr_neg, e]
  exact ⟨_, ⟨iD (by omega), rfl⟩, rfl⟩
 ·rintro s rfl
  rw [List.drop_length, List.append_nil]
  simp (contextual := true) (maxSteps := 1000000) (disch := omega) only [↓Sd, ↓So, ↓Sk, ↓den, ↓denA, Sa, Sb, Sc, Se, O1.d, O2.d, O3.d, cmI, arI, envOf, putN, ↓reduceIte, Nat.reduceLT, Nat.reduceSub, Nat.reduceAdd, Int.reduceAdd, Int.reduceEq, Int.reduceLT, Int.reduceLE, arr_pos, arr_neg, tab_len]
theorem held_IntS (n : Nat) (k : Int) (hk : 0 ≤ k ∧ k ≤ 9200000000000000000) (hn : n ≤ 1048576) (Q : List AV → Prop) : mc.C f_laws_heldIntS [⟨L I, tab (fun i => k + (i : Int)) n⟩, ⟨I, k⟩] Q = Q [⟨I, k + n⟩] := by
 refine Mc.Ends.c (mc.ends F_laws_heldIntS ?_)
 simp (contextual := true) (maxSteps := 1000000) (disch := omega) only [↓Sd, ↓So, ↓Sk, ↓den, ↓denA, Sa, Sb, Sc, Se, O1.d, O2.d, O3.d, cmI, arI, envOf, putN, ↓reduceIte, Nat.reduceLT, Nat.reduceSub, Nat.reduceAdd, Int.reduceAdd, Int.reduceEq, Int.reduceLT, Int.reduceLE, arr_pos, arr_neg, tr_laws_heldIntS]
 refine mc.lp_for Unit (fun i s => [⟨L I, tab (fun i => k + (i : Int)) n⟩, ⟨I, k + (i : Int)⟩, ⟨I, (i : Int)⟩]) (fun i s => True) n 0 () _ (by simp) (Nat.zero_le _) trivial ?_ ?_
 ·rintro i - hi -
  simp (contextual := true) (maxSteps := 1000000) (disch := omega) only [↓Sd, ↓So, ↓Sk, ↓den, ↓denA, Sa, Sb, Sc, Se, O1.d, O2.d, O3.d, cmI, arI, envOf, putN, ↓reduceIte, Nat.reduceLT, Nat.reduceSub, Nat.reduceAdd, Int.reduceAdd, Int.reduceEq, Int.reduceLT, Int.reduceLE, arr_pos, arr_neg, tab_len, tab_get hi]
  exact iD (by omega)
 ·rintro - -
  simp (contextual := true) (maxSteps := 1000000) (disch := omega) only [↓Sd, ↓So, ↓Sk, ↓den, ↓denA, Sa, Sb, Sc, Se, O1.d, O2.d, O3.d, cmI, arI, envOf, putN, ↓reduceIte, Nat.reduceLT, Nat.reduceSub, Nat.reduceAdd, Int.reduceAdd, Int.reduceEq, Int.reduceLT, Int.reduceLE, arr_pos, arr_neg, tab_len]
theorem mk_VarS (l : List Vr) (k : Int) (hk : 0 ≤ k ∧ k ≤ 9200000000000000000) (hl : Few l) {Q : List AV → Prop} (h : ∀ l', Q [⟨I, k + 3 * l.length⟩, ⟨L V3, l'⟩]) : mc.C f_laws_markVarS [⟨L V3, l⟩, ⟨I, k⟩] Q := by
 have hl := few_lim hl
 refine mc.c_of F_laws_markVarS ?_
 simp (contextual := true) (maxSteps := 1000000) (disch := omega) only [↓Sd, ↓So, ↓Sk, ↓den, ↓denA, Sa, Sb, Sc, Se, O1.d, O2.d, O3.d, cmI, arI, envOf, putN, ↓reduceIte, Nat.reduceLT, Nat.reduceSub, Nat.reduceAdd, Int.reduceAdd, Int.reduceEq, Int.reduceLT, Int.reduceLE, arr_pos, arr_neg, tr_laws_markVarS]
 refine mc.lp_for (List Vr) (fun i s => [⟨I, k + 3 * (i : Int)⟩, ⟨I, (i : Int)⟩, ⟨L V3, s⟩]) (fun i s => s.length = l.length) l.length 0 l _ (by simp) (Nat.zero_le _) rfl ?_ ?_
 ·rintro i s hi hs
  simp (contextual := true) (maxSteps := 1000000) (disch := omega) only [↓Sd, ↓So, ↓Sk, ↓den, ↓denA, Sa, Sb, Sc, Se, O1.d, O2.d, O3.d, cmI, arI, envOf, putN, ↓reduceIte, Nat.reduceLT, Nat.reduceSub, Nat.reduceAdd, Int.reduceAdd, Int.reduceEq, Int.reduceLT, Int.reduceLE, arr_pos, arr_neg, List.length_set, getD_set_eq, List.set_set]
  exact ⟨_, ⟨iD (by omega), rfl⟩, by simp [hs]⟩
 ·rintro s hs
  simp (contextual := true) (maxSteps := 1000000) (disch := omega) only [↓Sd, ↓So, ↓Sk, ↓den, ↓denA, Sa, Sb, Sc, Se, O1.d, O2.d, O3.d, cmI, arI, envOf, putN, ↓reduceIte, Nat.reduceLT, Nat.reduceSub, Nat.reduceAdd, Int.reduceAdd, Int.reduceEq, Int.reduceLT, Int.reduceLE, arr_pos, arr_neg, ]
  exact h s
theorem mk_TermS (l : List Tm) (k : Int) (hk : 0 ≤ k ∧ k ≤ 9200000000000000000) (hl : Few l) {Q : List AV → Prop} (h : ∀ l', Q [⟨I, k + 4 * l.length⟩, ⟨L T4, l'⟩]) : mc.C f_laws_markTermS [⟨L T4, l⟩, ⟨I, k⟩] Q := by
 have hl := few_lim hl
 refine mc.c_of F_laws_markTermS ?_
 simp (contextual := true) (maxSteps := 1000000) (disch := omega) only [↓Sd, ↓So, ↓Sk, ↓den, ↓denA, Sa, Sb, Sc, Se, O1.d, O2.d, O3.d, cmI, arI, envOf, putN, ↓reduceIte, Nat.reduceLT, Nat.reduceSub, Nat.reduceAdd, Int.reduceAdd, Int.reduceEq, Int.reduceLT, Int.reduceLE, arr_pos, arr_neg, tr_laws_markTermS]
 refine mc.lp_for (List Tm) (fun i s => [⟨I, k + 4 * (i : Int)⟩, ⟨I, (i : Int)⟩, ⟨L T4, s⟩]) (fun i s => s.length = l.length) l.length 0 l _ (by simp) (Nat.zero_le _) rfl ?_ ?_
 ·rintro i s hi hs
  simp (contextual := true) (maxSteps := 1000000) (disch := omega) only [↓Sd, ↓So, ↓Sk, ↓den, ↓denA, Sa, Sb, Sc, Se, O1.d, O2.d, O3.d, cmI, arI, envOf, putN, ↓reduceIte, Nat.reduceLT, Nat.reduceSub, Nat.reduceAdd, Int.reduceAdd, Int.reduceEq, Int.reduceLT, Int.reduceLE, arr_pos, arr_neg, List.length_set, getD_set_eq, List.set_set]
  exact ⟨_, ⟨iD (by omega), rfl⟩, by simp [hs]⟩
 ·rintro s hs
  simp (contextual := true) (maxSteps := 1000000) (disch := omega) only [↓Sd, ↓So, ↓Sk, ↓den, ↓denA, Sa, Sb, Sc, Se, O1.d, O2.d, O3.d, cmI, arI, envOf, putN, ↓reduceIte, Nat.reduceLT, Nat.reduceSub, Nat.reduceAdd, Int.reduceAdd, Int.reduceEq, Int.reduceLT, Int.reduceLE, arr_pos, arr_neg, ]
  exact h s
theorem mk_TermSS (l : List (List Tm)) (k : Int) (hk : 0 ≤ k ∧ k ≤ 9100000000000000000) (hl : Few l) (hl2 : ∀ x ∈ l, Few x) {Q : List AV → Prop} (h : ∀ k' l', k ≤ k' ∧ k' ≤ k + 4398046511104 → Q [⟨I, k'⟩, ⟨L (L T4), l'⟩]) : mc.C f_laws_markTermSS [⟨L (L T4), l⟩, ⟨I, k⟩] Q := by
 have hl := few_lim hl
 refine mc.c_of F_laws_markTermSS ?_
 simp (contextual := true) (maxSteps := 1000000) (disch := omega) only [↓Sd, ↓So, ↓Sk, ↓den, ↓denA, Sa, Sb, Sc, Se, O1.d, O2.d, O3.d, cmI, arI, envOf, putN, ↓reduceIte, Nat.reduceLT, Nat.reduceSub, Nat.reduceAdd, Int.reduceAdd, Int.reduceEq, Int.reduceLT, Int.reduceLE, arr_pos, arr_neg, tr_laws_markTermSS]
 refine mc.lp_for (Int × List (List Tm)) (fun i s => [⟨I, s.1⟩, ⟨I, (i : Int)⟩, ⟨L (L T4), s.2⟩]) (fun i s => (k ≤ s.1 ∧ s.1 ≤ k + 4194304 * (i : Int)) ∧ Same l s.2 [] i) l.length 0 (k, l) _ (by simp) (Nat.zero_le _) ⟨⟨by simp, by simp⟩, Same.refl⟩ ?_ ?_
 ·rintro i ⟨m, s⟩ hi ⟨⟨hm1, hm2⟩, hs⟩
  simp only at hm1 hm2 hs
  have hsl := hs.1
  have hsi := hs.2 i (Nat.le_refl _)
  have hf := hl2 _ (getD_mem (d := []) hi)
  have hf' := few_lim hf
  simp (contextual := true) (maxSteps := 1000000) (disch := omega) only [↓Sd, ↓So, ↓Sk, ↓den, ↓denA, Sa, Sb, Sc, Se, O1.d, O2.d, O3.d, cmI, arI, envOf, putN, ↓reduceIte, Nat.reduceLT, Nat.reduceSub, Nat.reduceAdd, Int.reduceAdd, Int.reduceEq, Int.reduceLT, Int.reduceLE, arr_pos, arr_neg, hsi]
  refine mk_TermS _ m (by omega) hf fun l' => ?_
  simp (contextual := true) (maxSteps := 1000000) (disch := omega) only [↓Sd, ↓So, ↓Sk, ↓den, ↓denA, Sa, Sb, Sc, Se, O1.d, O2.d, O3.d, cmI, arI, envOf, putN, ↓reduceIte, Nat.reduceLT, Nat.reduceSub, Nat.reduceAdd, Int.reduceAdd, Int.reduceEq, Int.reduceLT, Int.reduceLE, arr_pos, arr_neg, ]
  exact ⟨(_, _), ⟨rfl, rfl⟩, ⟨by omega, by omega⟩, hs.set⟩
 ·rintro ⟨m, s⟩ ⟨⟨hm1, hm2⟩, hs⟩
  simp only at hm1 hm2 hs
  have hsl := hs.1
  simp (contextual := true) (maxSteps := 1000000) (disch := omega) only [↓Sd, ↓So, ↓Sk, ↓den, ↓denA, Sa, Sb, Sc, Se, O1.d, O2.d, O3.d, cmI, arI, envOf, putN, ↓reduceIte, Nat.reduceLT, Nat.reduceSub, Nat.reduceAdd, Int.reduceAdd, Int.reduceEq, Int.reduceLT, Int.reduceLE, arr_pos, arr_neg, ]
  exact h m s ⟨by omega, by omega⟩
theorem mk_RuleS (l : List Ru) (k : Int) (hk : 0 ≤ k ∧ k ≤ 4400000000000000000) (hl : Few l) (hl2 : ∀ x ∈ l, FewRu x) {Q : List AV → Prop} (h : ∀ k' l', k ≤ k' ∧ k' ≤ k + 4611691515985526784 → Q [⟨I, k'⟩, ⟨L TR, l'⟩]) : mc.C f_laws_markRuleS [⟨L TR, l⟩, ⟨I, k⟩] Q := by
 have hl := few_lim hl
 refine mc.c_of F_laws_markRuleS ?_
 simp (contextual := true) (maxSteps := 1000000) (disch := omega) only [↓Sd, ↓So, ↓Sk, ↓den, ↓denA, Sa, Sb, Sc, Se, O1.d, O2.d, O3.d, cmI, arI, envOf, putN, ↓reduceIte, Nat.reduceLT, Nat.reduceSub, Nat.reduceAdd, Int.reduceAdd, Int.reduceEq, Int.reduceLT, Int.reduceLE, arr_pos, arr_neg, tr_laws_markRuleS]
 refine mc.lp_for (Int × List Ru) (fun i s => [⟨I, s.1⟩, ⟨I, (i : Int)⟩, ⟨L TR, s.2⟩]) (fun i s => (k ≤ s.1 ∧ s.1 ≤ k + 4398051753984 * (i : Int)) ∧ Same l s.2 ([], [], []) i) l.length 0 (k, l) _ (by simp) (Nat.zero_le _) ⟨⟨by simp, by simp⟩, Same.refl⟩ ?_ ?_
 ·rintro i ⟨m, s⟩ hi ⟨⟨hm1, hm2⟩, hs⟩
  simp only at hm1 hm2 hs
  have hsl := hs.1
  have hsi := hs.2 i (Nat.le_refl _)
  obtain ⟨c1, c2, c3, c4⟩ := hl2 _ (getD_mem (d := ([], [], [])) hi)
  have c1' := few_lim c1
  have c2' := few_lim c2
  obtain ⟨r, hr⟩ : ∃ r, l.getD i ([], [], []) = r := ⟨_, rfl⟩
  rw [hr] at hsi c1 c2 c3 c4 c1' c2'
  simp (contextual := true) (maxSteps := 1000000) (disch := omega) only [↓Sd, ↓So, ↓Sk, ↓den, ↓denA, Sa, Sb, Sc, Se, O1.d, O2.d, O3.d, cmI, arI, envOf, putN, ↓reduceIte, Nat.reduceLT, Nat.reduceSub, Nat.reduceAdd, Int.reduceAdd, Int.reduceEq, Int.reduceLT, Int.reduceLE, arr_pos, arr_neg, hsi]
  refine mk_TermS r.1 m (by omega) c1 fun l1 => ?_
  simp (contextual := true) (maxSteps := 1000000) (disch := omega) only [↓Sd, ↓So, ↓Sk, ↓den, ↓denA, Sa, Sb, Sc, Se, O1.d, O2.d, O3.d, cmI, arI, envOf, putN, ↓reduceIte, Nat.reduceLT, Nat.reduceSub, Nat.reduceAdd, Int.reduceAdd, Int.reduceEq, Int.reduceLT, Int.reduceLE, arr_pos, arr_neg, hsi, List.length_set, getD_set_eq, List.set_set, mk_IntS r.2.1 (m + 4 * r.1.length) (by omega) (by omega)]
  refine mk_TermSS r.2.2 _ (by omega) c3 c4 fun k' l' hk' => ?_
  simp (contextual := true) (maxSteps := 1000000) (disch := omega) only [↓Sd, ↓So, ↓Sk, ↓den, ↓denA, Sa, Sb, Sc, Se, O1.d, O2.d, O3.d, cmI, arI, envOf, putN, ↓reduceIte, Nat.reduceLT, Nat.reduceSub, Nat.reduceAdd, Int.reduceAdd, Int.reduceEq, Int.reduceLT, Int.reduceLE, arr_pos, arr_neg, hsi, List.length_set, getD_set_eq, List.set_set]
  exact ⟨(_, _), ⟨rfl, rfl⟩, ⟨by omega, by omega⟩, hs.set⟩
 ·rintro ⟨m, s⟩ ⟨⟨hm1, hm2⟩, hs⟩
  simp only at hm1 hm2 hs
  have hsl := hs.1
  simp (contextual := true) (maxSteps := 1000000) (disch := omega) only [↓Sd, ↓So, ↓Sk, ↓den, ↓denA, Sa, Sb, Sc, Se, O1.d, O2.d, O3.d, cmI, arI, envOf, putN, ↓reduceIte, Nat.reduceLT, Nat.reduceSub, Nat.reduceAdd, Int.reduceAdd, Int.reduceEq, Int.reduceLT, Int.reduceLE, arr_pos, arr_neg, ]
  exact h m s ⟨by omega, by omega⟩
theorem mk_System (s : Sy) (k : Int) (hk : 0 ≤ k ∧ k ≤ 4000000000000000000) (h : FewSy s) {Q : List AV → Prop} (hQ : ∀ k' v r, k ≤ k' ∧ k' ≤ k + 4611691515988672512 → Q [⟨I, k'⟩, ⟨L V3, v⟩, ⟨L TR, r⟩]) : mc.C f_laws_markSystem [⟨L V3, s.1⟩, ⟨L TR, s.2⟩, ⟨I, k⟩] Q := by
 obtain ⟨h1, h2, h3⟩ := h
 have h1' := few_lim h1
 refine mc.c_of F_laws_markSystem ?_
 simp (contextual := true) (maxSteps := 1000000) (disch := omega) only [↓Sd, ↓So, ↓Sk, ↓den, ↓denA, Sa, Sb, Sc, Se, O1.d, O2.d, O3.d, cmI, arI, envOf, putN, ↓reduceIte, Nat.reduceLT, Nat.reduceSub, Nat.reduceAdd, Int.reduceAdd, Int.reduceEq, Int.reduceLT, Int.reduceLE, arr_pos, arr_neg, tr_laws_markSystem]
 refine mk_VarS _ k (by omega) h1 fun l' => ?_
 simp (contextual := true) (maxSteps := 1000000) (disch := omega) only [↓Sd, ↓So, ↓Sk, ↓den, ↓denA, Sa, Sb, Sc, Se, O1.d, O2.d, O3.d, cmI, arI, envOf, putN, ↓reduceIte, Nat.reduceLT, Nat.reduceSub, Nat.reduceAdd, Int.reduceAdd, Int.reduceEq, Int.reduceLT, Int.reduceLE, arr_pos, arr_neg, ]
 refine mk_RuleS _ _ (by omega) h2 h3 fun k' r hk' => ?_
 simp (contextual := true) (maxSteps := 1000000) (disch := omega) only [↓Sd, ↓So, ↓Sk, ↓den, ↓denA, Sa, Sb, Sc, Se, O1.d, O2.d, O3.d, cmI, arI, envOf, putN, ↓reduceIte, Nat.reduceLT, Nat.reduceSub, Nat.reduceAdd, Int.reduceAdd, Int.reduceEq, Int.reduceLT, Int.reduceLE, arr_pos, arr_neg, ]
 exact hQ k' _ r ⟨by omega, by omega⟩
theorem few_i {l : List Int} (h : l.length ≤ 1048576) : Few l := h
theorem C_impl_goodIn (s : Sy) (l : List Tm) (hs : FewSy s) (hf : Few l) (h : valid s ∧ kf l s.1.length = 2) (Q : List AV → Prop) : mc.C f_impl_goodIn [⟨L V3, s.1⟩, ⟨L TR, s.2⟩, ⟨L T4, l⟩] Q = Q [⟨L B, tab (holdsN s l) (szn s.1)⟩, ⟨B, true⟩] := by
 refine Mc.Ends.c (mc.ends F_impl_goodIn ?_)
 simp (contextual := true) (maxSteps := 1000000) (disch := omega) only [↓Sd, ↓So, ↓Sk, ↓den, ↓denA, Sa, Sb, Sc, Se, O1.d, O2.d, O3.d, cmI, arI, envOf, putN, ↓reduceIte, Nat.reduceLT, Nat.reduceSub, Nat.reduceAdd, Int.reduceAdd, Int.reduceEq, Int.reduceLT, Int.reduceLE, arr_pos, arr_neg, tr_impl_goodIn, C_impl_truthOf s l hs hf, h.1, h.2, C_impl_where s l h.1 (by omega : kf l s.1.length ≠ 0)]
theorem C_impl_goodIn_no (s : Sy) (l : List Tm) (hs : FewSy s) (hf : Few l) (h : ¬ (valid s ∧ kf l s.1.length = 2)) (Q : List AV → Prop) : mc.C f_impl_goodIn [⟨L V3, s.1⟩, ⟨L TR, s.2⟩, ⟨L T4, l⟩] Q = Q [⟨L B, []⟩, ⟨B, false⟩] := by
 refine Mc.Ends.c (mc.ends F_impl_goodIn ?_)
 simp (contextual := true) (maxSteps := 1000000) (disch := omega) only [↓Sd, ↓So, ↓Sk, ↓den, ↓denA, Sa, Sb, Sc, Se, O1.d, O2.d, O3.d, cmI, arI, envOf, putN, ↓reduceIte, Nat.reduceLT, Nat.reduceSub, Nat.reduceAdd, Int.reduceAdd, Int.reduceEq, Int.reduceLT, Int.reduceLE, arr_pos, arr_neg, tr_impl_goodIn, C_impl_truthOf s l hs hf, h]
def SmSS (l : List (List Int)) : Prop := l.length ≤ 4000 ∧ ∀ x ∈ l, x.length ≤ 4000
theorem SmSS.row {l : List (List Int)} (h : SmSS l) (i : Nat) : (l.getD i []).length ≤ 4000 := by
 by_cases hi : i < l.length
 ·exact h.2 _ (getD_mem hi)
 ·rw [List.getD_eq_getElem?_getD, List.getElem?_eq_none (by omega)]; simp
def FewSS (F : List (List Tm)) : Prop := Few F ∧ ∀ x ∈ F, Few x
theorem FewSS.row {F : List (List Tm)} (h : FewSS F) (i : Nat) : Few (F.getD i []) := by
 by_cases hi : i < F.length
 ·exact h.2 _ (getD_mem hi)
 ·rw [List.getD_eq_getElem?_getD, List.getElem?_eq_none (by omega)]; simp [Few]
def fneN (f : Nat → List Int) : Nat → List Int
 | 0 => []
 | n + 1 => if fneN f n = [] then f n else fneN f n
theorem fneN_stay {f : Nat → List Int} {a : Nat} (h : ¬ fneN f a = []) : ∀ {b : Nat}, a ≤ b → fneN f b = fneN f a
 | 0, hb => by obtain rfl : a = 0 := by omega
               rfl
 | b + 1, hb => by
  by_cases e : a = b + 1
  ·rw [e]
  ·have h1 := fneN_stay h (b := b) (by omega)
   rw [fneN, h1, if_neg h]
theorem fneN_at {f : Nat → List Int} {i n : Nat} (hp : fneN f i = []) (h : ¬ f i = []) (hi : i < n) : fneN f n = f i := by
 have h1 : fneN f (i + 1) = f i := by rw [fneN, if_pos hp]
 rw [← h1]
 exact fneN_stay (by rw [h1]; exact h) hi
theorem lp_fst {M : Mc} {b : Tr} {Q : Out → Prop} (mk : Nat → List AV) (f : Nat → List Int) (N : Nat) (us : List AV) (hus : us = mk 0)
  (hb : ∀ i, i < N → f i = [] → M.wp b (envOf (mk i)) (onJ (fun us => us = mk (i + 1)) Q))
  (hr : ∀ i, i < N → ¬ f i = [] → fneN f N = f i → M.wp b (envOf (mk i)) (onJ (fun _ => False) Q))
  (he : fneN f N = [] → M.wp b (envOf (mk N)) (onJ (fun _ => False) Q)) : M.LP b us Q := by
 refine M.lp_for Unit (fun i _ => mk i) (fun i _ => fneN f i = []) N 0 () us hus (Nat.zero_le _) rfl ?_ ?_
 ·rintro i - hi hp
  by_cases h : f i = []
  ·exact M.wp_mono _ _ _ _ (onJ_mono (fun us hu => ⟨(), hu, by rw [fneN, if_pos hp]; exact h⟩) fun o h => h) (hb i hi h)
  ·exact M.wp_mono _ _ _ _ (onJ_mono (fun us hu => hu.elim) fun o h => h) (hr i hi h (fneN_at hp h hi))
 ·rintro - hp
  exact he hp
def lastP (p : List Int) : Nat := (p.getD (p.length - 1) 0).toNat
def goL (T : List (List Int)) (g : Nat → Bool) : Nat → List Int → List Int
 | 0, p => if g (lastP p) = true then [] else p
 | k + 1, p => if g (lastP p) = true then fneN (fun i => if (T.getD (lastP p) []).getD i 0 ∈ p then [] else goL T g k (p ++ [(T.getD (lastP p) []).getD i 0])) (T.getD (lastP p) []).length else []
theorem goL_len {T : List (List Int)} {g : Nat → Bool} : ∀ {k : Nat} {p : List Int}, (goL T g k p).length = 0 ∨ (goL T g k p).length = p.length + k
 | 0, p => by
  rw [goL]; split
  ·exact .inl rfl
  ·exact .inr rfl
 | k + 1, p => by
  rw [goL]; split
  ·generalize (T.getD (lastP p) []).length = n
   induction n with
   | zero => exact .inl rfl
   | succ n ih =>
    rw [fneN]
    split
    ·split
     ·exact .inl rfl
     ·rcases goL_len (k := k) (p := p ++ [(T.getD (lastP p) []).getD n 0]) with h | h
      ·exact .inl h
      ·right; rw [h]; simp only [List.length_append, List.length_singleton]; omega
    ·exact ih
  ·exact .inl rfl
theorem C_spec_l15Go (T : List (List Int)) (g : Nat → Bool) (n : Nat) (ht : Tbl T n) (hn : n ≤ 1000) : ∀ (k : Nat) (p : List Int), p ≠ [] → p.length + k ≤ 1000 → (∀ x ∈ p, 0 ≤ x ∧ x < (n : Int)) → ∀ (Q : List AV → Prop), mc.C f_spec_l15Go [⟨L (L I), T⟩, ⟨L B, tab g n⟩, ⟨L I, p⟩, ⟨I, (k : Int)⟩] Q = Q [⟨L I, goL T g k p⟩]
 | 0, p, hp, hpl, hpn, Q => by
  refine Mc.Ends.c (mc.ends F_spec_l15Go ?_)
  have h1 : 0 < p.length := List.length_pos_iff.2 hp
  have h2 := hpn _ (getD_mem (l := p) (i := p.length - 1) (d := 0) (by omega))
  have h3 : lastP p < n := by unfold lastP; omega
  have h4 : p.getD (p.length - 1) 0 = (lastP p : Int) := by unfold lastP; omega
  simp (contextual := true) (maxSteps := 1000000) (disch := omega) only [↓Sd, ↓So, ↓Sk, ↓den, ↓denA, Sa, Sb, Sc, Se, O1.d, O2.d, O3.d, cmI, arI, envOf, putN, ↓reduceIte, Nat.reduceLT, Nat.reduceSub, Nat.reduceAdd, Int.reduceAdd, Int.reduceEq, Int.reduceLT, Int.reduceLE, arr_pos, arr_neg, tr_spec_l15Go, h4, tab_len, tab_get h3, goL]
 | k + 1, p, hp, hpl, hpn, Q => by
  refine Mc.Ends.c (mc.ends F_spec_l15Go ?_)
  have h1 : 0 < p.length := List.length_pos_iff.2 hp
  have h2 := hpn _ (getD_mem (l := p) (i := p.length - 1) (d := 0) (by omega))
  have h3 : lastP p < n := by unfold lastP; omega
  have h4 : p.getD (p.length - 1) 0 = (lastP p : Int) := by unfold lastP; omega
  have hTl := ht.1
  have hrl : (T.getD (lastP p) []).length ≤ 1048576 := (ht.2 _ (getD_mem (by omega))).1
  obtain ⟨row, hrow⟩ : ∃ row, T.getD (lastP p) [] = row := ⟨_, rfl⟩
  have hri := fun i (hi : i < row.length) => ht.row (i := lastP p) _ (by rw [hrow]; exact getD_mem (d := 0) hi)
  simp (contextual := true) (maxSteps := 1000000) (disch := omega) only [↓Sd, ↓So, ↓Sk, ↓den, ↓denA, Sa, Sb, Sc, Se, O1.d, O2.d, O3.d, cmI, arI, envOf, putN, ↓reduceIte, Nat.reduceLT, Nat.reduceSub, Nat.reduceAdd, Int.reduceAdd, Int.reduceEq, Int.reduceLT, Int.reduceLE, arr_pos, arr_neg, tr_spec_l15Go, h4, tab_len, tab_get h3, goL]
  intro _
  rw [hrow] at hrl ⊢
  refine lp_fst (fun i => [⟨L (L I), T⟩, ⟨L B, tab g n⟩, ⟨L I, p⟩, ⟨I, (k : Int) + 1⟩, ⟨I, (lastP p : Int)⟩, ⟨I, (i : Int)⟩]) (fun i => if row.getD i 0 ∈ p then [] else goL T g k (p ++ [row.getD i 0])) row.length _ rfl ?_ ?_ ?_
  ·intro i hi hf
   obtain ⟨x, hx⟩ : ∃ x, row.getD i 0 = x := ⟨_, rfl⟩
   have hxn := hri i hi
   rw [hx] at hf hxn
   have hC := C_spec_l15Go T g n ht hn k (p ++ [x]) (by simp) (by simp only [List.length_append, List.length_singleton]; omega) (fun y hy => by
    rcases List.mem_append.1 hy with hy | hy
    ·exact hpn y hy
    ·rw [List.mem_singleton.1 hy]; exact hxn)
   simp (contextual := true) (maxSteps := 1000000) (disch := omega) only [↓Sd, ↓So, ↓Sk, ↓den, ↓denA, Sa, Sb, Sc, Se, O1.d, O2.d, O3.d, cmI, arI, envOf, putN, ↓reduceIte, Nat.reduceLT, Nat.reduceSub, Nat.reduceAdd, Int.reduceAdd, Int.reduceEq, Int.reduceLT, Int.reduceLE, arr_pos, arr_neg, ↓wpJoin, hTl, hrow, hx, C_spec_l2Has p x (by omega), C_spec_l3Copy p (by omega), hC]
   intro e1 e2
   have e1' : ¬ x ∈ p := fun h => by rw [dB_t h] at e1; cases e1
   rw [if_neg e1'] at hf
   rw [hf] at e2; exact absurd e2 (by decide)
  ·intro i hi hf hN
   obtain ⟨x, hx⟩ : ∃ x, row.getD i 0 = x := ⟨_, rfl⟩
   have hxn := hri i hi
   rw [hN]
   rw [hx] at hf hxn ⊢
   have hC := C_spec_l15Go T g n ht hn k (p ++ [x]) (by simp) (by simp only [List.length_append, List.length_singleton]; omega) (fun y hy => by
    rcases List.mem_append.1 hy with hy | hy
    ·exact hpn y hy
    ·rw [List.mem_singleton.1 hy]; exact hxn)
   simp (contextual := true) (maxSteps := 1000000) (disch := omega) only [↓Sd, ↓So, ↓Sk, ↓den, ↓denA, Sa, Sb, Sc, Se, O1.d, O2.d, O3.d, cmI, arI, envOf, putN, ↓reduceIte, Nat.reduceLT, Nat.reduceSub, Nat.reduceAdd, Int.reduceAdd, Int.reduceEq, Int.reduceLT, Int.reduceLE, arr_pos, arr_neg, ↓wpJoin, hTl, hrow, hx, C_spec_l2Has p x (by omega), C_spec_l3Copy p (by omega), hC]
   have e1' : ¬ x ∈ p := fun h => hf (if_pos h)
   rw [if_neg e1'] at hf ⊢
   rw [dB_f e1']
   refine ⟨fun _ => ⟨fun _ => rfl, fun e2 => ?_⟩, fun h => (h rfl).elim⟩
   have := List.length_pos_iff.2 hf
   omega
  ·intro hN
   rw [hN]
   simp (contextual := true) (maxSteps := 1000000) (disch := omega) only [↓Sd, ↓So, ↓Sk, ↓den, ↓denA, Sa, Sb, Sc, Se, O1.d, O2.d, O3.d, cmI, arI, envOf, putN, ↓reduceIte, Nat.reduceLT, Nat.reduceSub, Nat.reduceAdd, Int.reduceAdd, Int.reduceEq, Int.reduceLT, Int.reduceLE, arr_pos, arr_neg, hTl, hrow]
theorem C_slices_Contains_int (l : List Int) (x : Int) (hl : l.length ≤ 1048576) (Q : List AV → Prop) : mc.C f_slices_Contains_Sint_int [⟨L I, l⟩, ⟨I, x⟩] Q = Q [⟨B, dB (x ∈ l)⟩] := by
 have hI : ∀ {Q : List AV → Prop}, (∀ j : Int, (0 ≤ j ↔ x ∈ l) → Q [⟨I, j⟩]) → mc.C f_slices_Index_Sint_int [⟨L I, l⟩, ⟨I, x⟩] Q := by
  intro Q hQ
  refine mc.c_of F_slices_Index_Sint_int ?_
  simp (contextual := true) (maxSteps := 1000000) (disch := omega) only [↓Sd, ↓So, ↓Sk, ↓den, ↓denA, Sa, Sb, Sc, Se, O1.d, O2.d, O3.d, cmI, arI, envOf, putN, ↓reduceIte, Nat.reduceLT, Nat.reduceSub, Nat.reduceAdd, Int.reduceAdd, Int.reduceEq, Int.reduceLT, Int.reduceLE, arr_pos, arr_neg, tr_slices_Index_Sint_int]
  refine lp_all (fun i => [⟨L I, l⟩, ⟨I, x⟩, ⟨I, (l.length : Int)⟩, ⟨I, (i : Int)⟩]) (fun i => ¬ x = l.getD i 0) l.length _ rfl ?_ ?_
  ·intro i hi
   simp (contextual := true) (maxSteps := 1000000) (disch := omega) only [↓Sd, ↓So, ↓Sk, ↓den, ↓denA, Sa, Sb, Sc, Se, O1.d, O2.d, O3.d, cmI, arI, envOf, putN, ↓reduceIte, Nat.reduceLT, Nat.reduceSub, Nat.reduceAdd, Int.reduceAdd, Int.reduceEq, Int.reduceLT, Int.reduceLE, arr_pos, arr_neg, ]
   intro h
   refine hQ _ ⟨fun _ => ?_, fun _ => by omega⟩
   rw [h]; exact getD_mem hi
  ·intro h
   simp (contextual := true) (maxSteps := 1000000) (disch := omega) only [↓Sd, ↓So, ↓Sk, ↓den, ↓denA, Sa, Sb, Sc, Se, O1.d, O2.d, O3.d, cmI, arI, envOf, putN, ↓reduceIte, Nat.reduceLT, Nat.reduceSub, Nat.reduceAdd, Int.reduceAdd, Int.reduceEq, Int.reduceLT, Int.reduceLE, arr_pos, arr_neg, ]
   refine hQ _ ⟨fun h => by omega, fun hx => ?_⟩
   obtain ⟨i, hi, rfl⟩ := List.getElem_of_mem hx
   exact absurd (getD_lt hi).symm (h i hi)
 refine Mc.Ends.c (mc.ends F_slices_Contains_Sint_int ?_)
 simp (contextual := true) (maxSteps := 1000000) (disch := omega) only [↓Sd, ↓So, ↓Sk, ↓den, ↓denA, Sa, Sb, Sc, Se, O1.d, O2.d, O3.d, cmI, arI, envOf, putN, ↓reduceIte, Nat.reduceLT, Nat.reduceSub, Nat.reduceAdd, Int.reduceAdd, Int.reduceEq, Int.reduceLT, Int.reduceLE, arr_pos, arr_neg, tr_slices_Contains_Sint_int]
 refine hI fun j hj => ?_
 simp (contextual := true) (maxSteps := 1000000) (disch := omega) only [↓Sd, ↓So, ↓Sk, ↓den, ↓denA, Sa, Sb, Sc, Se, O1.d, O2.d, O3.d, cmI, arI, envOf, putN, ↓reduceIte, Nat.reduceLT, Nat.reduceSub, Nat.reduceAdd, Int.reduceAdd, Int.reduceEq, Int.reduceLT, Int.reduceLE, arr_pos, arr_neg, ]
 rw [← dB_eq]
 exact dB_congr hj
end Go.Proofs.YtilmaoicaejbdaaGreat
namespace Go.Proofs.YtilmaoicaejbdaaGreat
open Go Go.Sm Go.Sm.Q
set_option linter.unusedSimpArgs false
set_option linter.unusedVariables false
theorem C_impl_loopless_1 (T : List (List Int)) (g : Nat → Bool) (n : Nat) (ht : Tbl T n) (hn : n ≤ 1000) (K : Nat) (hK : K ≤ 500) : ∀ (k : Nat) (p : List Int), p ≠ [] → p.length + k = K + 1 → (∀ x ∈ p, 0 ≤ x ∧ x < (n : Int)) → ∀ (Q : List AV → Prop), mc.C f_impl_loopless_1 [⟨L I, p⟩, ⟨I, (K : Int)⟩, ⟨L B, tab g n⟩, ⟨L (L I), T⟩, ⟨B, true⟩] Q = Q [⟨N I, goL T g k p⟩, ⟨I, (K : Int)⟩, ⟨L B, tab g n⟩, ⟨L (L I), T⟩, ⟨B, true⟩]
 | 0, p, hp, hpl, hpn, Q => by
  refine Mc.Ends.c (mc.ends F_impl_loopless_1 ?_)
  have h1 : 0 < p.length := List.length_pos_iff.2 hp
  have h2 := hpn _ (getD_mem (l := p) (i := p.length - 1) (d := 0) (by omega))
  have h3 : lastP p < n := by unfold lastP; omega
  have h4 : p.getD (p.length - 1) 0 = (lastP p : Int) := by unfold lastP; omega
  have hKp : p.length - 1 = K := by omega
  have h5 : p.getD K 0 = (lastP p : Int) := by rw [← hKp]; exact h4
  have h6 : p.isEmpty = false := by cases p with | nil => exact absurd rfl hp | cons => rfl
  simp (contextual := true) (maxSteps := 1000000) (disch := omega) only [↓Sd, ↓So, ↓Sk, ↓den, ↓denA, Sa, Sb, Sc, Se, O1.d, O2.d, O3.d, cmI, arI, envOf, putN, ↓reduceIte, Nat.reduceLT, Nat.reduceSub, Nat.reduceAdd, Int.reduceAdd, Int.reduceEq, Int.reduceLT, Int.reduceLE, arr_pos, arr_neg, tr_impl_loopless_1, h5, h4, tab_len, tab_get h3, goL, h6]
 | k + 1, p, hp, hpl, hpn, Q => by
  refine Mc.Ends.c (mc.ends F_impl_loopless_1 ?_)
  have h1 : 0 < p.length := List.length_pos_iff.2 hp
  have h2 := hpn _ (getD_mem (l := p) (i := p.length - 1) (d := 0) (by omega))
  have h3 : lastP p < n := by unfold lastP; omega
  have h4 : p.getD (p.length - 1) 0 = (lastP p : Int) := by unfold lastP; omega
  have hTl := ht.1
  have hrl : (T.getD (lastP p) []).length ≤ 1048576 := (ht.2 _ (getD_mem (by omega))).1
  obtain ⟨row, hrow⟩ : ∃ row, T.getD (lastP p) [] = row := ⟨_, rfl⟩
  have hri := fun i (hi : i < row.length) => ht.row (i := lastP p) _ (by rw [hrow]; exact getD_mem (d := 0) hi)
  simp (contextual := true) (maxSteps := 1000000) (disch := omega) only [↓Sd, ↓So, ↓Sk, ↓den, ↓denA, Sa, Sb, Sc, Se, O1.d, O2.d, O3.d, cmI, arI, envOf, putN, ↓reduceIte, Nat.reduceLT, Nat.reduceSub, Nat.reduceAdd, Int.reduceAdd, Int.reduceEq, Int.reduceLT, Int.reduceLE, arr_pos, arr_neg, tr_impl_loopless_1, h4, tab_len, tab_get h3, goL]
  intro _
  rw [hrow] at hrl ⊢
  refine lp_fst (fun i => [⟨L I, p⟩, ⟨L I, row⟩, ⟨I, (row.length : Int)⟩, ⟨I, (i : Int)⟩, ⟨I, (K : Int)⟩, ⟨L B, tab g n⟩, ⟨L (L I), T⟩]) (fun i => if row.getD i 0 ∈ p then [] else goL T g k (p ++ [row.getD i 0])) row.length _ rfl ?_ ?_ ?_
  ·intro i hi hf
   obtain ⟨x, hx⟩ : ∃ x, row.getD i 0 = x := ⟨_, rfl⟩
   have hxn := hri i hi
   rw [hx] at hf hxn
   have hC := C_impl_loopless_1 T g n ht hn K hK k (p ++ [x]) (by simp) (by simp only [List.length_append, List.length_singleton]; omega) (fun y hy => by
    rcases List.mem_append.1 hy with hy | hy
    ·exact hpn y hy
    ·rw [List.mem_singleton.1 hy]; exact hxn)
   simp (contextual := true) (maxSteps := 1000000) (disch := omega) only [↓Sd, ↓So, ↓Sk, ↓den, ↓denA, Sa, Sb, Sc, Se, O1.d, O2.d, O3.d, cmI, arI, envOf, putN, ↓reduceIte, Nat.reduceLT, Nat.reduceSub, Nat.reduceAdd, Int.reduceAdd, Int.reduceEq, Int.reduceLT, Int.reduceLE, arr_pos, arr_neg, ↓wpJoin, hTl, hx, C_slices_Contains_int p x (by omega), List.take_length, hC]
   intro e1 e2
   have e1' : ¬ x ∈ p := fun h => by rw [dB_t h] at e1; cases e1
   rw [if_neg e1'] at hf
   rw [hf] at e2; cases e2
  ·intro i hi hf hN
   obtain ⟨x, hx⟩ : ∃ x, row.getD i 0 = x := ⟨_, rfl⟩
   have hxn := hri i hi
   rw [hN]
   rw [hx] at hf hxn ⊢
   have hC := C_impl_loopless_1 T g n ht hn K hK k (p ++ [x]) (by simp) (by simp only [List.length_append, List.length_singleton]; omega) (fun y hy => by
    rcases List.mem_append.1 hy with hy | hy
    ·exact hpn y hy
    ·rw [List.mem_singleton.1 hy]; exact hxn)
   simp (contextual := true) (maxSteps := 1000000) (disch := omega) only [↓Sd, ↓So, ↓Sk, ↓den, ↓denA, Sa, Sb, Sc, Se, O1.d, O2.d, O3.d, cmI, arI, envOf, putN, ↓reduceIte, Nat.reduceLT, Nat.reduceSub, Nat.reduceAdd, Int.reduceAdd, Int.reduceEq, Int.reduceLT, Int.reduceLE, arr_pos, arr_neg, ↓wpJoin, hTl, hx, C_slices_Contains_int p x (by omega), List.take_length, hC]
   have e1' : ¬ x ∈ p := fun h => hf (if_pos h)
   rw [if_neg e1'] at hf ⊢
   rw [dB_f e1']
   refine ⟨fun _ => ⟨fun _ => rfl, fun e2 => ?_⟩, fun h => (h rfl).elim⟩
   exact e2 (by simpa using hf)
  ·intro hN
   rw [hN]
   simp (contextual := true) (maxSteps := 1000000) (disch := omega) only [↓Sd, ↓So, ↓Sk, ↓den, ↓denA, Sa, Sb, Sc, Se, O1.d, O2.d, O3.d, cmI, arI, envOf, putN, ↓reduceIte, Nat.reduceLT, Nat.reduceSub, Nat.reduceAdd, Int.reduceAdd, Int.reduceEq, Int.reduceLT, Int.reduceLE, arr_pos, arr_neg, hTl]
theorem C_impl_loopless (T : List (List Int)) (g : Nat → Bool) (n : Nat) (ht : Tbl T n) (hn : n ≤ 1000) (K : Nat) (hK : K ≤ 500) (Q : List AV → Prop) : mc.C f_impl_loopless [⟨L (L I), T⟩, ⟨L B, tab g n⟩, ⟨I, (K : Int)⟩] Q = Q [⟨N I, fneN (fun i => goL T g K [(i : Int)]) n⟩] := by
 refine Mc.Ends.c (mc.ends F_impl_loopless ?_)
 have hTl := ht.1
 have hC := fun i (hi : i < n) => C_impl_loopless_1 T g n ht hn K hK K [(i : Int)] (by simp) (by simp only [List.length_singleton]; omega) (fun y hy => by rw [List.mem_singleton.1 hy]; omega)
 simp (contextual := true) (maxSteps := 1000000) (disch := omega) only [↓Sd, ↓So, ↓Sk, ↓den, ↓denA, Sa, Sb, Sc, Se, O1.d, O2.d, O3.d, cmI, arI, envOf, putN, ↓reduceIte, Nat.reduceLT, Nat.reduceSub, Nat.reduceAdd, Int.reduceAdd, Int.reduceEq, Int.reduceLT, Int.reduceLE, arr_pos, arr_neg, tr_impl_loopless, hTl]
 refine lp_fst (fun i => [⟨I, (n : Int)⟩, ⟨I, (i : Int)⟩, ⟨I, (K : Int)⟩, ⟨L B, tab g n⟩, ⟨L (L I), T⟩]) (fun i => goL T g K [(i : Int)]) n _ rfl ?_ ?_ ?_
 ·intro i hi hf
  simp (contextual := true) (maxSteps := 1000000) (disch := omega) only [↓Sd, ↓So, ↓Sk, ↓den, ↓denA, Sa, Sb, Sc, Se, O1.d, O2.d, O3.d, cmI, arI, envOf, putN, ↓reduceIte, Nat.reduceLT, Nat.reduceSub, Nat.reduceAdd, Int.reduceAdd, Int.reduceEq, Int.reduceLT, Int.reduceLE, arr_pos, arr_neg, hC i hi, hf, List.isEmpty_nil]
 ·intro i hi hf hN
  rw [hN]
  simp (contextual := true) (maxSteps := 1000000) (disch := omega) only [↓Sd, ↓So, ↓Sk, ↓den, ↓denA, Sa, Sb, Sc, Se, O1.d, O2.d, O3.d, cmI, arI, envOf, putN, ↓reduceIte, Nat.reduceLT, Nat.reduceSub, Nat.reduceAdd, Int.reduceAdd, Int.reduceEq, Int.reduceLT, Int.reduceLE, arr_pos, arr_neg, hC i hi]
  intro h
  exact h (by simpa using hf)
 ·intro hN
  rw [hN]
  simp (contextual := true) (maxSteps := 1000000) (disch := omega) only [↓Sd, ↓So, ↓Sk, ↓den, ↓denA, Sa, Sb, Sc, Se, O1.d, O2.d, O3.d, cmI, arI, envOf, putN, ↓reduceIte, Nat.reduceLT, Nat.reduceSub, Nat.reduceAdd, Int.reduceAdd, Int.reduceEq, Int.reduceLT, Int.reduceLE, arr_pos, arr_neg, ]
theorem C_spec_l15Asked (s : Sy) (l : List Tm) (k : Int) (hs : FewSy s) (hf : Few l) (Q : List AV → Prop) : mc.C f_spec_l15Asked [⟨L V3, s.1⟩, ⟨L TR, s.2⟩, ⟨L T4, l⟩, ⟨I, k⟩] Q = Q [⟨B, dB ((valid s ∧ kf l s.1.length = 2) ∧ 1 ≤ k ∧ k ≤ 6)⟩] := by
 refine Mc.Ends.c (mc.ends F_spec_l15Asked ?_)
 generalize hK : dB ((valid s ∧ kf l s.1.length = 2) ∧ 1 ≤ k ∧ k ≤ 6) = K
 simp (contextual := true) (maxSteps := 1000000) (disch := omega) only [↓Sd, ↓So, ↓Sk, ↓den, ↓denA, Sa, Sb, Sc, Se, O1.d, O2.d, O3.d, cmI, arI, envOf, putN, ↓reduceIte, Nat.reduceLT, Nat.reduceSub, Nat.reduceAdd, Int.reduceAdd, Int.reduceEq, Int.reduceLT, Int.reduceLE, arr_pos, arr_neg, tr_spec_l15Asked, C_spec_SystemValid s hs, C_spec_l2Is l s.1.length 2 hf (by omega), C_spec_l1In]
 refine ⟨fun h1 => ⟨fun h2 => ?_, fun h2 => ?_⟩, fun h1 => ?_⟩
 ·rw [← hK, ← dB_eq]; exact dB_congr ⟨fun h => ⟨⟨h1, h2⟩, h⟩, fun h => h.2⟩
 ·rw [← hK, dB_f fun h => h2 h.1.2]
 ·rw [← hK, dB_f fun h => h1 h.1.1]
theorem C_spec_l15Good (s : Sy) (l : List Tm) (hs : FewSy s) (hf : Few l) (h : valid s ∧ kf l s.1.length = 2) (Q : List AV → Prop) : mc.C f_spec_l15Good [⟨L V3, s.1⟩, ⟨L TR, s.2⟩, ⟨L T4, l⟩] Q = Q [⟨L B, tab (holdsN s l) (szn s.1)⟩] := by
 refine Mc.Ends.c (mc.ends F_spec_l15Good ?_)
 have hz := szn_eq h.1
 simp (contextual := true) (maxSteps := 1000000) (disch := omega) only [↓Sd, ↓So, ↓Sk, ↓den, ↓denA, Sa, Sb, Sc, Se, O1.d, O2.d, O3.d, cmI, arI, envOf, putN, ↓reduceIte, Nat.reduceLT, Nat.reduceSub, Nat.reduceAdd, Int.reduceAdd, Int.reduceEq, Int.reduceLT, Int.reduceLE, arr_pos, arr_neg, tr_spec_l15Good, C_spec_StatesWhere s l hs hf h.1 h.2, C_spec_SizeOf s hs, if_pos h.1, C_spec_l4Marks_i (upTo (holdsN s l) (szn s.1)) (sz s.1) (szn s.1) hz.1.symm (by omega) (Nat.le_trans upTo_len (by omega)) (fun x hx => by obtain ⟨a, h1, rfl, _⟩ := upTo_mem.1 hx; omega)]
 exact tab_congr fun k hk => by rw [dB_upTo]; simp [hk]
def ikd (s : Sy) (l : List Tm) (k : Int) : Prop := (valid s ∧ kf l s.1.length = 2) ∧ 1 ≤ k ∧ k ≤ 6
def lpsK (s : Sy) (l : List Tm) (k : Nat) : List Int := fneN (fun i => goL (steps s) (holdsN s l) k [(i : Int)]) (szn s.1)
theorem lpsK_len {s : Sy} {l : List Tm} {k : Nat} : (lpsK s l k).length ≤ k + 1 := by
 unfold lpsK
 generalize szn s.1 = n
 induction n with
 | zero => simp [fneN]
 | succ n ih =>
  rw [fneN]; split
  ·rcases goL_len (T := steps s) (g := holdsN s l) (k := k) (p := [(n : Int)]) with h | h
   ·omega
   ·rw [h]; simp only [List.length_singleton]; omega
  ·exact ih
theorem C_spec_LooplessTo (s : Sy) (l : List Tm) (k : Nat) (hs : FewSy s) (hf : Few l) (h : ikd s l k) (Q : List AV → Prop) : mc.C f_spec_LooplessTo [⟨L V3, s.1⟩, ⟨L TR, s.2⟩, ⟨L T4, l⟩, ⟨I, (k : Int)⟩] Q = Q [⟨L I, lpsK s l k⟩, ⟨B, !(lpsK s l k).isEmpty⟩] := by
 refine Mc.Ends.c (mc.ends F_spec_LooplessTo ?_)
 have hv := h.1.1
 have hk := h.2
 have hz := szn_eq hv
 have ht := steps_tbl hv
 have hTl := ht.1
 have hC := fun i (hi : i < szn s.1) => C_spec_l15Go (steps s) (holdsN s l) (szn s.1) ht (by omega) k [(i : Int)] (by simp) (by simp only [List.length_singleton]; omega) (fun y hy => by rw [List.mem_singleton.1 hy]; omega)
 simp (contextual := true) (maxSteps := 1000000) (disch := omega) only [↓Sd, ↓So, ↓Sk, ↓den, ↓denA, Sa, Sb, Sc, Se, O1.d, O2.d, O3.d, cmI, arI, envOf, putN, ↓reduceIte, Nat.reduceLT, Nat.reduceSub, Nat.reduceAdd, Int.reduceAdd, Int.reduceEq, Int.reduceLT, Int.reduceLE, arr_pos, arr_neg, tr_spec_LooplessTo, C_spec_l15Asked s l k hs hf, dB_t (show (valid s ∧ kf l s.1.length = 2) ∧ 1 ≤ (k : Int) ∧ (k : Int) ≤ 6 from h), C_spec_l4Steps s hs hv, C_spec_l15Good s l hs hf h.1]
 refine lp_fst (fun i => [⟨I, (k : Int)⟩, ⟨L (L I), steps s⟩, ⟨L B, tab (holdsN s l) (szn s.1)⟩, ⟨I, (i : Int)⟩]) (fun i => goL (steps s) (holdsN s l) k [(i : Int)]) (szn s.1) _ rfl ?_ ?_ ?_
 ·intro i hi hf
  simp (contextual := true) (maxSteps := 1000000) (disch := omega) only [↓Sd, ↓So, ↓Sk, ↓den, ↓denA, Sa, Sb, Sc, Se, O1.d, O2.d, O3.d, cmI, arI, envOf, putN, ↓reduceIte, Nat.reduceLT, Nat.reduceSub, Nat.reduceAdd, Int.reduceAdd, Int.reduceEq, Int.reduceLT, Int.reduceLE, arr_pos, arr_neg, hTl, hC i hi, hf, List.length_nil]
 ·intro i hi hf hN
  have h1 := List.length_pos_iff.2 hf
  have h2 : lpsK s l k = goL (steps s) (holdsN s l) k [(i : Int)] := hN
  rw [h2]
  simp (contextual := true) (maxSteps := 1000000) (disch := omega) only [↓Sd, ↓So, ↓Sk, ↓den, ↓denA, Sa, Sb, Sc, Se, O1.d, O2.d, O3.d, cmI, arI, envOf, putN, ↓reduceIte, Nat.reduceLT, Nat.reduceSub, Nat.reduceAdd, Int.reduceAdd, Int.reduceEq, Int.reduceLT, Int.reduceLE, arr_pos, arr_neg, hTl, hC i hi]
  simpa using hf
 ·intro hN
  have h2 : lpsK s l k = [] := hN
  rw [h2]
  simp (contextual := true) (maxSteps := 1000000) (disch := omega) only [↓Sd, ↓So, ↓Sk, ↓den, ↓denA, Sa, Sb, Sc, Se, O1.d, O2.d, O3.d, cmI, arI, envOf, putN, ↓reduceIte, Nat.reduceLT, Nat.reduceSub, Nat.reduceAdd, Int.reduceAdd, Int.reduceEq, Int.reduceLT, Int.reduceLE, arr_pos, arr_neg, hTl, List.isEmpty_nil]
  rfl
theorem C_spec_LooplessTo_no (s : Sy) (l : List Tm) (k : Int) (hs : FewSy s) (hf : Few l) (h : ¬ ikd s l k) (Q : List AV → Prop) : mc.C f_spec_LooplessTo [⟨L V3, s.1⟩, ⟨L TR, s.2⟩, ⟨L T4, l⟩, ⟨I, k⟩] Q = Q [⟨L I, []⟩, ⟨B, false⟩] := by
 refine Mc.Ends.c (mc.ends F_spec_LooplessTo ?_)
 simp (contextual := true) (maxSteps := 1000000) (disch := omega) only [↓Sd, ↓So, ↓Sk, ↓den, ↓denA, Sa, Sb, Sc, Se, O1.d, O2.d, O3.d, cmI, arI, envOf, putN, ↓reduceIte, Nat.reduceLT, Nat.reduceSub, Nat.reduceAdd, Int.reduceAdd, Int.reduceEq, Int.reduceLT, Int.reduceLE, arr_pos, arr_neg, tr_spec_LooplessTo, C_spec_l15Asked s l k hs hf, dB_f (show ¬ ((valid s ∧ kf l s.1.length = 2) ∧ 1 ≤ k ∧ k ≤ 6) from h)]
theorem C_impl_LooplessTo (s : Sy) (l : List Tm) (k : Nat) (hs : FewSy s) (hf : Few l) (h : ikd s l k) (Q : List AV → Prop) : mc.C f_impl_LooplessTo [⟨L V3, s.1⟩, ⟨L TR, s.2⟩, ⟨L T4, l⟩, ⟨I, (k : Int)⟩] Q = Q [⟨L I, lpsK s l k⟩, ⟨B, !(lpsK s l k).isEmpty⟩] := by
 refine Mc.Ends.c (mc.ends F_impl_LooplessTo ?_)
 have hv := h.1.1
 have hk := h.2
 have hz := szn_eq hv
 have ht := steps_tbl hv
 have hll := @lpsK_len s l k
 have hlo : ∀ Q : List AV → Prop, mc.C f_impl_loopless [⟨L (L I), steps s⟩, ⟨L B, tab (holdsN s l) (szn s.1)⟩, ⟨I, (k : Int)⟩] Q = Q [⟨N I, lpsK s l k⟩] := fun Q => C_impl_loopless (steps s) (holdsN s l) (szn s.1) ht (by omega) k (by omega) Q
 simp (contextual := true) (maxSteps := 1000000) (disch := omega) only [↓Sd, ↓So, ↓Sk, ↓den, ↓denA, Sa, Sb, Sc, Se, O1.d, O2.d, O3.d, cmI, arI, envOf, putN, ↓reduceIte, Nat.reduceLT, Nat.reduceSub, Nat.reduceAdd, Int.reduceAdd, Int.reduceEq, Int.reduceLT, Int.reduceLE, arr_pos, arr_neg, tr_impl_LooplessTo, C_impl_goodIn s l hs hf h.1, C_impl_in, decide_eq_true (show 1 ≤ (k : Int) ∧ (k : Int) ≤ 6 from hk), C_impl_nexts s hv, hlo, C_impl_clone_int (lpsK s l k) (by omega)]
theorem C_impl_LooplessTo_no (s : Sy) (l : List Tm) (k : Int) (hs : FewSy s) (hf : Few l) (h : ¬ ikd s l k) (Q : List AV → Prop) : mc.C f_impl_LooplessTo [⟨L V3, s.1⟩, ⟨L TR, s.2⟩, ⟨L T4, l⟩, ⟨I, k⟩] Q = Q [⟨L I, []⟩, ⟨B, false⟩] := by
 refine Mc.Ends.c (mc.ends F_impl_LooplessTo ?_)
 by_cases hv : valid s ∧ kf l s.1.length = 2
 ·simp (contextual := true) (maxSteps := 1000000) (disch := omega) only [↓Sd, ↓So, ↓Sk, ↓den, ↓denA, Sa, Sb, Sc, Se, O1.d, O2.d, O3.d, cmI, arI, envOf, putN, ↓reduceIte, Nat.reduceLT, Nat.reduceSub, Nat.reduceAdd, Int.reduceAdd, Int.reduceEq, Int.reduceLT, Int.reduceLE, arr_pos, arr_neg, tr_impl_LooplessTo, C_impl_goodIn s l hs hf hv, C_impl_in, decide_eq_false (show ¬ (1 ≤ k ∧ k ≤ 6) from fun g => h ⟨hv, g⟩)]
 ·simp (contextual := true) (maxSteps := 1000000) (disch := omega) only [↓Sd, ↓So, ↓Sk, ↓den, ↓denA, Sa, Sb, Sc, Se, O1.d, O2.d, O3.d, cmI, arI, envOf, putN, ↓reduceIte, Nat.reduceLT, Nat.reduceSub, Nat.reduceAdd, Int.reduceAdd, Int.reduceEq, Int.reduceLT, Int.reduceLE, arr_pos, arr_neg, tr_impl_LooplessTo, C_impl_goodIn_no s l hs hf hv]
theorem law_FnExactLooplessTo (s : Sy) (l : List Tm) (k : Int) (hs : LtSy s) (hl : Lt63 l) : mc.C f_laws_FnExactLooplessTo [⟨L V3, s.1⟩, ⟨L TR, s.2⟩, ⟨L T4, l⟩, ⟨I, k⟩] (· = [⟨B, true⟩]) := by
 refine mc.c_of F_laws_FnExactLooplessTo ?_
 simp (contextual := true) (maxSteps := 1000000) (disch := omega) only [↓Sd, ↓So, ↓Sk, ↓den, ↓denA, Sa, Sb, Sc, Se, O1.d, O2.d, O3.d, cmI, arI, envOf, putN, ↓reduceIte, Nat.reduceLT, Nat.reduceSub, Nat.reduceAdd, Int.reduceAdd, Int.reduceEq, Int.reduceLT, Int.reduceLE, arr_pos, arr_neg, tr_laws_FnExactLooplessTo]
 refine sz_System s _ (by omega) hs fun j h2 h3 => ?_
 simp (contextual := true) (maxSteps := 1000000) (disch := omega) only [↓Sd, ↓So, ↓Sk, ↓den, ↓denA, Sa, Sb, Sc, Se, O1.d, O2.d, O3.d, cmI, arI, envOf, putN, ↓reduceIte, Nat.reduceLT, Nat.reduceSub, Nat.reduceAdd, Int.reduceAdd, Int.reduceEq, Int.reduceLT, Int.reduceLE, arr_pos, arr_neg, ]
 intro h4
 have hs := h3 (by omega)
 refine sz_TermS l _ (by omega) hl fun j2 h5 h6 => ?_
 simp (contextual := true) (maxSteps := 1000000) (disch := omega) only [↓Sd, ↓So, ↓Sk, ↓den, ↓denA, Sa, Sb, Sc, Se, O1.d, O2.d, O3.d, cmI, arI, envOf, putN, ↓reduceIte, Nat.reduceLT, Nat.reduceSub, Nat.reduceAdd, Int.reduceAdd, Int.reduceEq, Int.reduceLT, Int.reduceLE, arr_pos, arr_neg, ]
 intro h7
 have hf := h6 (by omega)
 have hfl : l.length ≤ 1048576 := hf
 obtain ⟨K, b, hK, hspec, himpl⟩ : ∃ (K : List Int) (b : Bool), K.length ≤ 100 ∧ (∀ Q : List AV → Prop, mc.C f_spec_LooplessTo [⟨L V3, s.1⟩, ⟨L TR, s.2⟩, ⟨L T4, l⟩, ⟨I, k⟩] Q = Q [⟨L I, K⟩, ⟨B, b⟩]) ∧ ∀ Q : List AV → Prop, mc.C f_impl_LooplessTo [⟨L V3, s.1⟩, ⟨L TR, s.2⟩, ⟨L T4, l⟩, ⟨I, k⟩] Q = Q [⟨L I, K⟩, ⟨B, b⟩] := by
  by_cases h : ikd s l k
  ·obtain ⟨m, rfl⟩ : ∃ m : Nat, k = m := ⟨k.toNat, by have := h.2; omega⟩
   exact ⟨_, _, by have := @lpsK_len s l m; have := h.2; omega, C_spec_LooplessTo s l m hs hf h, C_impl_LooplessTo s l m hs hf h⟩
  ·exact ⟨[], false, by simp, C_spec_LooplessTo_no s l k hs hf h, C_impl_LooplessTo_no s l k hs hf h⟩
 simp (contextual := true) (maxSteps := 1000000) (disch := omega) only [↓Sd, ↓So, ↓Sk, ↓den, ↓denA, Sa, Sb, Sc, Se, O1.d, O2.d, O3.d, cmI, arI, envOf, putN, ↓reduceIte, Nat.reduceLT, Nat.reduceSub, Nat.reduceAdd, Int.reduceAdd, Int.reduceEq, Int.reduceLT, Int.reduceLE, arr_pos, arr_neg, to_System s hs, to_TermS l hf, hspec, himpl, eq_IntS K (few_i (by omega)), eq_System s hs, eq_TermS l hf]
 refine mk_System s 1 (by omega) hs fun k' v r hk' => ?_
 simp (contextual := true) (maxSteps := 1000000) (disch := omega) only [↓Sd, ↓So, ↓Sk, ↓den, ↓denA, Sa, Sb, Sc, Se, O1.d, O2.d, O3.d, cmI, arI, envOf, putN, ↓reduceIte, Nat.reduceLT, Nat.reduceSub, Nat.reduceAdd, Int.reduceAdd, Int.reduceEq, Int.reduceLT, Int.reduceLE, arr_pos, arr_neg, ]
 refine mk_TermS l k' (by omega) hf fun l' => ?_
 simp (contextual := true) (maxSteps := 1000000) (disch := omega) only [↓Sd, ↓So, ↓Sk, ↓den, ↓denA, Sa, Sb, Sc, Se, O1.d, O2.d, O3.d, cmI, arI, envOf, putN, ↓reduceIte, Nat.reduceLT, Nat.reduceSub, Nat.reduceAdd, Int.reduceAdd, Int.reduceEq, Int.reduceLT, Int.reduceLE, arr_pos, arr_neg, eq_IntS K (few_i (by omega)), mk_IntS K 1 (by omega) (by omega), held_IntS K.length 1 (by omega) (by omega), to_System s hs, to_TermS l hf, himpl]
end Go.Proofs.YtilmaoicaejbdaaGreat
