/- What the trees come to: plain mathematics; no condition. -/
import Derived.Test.YtifkpliahhodoaaGreatSmMath0
namespace Go.Proofs.YtifkpliahhodoaaGreat
open Go Go.Sm Go.Sm.Q
set_option linter.unusedSimpArgs false
set_option linter.unusedVariables false
theorem cmpL_trans : ∀ {l m k : List Int}, cmpL l m < 0 → cmpL m k < 0 → cmpL l k < 0
 | [], [], _, h, _ => by simp [cmpL] at h
 | [], _ :: _, [], _, h => by simp [cmpL] at h
 | [], _ :: _, _ :: _, _, _ => by simp [cmpL]
 | _ :: _, [], _, h, _ => by simp [cmpL] at h
 | _ :: _, _ :: _, [], _, h => by simp [cmpL] at h
 | a :: l, b :: m, c :: k, h1, h2 => by
  simp only [cmpL] at h1 h2 ⊢
  by_cases a1 : a < b
  ·by_cases a2 : b < c
   ·rw [if_pos (by omega)]; omega
   ·by_cases a3 : b > c
    ·rw [if_neg a2, if_pos a3] at h2; omega
    ·rw [if_pos (by omega)]; omega
  ·by_cases a0 : a > b
   ·rw [if_neg a1, if_pos a0] at h1; omega
   ·rw [if_neg a1, if_neg a0] at h1
    by_cases a2 : b < c
    ·rw [if_pos (by omega)]; omega
    ·by_cases a3 : b > c
     ·rw [if_neg a2, if_pos a3] at h2; omega
     ·rw [if_neg a2, if_neg a3] at h2
      rw [if_neg (by omega), if_neg (by omega)]; exact cmpL_trans h1 h2
theorem cmpL_drop {l m : List Int} {i : Nat} (h1 : i < l.length) (h2 : i < m.length) : cmpL (l.drop i) (m.drop i) = if l.getD i 0 < m.getD i 0 then -1 else if l.getD i 0 > m.getD i 0 then 1 else cmpL (l.drop (i + 1)) (m.drop (i + 1)) := by
 rw [drop_cons (d := 0) h1, drop_cons (d := 0) h2]; rfl
def putM (x : List Int) : List (List Int) → List (List Int)
 | [] => [x]
 | y :: l => if y = x then y :: l else if cmpL x y < 0 then x :: y :: l else y :: putM x l
theorem putM_len {x : List Int} : ∀ {l : List (List Int)}, (putM x l).length ≤ l.length + 1
 | [] => by simp [putM]
 | y :: l => by
  simp only [putM]
  split
  ·simp
  ·split
   ·simp
   ·simp only [List.length_cons]; have := @putM_len x l; omega
theorem putM_mem {x z : List Int} : ∀ {l : List (List Int)}, z ∈ putM x l → z = x ∨ z ∈ l
 | [], h => .inl (by simpa [putM] using h)
 | y :: l, h => by
  simp only [putM] at h
  split at h
  ·exact .inr h
  ·split at h
   ·exact List.mem_cons.1 h
   ·rcases List.mem_cons.1 h with rfl | h
    ·exact .inr (List.mem_cons_self ..)
    ·rcases putM_mem h with h | h
     ·exact .inl h
     ·exact .inr (List.mem_cons_of_mem _ h)
def Asc (l : List (List Int)) : Prop := l.Pairwise fun a b => cmpL a b < 0
theorem putM_asc {x : List Int} : ∀ {l : List (List Int)}, Asc l → Asc (putM x l)
 | [], _ => List.pairwise_singleton _ _
 | y :: l, h => by
  have h' := List.pairwise_cons.1 h
  simp only [putM]
  split
  ·exact h
  ·rename_i hne
   split
   ·rename_i hlt
    refine List.pairwise_cons.2 ⟨fun z hz => ?_, h⟩
    rcases List.mem_cons.1 hz with rfl | hz
    ·exact hlt
    ·exact cmpL_trans hlt (h'.1 z hz)
   ·rename_i hge
    refine List.pairwise_cons.2 ⟨fun z hz => ?_, putM_asc h'.2⟩
    rcases putM_mem hz with rfl | hz
    ·have h1 := @cmpL_anti y z
     have h2 : cmpL y z ≠ 0 := fun h => hne (cmpL_eq h)
     omega
    ·exact h'.1 z hz
theorem putM_at {x : List Int} : ∀ {l : List (List Int)} {i : Nat}, i ≤ l.length → (∀ k, k < i → cmpL (l.getD k []) x < 0) → (∀ k, i ≤ k → k < l.length → 0 ≤ cmpL (l.getD k []) x) →
  putM x l = if i < l.length ∧ cmpL (l.getD i []) x = 0 then l else l.take i ++ [x] ++ l.drop i
 | [], i, hi, _, _ => by
  have : i = 0 := by simpa using hi
  subst this
  simp [putM]
 | y :: l, 0, _, _, h2 => by
  have h3 : 0 ≤ cmpL y x := h2 0 (Nat.le_refl _) (by simp)
  simp only [putM]
  by_cases h0 : cmpL y x = 0
  ·rw [if_pos (cmpL_eq h0), if_pos ⟨by simp, h0⟩]
  ·have h4 : ¬ y = x := fun h => h0 (by rw [h, cmpL_self])
   have h5 := @cmpL_anti y x
   rw [if_neg h4, if_pos (by omega), if_neg (fun h => h0 h.2)]
   simp
 | y :: l, i + 1, hi, h1, h2 => by
  have h3 : cmpL y x < 0 := h1 0 (by omega)
  have h4 : ¬ y = x := fun h => by rw [h, cmpL_self] at h3; omega
  have h5 := @cmpL_anti y x
  have ih := putM_at (x := x) (l := l) (i := i) (by simpa using hi) (fun k hk => h1 (k + 1) (by omega)) (fun k h6 h7 => h2 (k + 1) (by omega) (by simpa using h7))
  simp only [putM]
  rw [if_neg h4, if_neg (by omega), ih]
  simp only [List.length_cons, List.getD_cons_succ, Nat.add_lt_add_iff_right]
  split
  ·rfl
  ·simp
theorem C_spec_l2Same (a b : List Int) (ha : a.length ≤ 1048576) (hb : b.length ≤ 1048576) (Q : List AV → Prop) : mc.C f_spec_l2Same [⟨L I, a⟩, ⟨L I, b⟩] Q = Q [⟨B, decide (a = b)⟩] := by
 refine Mc.Ends.c (mc.ends F_spec_l2Same ?_)
 generalize hK : decide (a = b) = K
 simp (contextual := true) (maxSteps := 1000000) (disch := omega) only [↓Sd, ↓So, ↓Sk, ↓den, ↓denA, Sa, Sb, Sc, Se, O1.d, O2.d, O3.d, cmI, arI, envOf, putN, ↓reduceIte, Nat.reduceLT, Nat.reduceSub, Nat.reduceAdd, Int.reduceAdd, Int.reduceEq, Int.reduceLT, Int.reduceLE, arr_pos, arr_neg, tr_spec_l2Same]
 refine ⟨fun g => by rw [← hK, decide_eq_false]; exact fun h => g (by rw [h]), fun g => ?_⟩
 refine lp_all (fun i => [⟨L I, a⟩, ⟨L I, b⟩, ⟨I, (i : Int)⟩]) (fun i => a.getD i 0 = b.getD i 0) a.length _ rfl ?_ ?_
 ·intro i hi
  have hno : ¬ a.getD i 0 = b.getD i 0 → false = K := fun h => by rw [← hK, decide_eq_false]; exact fun h1 => h (by rw [h1])
  simp (contextual := true) (maxSteps := 1000000) (disch := omega) only [↓Sd, ↓So, ↓Sk, ↓den, ↓denA, Sa, Sb, Sc, Se, O1.d, O2.d, O3.d, cmI, arI, envOf, putN, ↓reduceIte, Nat.reduceLT, Nat.reduceSub, Nat.reduceAdd, Int.reduceAdd, Int.reduceEq, Int.reduceLT, Int.reduceLE, arr_pos, arr_neg, ]
  exact hno
 ·intro h
  simp (contextual := true) (maxSteps := 1000000) (disch := omega) only [↓Sd, ↓So, ↓Sk, ↓den, ↓denA, Sa, Sb, Sc, Se, O1.d, O2.d, O3.d, cmI, arI, envOf, putN, ↓reduceIte, Nat.reduceLT, Nat.reduceSub, Nat.reduceAdd, Int.reduceAdd, Int.reduceEq, Int.reduceLT, Int.reduceLE, arr_pos, arr_neg, ]
  rw [← hK, decide_eq_true]
  refine List.ext_getElem (by omega) fun i h1 h2 => ?_
  have := h i h1
  rwa [getD_lt h1, getD_lt h2] at this
theorem C_spec_l2Less (a b : List Int) (ha : a.length ≤ 1048576) (hb : b.length ≤ 1048576) (Q : List AV → Prop) : mc.C f_spec_l2Less [⟨L I, a⟩, ⟨L I, b⟩] Q = Q [⟨B, decide (cmpL a b < 0)⟩] := by
 refine Mc.Ends.c (mc.ends F_spec_l2Less ?_)
 generalize hK : decide (cmpL a b < 0) = K
 simp (contextual := true) (maxSteps := 1000000) (disch := omega) only [↓Sd, ↓So, ↓Sk, ↓den, ↓denA, Sa, Sb, Sc, Se, O1.d, O2.d, O3.d, cmI, arI, envOf, putN, ↓reduceIte, Nat.reduceLT, Nat.reduceSub, Nat.reduceAdd, Int.reduceAdd, Int.reduceEq, Int.reduceLT, Int.reduceLE, arr_pos, arr_neg, tr_spec_l2Less]
 refine mc.wp_join (fun us => us = [⟨L I, a⟩, ⟨L I, b⟩] ∧ K = decide (a.length < b.length)) ?_ ?_
 ·simp (contextual := true) (maxSteps := 1000000) (disch := omega) only [↓Sd, ↓So, ↓Sk, ↓den, ↓denA, Sa, Sb, Sc, Se, O1.d, O2.d, O3.d, cmI, arI, envOf, putN, ↓reduceIte, Nat.reduceLT, Nat.reduceSub, Nat.reduceAdd, Int.reduceAdd, Int.reduceEq, Int.reduceLT, Int.reduceLE, arr_pos, arr_neg, ]
  refine mc.lp_for Unit (fun i _ => [⟨L I, a⟩, ⟨L I, b⟩, ⟨I, (i : Int)⟩]) (fun i _ => i ≤ b.length ∧ cmpL (a.drop i) (b.drop i) = cmpL a b) a.length 0 () _ rfl (Nat.zero_le _) ⟨Nat.zero_le _, rfl⟩ ?_ ?_
  ·rintro i - hi ⟨h1, h2⟩
   simp (contextual := true) (maxSteps := 1000000) (disch := omega) only [↓Sd, ↓So, ↓Sk, ↓den, ↓denA, Sa, Sb, Sc, Se, O1.d, O2.d, O3.d, cmI, arI, envOf, putN, ↓reduceIte, Nat.reduceLT, Nat.reduceSub, Nat.reduceAdd, Int.reduceAdd, Int.reduceEq, Int.reduceLT, Int.reduceLE, arr_pos, arr_neg, ]
   refine ⟨fun h => ?_, fun h => ?_⟩
   ·have h3 : i < b.length := by omega
    rw [cmpL_drop hi h3] at h2
    refine ⟨fun h4 => ?_, fun h4 => ⟨h3, ?_⟩⟩
    ·rw [← hK, ← h2]
     by_cases h5 : a.getD i 0 < b.getD i 0
     ·rw [if_pos h5, decide_eq_true h5]; rfl
     ·rw [if_neg h5, if_pos (by omega), decide_eq_false h5]; rfl
    ·rw [if_neg (by omega), if_neg (by omega)] at h2; exact h2
   ·have h3 : i = b.length := by omega
    subst h3
    rw [List.drop_length, drop_cons (d := 0) hi] at h2
    rw [← hK, ← h2, decide_eq_false (by simp [cmpL]), decide_eq_false (by omega)]
  ·rintro - ⟨h1, h2⟩
   rw [List.drop_length] at h2
   simp (contextual := true) (maxSteps := 1000000) (disch := omega) only [↓Sd, ↓So, ↓Sk, ↓den, ↓denA, Sa, Sb, Sc, Se, O1.d, O2.d, O3.d, cmI, arI, envOf, putN, ↓reduceIte, Nat.reduceLT, Nat.reduceSub, Nat.reduceAdd, Int.reduceAdd, Int.reduceEq, Int.reduceLT, Int.reduceLE, arr_pos, arr_neg, ]
   rw [← hK, ← h2]
   by_cases h3 : a.length < b.length
   ·rw [decide_eq_true h3, drop_cons (d := 0) h3]; rfl
   ·rw [decide_eq_false h3, List.drop_eq_nil_of_le (by omega)]; rfl
 ·rintro _ ⟨rfl, h⟩
  simp (contextual := true) (maxSteps := 1000000) (disch := omega) only [↓Sd, ↓So, ↓Sk, ↓den, ↓denA, Sa, Sb, Sc, Se, O1.d, O2.d, O3.d, cmI, arI, envOf, putN, ↓reduceIte, Nat.reduceLT, Nat.reduceSub, Nat.reduceAdd, Int.reduceAdd, Int.reduceEq, Int.reduceLT, Int.reduceLE, arr_pos, arr_neg, ]
  rw [h]
  exact decide_eq_decide.2 Int.ofNat_lt
theorem C_cmp_isNaN_int (a : Int) (Q : List AV → Prop) : mc.C f_cmp_isNaN_int [⟨I, a⟩] Q = Q [⟨B, false⟩] := by
 refine Mc.Ends.c (mc.ends F_cmp_isNaN_int ?_)
 simp (contextual := true) (maxSteps := 1000000) (disch := omega) only [↓Sd, ↓So, ↓Sk, ↓den, ↓denA, Sa, Sb, Sc, Se, O1.d, O2.d, O3.d, cmI, arI, envOf, putN, ↓reduceIte, Nat.reduceLT, Nat.reduceSub, Nat.reduceAdd, Int.reduceAdd, Int.reduceEq, Int.reduceLT, Int.reduceLE, arr_pos, arr_neg, tr_cmp_isNaN_int]
 simp
theorem C_cmp_Compare_int (a b : Int) (Q : List AV → Prop) : mc.C f_cmp_Compare_int [⟨I, a⟩, ⟨I, b⟩] Q = Q [⟨I, if a < b then -1 else if a > b then 1 else 0⟩] := by
 refine Mc.Ends.c (mc.ends F_cmp_Compare_int ?_)
 generalize hK : (if a < b then -1 else if a > b then 1 else 0 : Int) = K
 simp (contextual := true) (maxSteps := 1000000) (disch := omega) only [↓Sd, ↓So, ↓Sk, ↓den, ↓denA, Sa, Sb, Sc, Se, O1.d, O2.d, O3.d, cmI, arI, envOf, putN, ↓reduceIte, Nat.reduceLT, Nat.reduceSub, Nat.reduceAdd, Int.reduceAdd, Int.reduceEq, Int.reduceLT, Int.reduceLE, arr_pos, arr_neg, tr_cmp_Compare_int, C_cmp_isNaN_int]
 grind
theorem C_slices_Compare (a b : List Int) (ha : a.length ≤ 1048576) (hb : b.length ≤ 1048576) (Q : List AV → Prop) : mc.C f_slices_Compare_Sint_int [⟨L I, a⟩, ⟨L I, b⟩] Q = Q [⟨I, cmpL a b⟩] := by
 refine Mc.Ends.c (mc.ends F_slices_Compare_Sint_int ?_)
 generalize hK : cmpL a b = K
 simp (contextual := true) (maxSteps := 1000000) (disch := omega) only [↓Sd, ↓So, ↓Sk, ↓den, ↓denA, Sa, Sb, Sc, Se, O1.d, O2.d, O3.d, cmI, arI, envOf, putN, ↓reduceIte, Nat.reduceLT, Nat.reduceSub, Nat.reduceAdd, Int.reduceAdd, Int.reduceEq, Int.reduceLT, Int.reduceLE, arr_pos, arr_neg, tr_slices_Compare_Sint_int]
 refine mc.lp_for Unit (fun i _ => [⟨L I, a⟩, ⟨L I, b⟩, ⟨L I, a⟩, ⟨I, (a.length : Int)⟩, ⟨I, (i : Int)⟩]) (fun i _ => i ≤ b.length ∧ cmpL (a.drop i) (b.drop i) = K) a.length 0 () _ rfl (Nat.zero_le _) ⟨Nat.zero_le _, hK⟩ ?_ ?_
 ·rintro i - hi ⟨h1, h2⟩
  simp (contextual := true) (maxSteps := 1000000) (disch := omega) only [↓Sd, ↓So, ↓Sk, ↓den, ↓denA, Sa, Sb, Sc, Se, O1.d, O2.d, O3.d, cmI, arI, envOf, putN, ↓reduceIte, Nat.reduceLT, Nat.reduceSub, Nat.reduceAdd, Int.reduceAdd, Int.reduceEq, Int.reduceLT, Int.reduceLE, arr_pos, arr_neg, C_cmp_Compare_int]
  refine ⟨fun h => ?_, fun h => ?_⟩
  ·have h3 : i = b.length := by omega
   subst h3
   rw [List.drop_length, drop_cons (d := 0) hi] at h2
   rw [← h2]; rfl
  ·have h3 : i < b.length := by omega
   rw [cmpL_drop hi h3] at h2
   refine ⟨fun h4 => ?_, fun h4 => ⟨h3, ?_⟩⟩
   ·rw [← h2]
    by_cases h5 : a.getD i 0 < b.getD i 0
    ·rw [if_pos h5, if_pos h5]
    ·by_cases h6 : a.getD i 0 > b.getD i 0
     ·rw [if_neg h5, if_pos h6, if_neg h5, if_pos h6]
     ·rw [if_neg h5, if_neg h6] at h4; exact absurd rfl h4
   ·by_cases h5 : a.getD i 0 < b.getD i 0
    ·rw [if_pos h5] at h4; omega
    ·by_cases h6 : a.getD i 0 > b.getD i 0
     ·rw [if_neg h5, if_pos h6] at h4; omega
     ·rw [if_neg h5, if_neg h6] at h2; exact h2
 ·rintro - ⟨h1, h2⟩
  rw [List.drop_length] at h2
  simp (contextual := true) (maxSteps := 1000000) (disch := omega) only [↓Sd, ↓So, ↓Sk, ↓den, ↓denA, Sa, Sb, Sc, Se, O1.d, O2.d, O3.d, cmI, arI, envOf, putN, ↓reduceIte, Nat.reduceLT, Nat.reduceSub, Nat.reduceAdd, Int.reduceAdd, Int.reduceEq, Int.reduceLT, Int.reduceLE, arr_pos, arr_neg, ]
  refine ⟨fun h => ?_, fun h => ?_⟩
  ·rw [← h2, drop_cons (d := 0) (by omega)]; rfl
  ·rw [← h2, List.drop_eq_nil_of_le (by omega)]; rfl
theorem C_spec_l2Put (l : List (List Int)) (x : List Int) (hl : l.length ≤ 1048576) (hx : x.length ≤ 1048576) (hs : ∀ y ∈ l, y.length ≤ 1048576) (Q : List AV → Prop) : mc.C f_spec_l2Put [⟨L (L I), l⟩, ⟨L I, x⟩] Q = Q [⟨L (L I), putM x l⟩] := by
 refine Mc.Ends.c (mc.ends F_spec_l2Put ?_)
 generalize hK : putM x l = K
 simp (contextual := true) (maxSteps := 1000000) (disch := omega) only [↓Sd, ↓So, ↓Sk, ↓den, ↓denA, Sa, Sb, Sc, Se, O1.d, O2.d, O3.d, cmI, arI, envOf, putN, ↓reduceIte, Nat.reduceLT, Nat.reduceSub, Nat.reduceAdd, Int.reduceAdd, Int.reduceEq, Int.reduceLT, Int.reduceLE, arr_pos, arr_neg, tr_spec_l2Put]
 refine mc.lp_for (Bool × List (List Int)) (fun i s => [⟨L (L I), l⟩, ⟨L I, x⟩, ⟨B, s.1⟩, ⟨I, (i : Int)⟩, ⟨L (L I), s.2⟩]) (fun i s => s.2.length ≤ i + s.1.toNat ∧ (s.1 = true → s.2 ++ l.drop i = K) ∧ (s.1 = false → s.2 ++ putM x (l.drop i) = K)) l.length 0 (false, []) _ rfl (Nat.zero_le _) ⟨by simp, by simp, fun _ => hK⟩ ?_ ?_
 ·rintro i ⟨d, o⟩ hi ⟨h1, h2, h3⟩
  have hy := hs _ (getD_mem (d := []) hi)
  rw [drop_cons (d := []) hi] at h2 h3
  obtain ⟨y, hg⟩ : ∃ y, l.getD i [] = y := ⟨_, rfl⟩
  rw [hg] at h2 h3 hy
  simp only at h1 h2 h3
  have h4 : (o.length : Int) ≤ 1048577 := by cases d <;> simp at h1 <;> omega
  cases d with
  | true =>
   have h2 := h2 rfl
   simp (contextual := true) (maxSteps := 1000000) (disch := omega) only [↓Sd, ↓So, ↓Sk, ↓den, ↓denA, Sa, Sb, Sc, Se, O1.d, O2.d, O3.d, cmI, arI, envOf, putN, ↓reduceIte, Nat.reduceLT, Nat.reduceSub, Nat.reduceAdd, Int.reduceAdd, Int.reduceEq, Int.reduceLT, Int.reduceLE, arr_pos, arr_neg, ↓wpJoin, hg]
   exact ⟨(true, o ++ [y]), ⟨rfl, rfl⟩, by simp at h1 ⊢; omega, fun _ => by rw [← h2]; simp, fun h => by cases h⟩
  | false =>
   have h3 := h3 rfl
   simp only [putM] at h3
   simp (contextual := true) (maxSteps := 1000000) (disch := omega) only [↓Sd, ↓So, ↓Sk, ↓den, ↓denA, Sa, Sb, Sc, Se, O1.d, O2.d, O3.d, cmI, arI, envOf, putN, ↓reduceIte, Nat.reduceLT, Nat.reduceSub, Nat.reduceAdd, Int.reduceAdd, Int.reduceEq, Int.reduceLT, Int.reduceLE, arr_pos, arr_neg, ↓wpJoin, hg, C_spec_l2Same y x hy hx, C_spec_l2Less x y hx hy]
   refine ⟨fun h => ?_, fun h => ⟨fun h5 => ?_, fun h5 => ?_⟩⟩
   ·rw [if_pos h] at h3
    exact ⟨(true, o ++ [x]), ⟨rfl, rfl⟩, by simp at h1 ⊢; omega, fun _ => by rw [← h3, ← h]; simp, fun h => by cases h⟩
   ·rw [if_neg h, if_pos h5] at h3
    exact ⟨(true, o ++ [x] ++ [y]), ⟨rfl, rfl⟩, by simp at h1 ⊢; omega, fun _ => by rw [← h3]; simp, fun h => by cases h⟩
   ·rw [if_neg h, if_neg h5] at h3
    exact ⟨(false, o ++ [y]), ⟨rfl, rfl⟩, by simp at h1 ⊢; omega, fun h => (nomatch h), fun _ => by rw [← h3]; simp⟩
 ·rintro ⟨d, o⟩ ⟨h1, h2, h3⟩
  simp only [List.drop_length] at h1 h2 h3
  have h4 : (o.length : Int) ≤ 1048577 := by cases d <;> simp at h1 <;> omega
  cases d with
  | true => simp (contextual := true) (maxSteps := 1000000) (disch := omega) only [↓Sd, ↓So, ↓Sk, ↓den, ↓denA, Sa, Sb, Sc, Se, O1.d, O2.d, O3.d, cmI, arI, envOf, putN, ↓reduceIte, Nat.reduceLT, Nat.reduceSub, Nat.reduceAdd, Int.reduceAdd, Int.reduceEq, Int.reduceLT, Int.reduceLE, arr_pos, arr_neg, ↓wpJoin, ]; simpa using h2 rfl
  | false => simp (contextual := true) (maxSteps := 1000000) (disch := omega) only [↓Sd, ↓So, ↓Sk, ↓den, ↓denA, Sa, Sb, Sc, Se, O1.d, O2.d, O3.d, cmI, arI, envOf, putN, ↓reduceIte, Nat.reduceLT, Nat.reduceSub, Nat.reduceAdd, Int.reduceAdd, Int.reduceEq, Int.reduceLT, Int.reduceLE, arr_pos, arr_neg, ↓wpJoin, ]; simpa [putM] using h3 rfl
def nxtN (s : Sy) (st : List Int) : Nat → List (List Int)
 | 0 => []
 | k + 1 => if useM s.1 (s.2.getD k ([], [], [])) st = [] then nxtN s st k else putM (useM s.1 (s.2.getD k ([], [], [])) st) (nxtN s st k)
def nxt (s : Sy) (st : List Int) : List (List Int) := nxtN s st s.2.length
theorem nxtN_len {s : Sy} {st : List Int} : ∀ {k : Nat}, (nxtN s st k).length ≤ k
 | 0 => Nat.le_refl _
 | k + 1 => by
  have := @nxtN_len s st k
  simp only [nxtN]
  split
  ·omega
  ·exact Nat.le_trans putM_len (by omega)
theorem nxtN_asc {s : Sy} {st : List Int} : ∀ {k : Nat}, Asc (nxtN s st k)
 | 0 => List.Pairwise.nil
 | k + 1 => by
  simp only [nxtN]
  split
  ·exact nxtN_asc
  ·exact putM_asc nxtN_asc
theorem nxtN_in {s : Sy} {st : List Int} : ∀ {k : Nat}, ∀ x ∈ nxtN s st k, inR s.1 x
 | 0, x, h => by simp [nxtN] at h
 | k + 1, x, h => by
  simp only [nxtN] at h
  split at h
  ·exact nxtN_in x h
  ·rename_i h1
   rcases putM_mem h with rfl | h
   ·exact useM_in h1
   ·exact nxtN_in x h
theorem C_spec_l2Next (s : Sy) (st : List Int) (h : valid s) (hst : inR s.1 st) (Q : List AV → Prop) : mc.C f_spec_l2Next [⟨L V3, s.1⟩, ⟨L TR, s.2⟩, ⟨L I, st⟩] Q = Q [⟨L (L I), nxt s st⟩] := by
 have h8 := h.2.1
 have h5 := h.1.2
 refine Mc.Ends.c (mc.ends F_spec_l2Next ?_)
 simp (contextual := true) (maxSteps := 1000000) (disch := omega) only [↓Sd, ↓So, ↓Sk, ↓den, ↓denA, Sa, Sb, Sc, Se, O1.d, O2.d, O3.d, cmI, arI, envOf, putN, ↓reduceIte, Nat.reduceLT, Nat.reduceSub, Nat.reduceAdd, Int.reduceAdd, Int.reduceEq, Int.reduceLT, Int.reduceLE, arr_pos, arr_neg, tr_spec_l2Next]
 refine mc.lp_for (List (List Int)) (fun i o => [⟨L I, st⟩, ⟨I, (i : Int)⟩, ⟨L V3, s.1⟩, ⟨L TR, s.2⟩, ⟨L (L I), o⟩]) (fun i o => o = nxtN s st i) s.2.length 0 [] _ rfl (Nat.zero_le _) rfl ?_ ?_
 ·rintro i o hi rfl
  have h1 := @nxtN_len s st i
  have hin : ∀ x ∈ nxtN s st i, x.length ≤ 1048576 := fun x hx => by have := (nxtN_in x hx).1; omega
  have hu : (useM s.1 (s.2.getD i ([], [], [])) st).length ≤ 1048576 := by
   by_cases h0 : useM s.1 (s.2.getD i ([], [], [])) st = []
   ·rw [h0]; simp
   ·have := (useM_in h0).1; omega
  simp (contextual := true) (maxSteps := 1000000) (disch := omega) only [↓Sd, ↓So, ↓Sk, ↓den, ↓denA, Sa, Sb, Sc, Se, O1.d, O2.d, O3.d, cmI, arI, envOf, putN, ↓reduceIte, Nat.reduceLT, Nat.reduceSub, Nat.reduceAdd, Int.reduceAdd, Int.reduceEq, Int.reduceLT, Int.reduceLE, arr_pos, arr_neg, ↓wpJoin, C_spec_l2Use s st i h hst hi, C_spec_l2Put _ _ (Nat.le_trans h1 (by omega)) hu hin]
  simp only [nxtN]
  refine ⟨fun g => ?_, fun g => ?_⟩
  ·rw [if_neg (fun h0 => by rw [h0] at g; simp at g)]
  ·rw [if_pos (List.eq_nil_of_length_eq_zero (by omega))]
 ·rintro o rfl
  simp (contextual := true) (maxSteps := 1000000) (disch := omega) only [↓Sd, ↓So, ↓Sk, ↓den, ↓denA, Sa, Sb, Sc, Se, O1.d, O2.d, O3.d, cmI, arI, envOf, putN, ↓reduceIte, Nat.reduceLT, Nat.reduceSub, Nat.reduceAdd, Int.reduceAdd, Int.reduceEq, Int.reduceLT, Int.reduceLE, arr_pos, arr_neg, ]
  rfl
theorem C_impl_clone_Sint (l : List (List Int)) (hl : l.length ≤ 1048576) (Q : List AV → Prop) : mc.C f_impl_clone_Sint [⟨L (L I), l⟩] Q = Q [⟨L (L I), l⟩] := by
 refine Mc.Ends.c (mc.ends F_impl_clone_Sint ?_)
 simp (contextual := true) (maxSteps := 1000000) (disch := omega) only [↓Sd, ↓So, ↓Sk, ↓den, ↓denA, Sa, Sb, Sc, Se, O1.d, O2.d, O3.d, cmI, arI, envOf, putN, ↓reduceIte, Nat.reduceLT, Nat.reduceSub, Nat.reduceAdd, Int.reduceAdd, Int.reduceEq, Int.reduceLT, Int.reduceLE, arr_pos, arr_neg, tr_impl_clone_Sint, overL_rep]
 intro h
 exact (List.eq_nil_of_length_eq_zero (by omega)).symm
theorem Asc.lt {l : List (List Int)} (h : Asc l) {i j : Nat} (hij : i < j) (hj : j < l.length) : cmpL (l.getD i []) (l.getD j []) < 0 := by
 rw [getD_lt (by omega), getD_lt hj]
 exact List.pairwise_iff_getElem.1 h i j (by omega) hj hij
theorem C_impl_nextStates (s : Sy) (st : List Int) (h : valid s) (hst : inR s.1 st) (Q : List AV → Prop) : mc.C f_impl_nextStates [⟨L V3, s.1⟩, ⟨L TR, s.2⟩, ⟨L I, st⟩] Q = Q [⟨L (L I), nxt s st⟩] := by
 have h8 := h.2.1
 have h5 := h.1.2
 refine Mc.Ends.c (mc.ends F_impl_nextStates ?_)
 simp (contextual := true) (maxSteps := 1000000) (disch := omega) only [↓Sd, ↓So, ↓Sk, ↓den, ↓denA, Sa, Sb, Sc, Se, O1.d, O2.d, O3.d, cmI, arI, envOf, putN, ↓reduceIte, Nat.reduceLT, Nat.reduceSub, Nat.reduceAdd, Int.reduceAdd, Int.reduceEq, Int.reduceLT, Int.reduceLE, arr_pos, arr_neg, tr_impl_nextStates]
 refine mc.lp_for (List (List Int)) (fun i o => [⟨L I, st⟩, ⟨I, (s.2.length : Int)⟩, ⟨I, (i : Int)⟩, ⟨L V3, s.1⟩, ⟨L TR, s.2⟩, ⟨L (L I), o⟩]) (fun i o => o = nxtN s st i) s.2.length 0 [] _ rfl (Nat.zero_le _) rfl ?_ ?_
 ·rintro i o hi rfl
  have h1 := @nxtN_len s st i
  have hin : ∀ x ∈ nxtN s st i, x.length ≤ 1048576 := fun x hx => by have := (nxtN_in x hx).1; omega
  have hasc := @nxtN_asc s st i
  simp (contextual := true) (maxSteps := 1000000) (disch := omega) only [↓Sd, ↓So, ↓Sk, ↓den, ↓denA, Sa, Sb, Sc, Se, O1.d, O2.d, O3.d, cmI, arI, envOf, putN, ↓reduceIte, Nat.reduceLT, Nat.reduceSub, Nat.reduceAdd, Int.reduceAdd, Int.reduceEq, Int.reduceLT, Int.reduceLE, arr_pos, arr_neg, ]
  refine mc.wp_join (fun us => us = [⟨L I, st⟩, ⟨I, (s.2.length : Int)⟩, ⟨I, (i : Int)⟩, ⟨L V3, s.1⟩, ⟨L TR, s.2⟩, ⟨L (L I), nxtN s st (i + 1)⟩]) ?_ ?_
  ·simp (contextual := true) (maxSteps := 1000000) (disch := omega) only [↓Sd, ↓So, ↓Sk, ↓den, ↓denA, Sa, Sb, Sc, Se, O1.d, O2.d, O3.d, cmI, arI, envOf, putN, ↓reduceIte, Nat.reduceLT, Nat.reduceSub, Nat.reduceAdd, Int.reduceAdd, Int.reduceEq, Int.reduceLT, Int.reduceLE, arr_pos, arr_neg, C_impl_use s st i h hst hi]
   simp only [nxtN]
   refine ⟨fun g => ?_, fun g => ?_⟩
   ·rw [if_neg g]
    have hu : (useM s.1 (s.2.getD i ([], [], [])) st).length ≤ 1048576 := by have := (useM_in g).1; omega
    generalize useM s.1 (s.2.getD i ([], [], [])) st = x at *
    generalize nxtN s st i = l at *
    refine mc.wp_join (fun us => ∃ at' : Nat, at' ≤ l.length ∧ (∀ k, k < at' → cmpL (l.getD k []) x < 0) ∧ (∀ k, at' ≤ k → k < l.length → 0 ≤ cmpL (l.getD k []) x) ∧
     us = [⟨L I, st⟩, ⟨I, (at' : Int)⟩, ⟨B, decide (at' < l.length ∧ cmpL (l.getD at' []) x = 0)⟩, ⟨I, (s.2.length : Int)⟩, ⟨I, (i : Int)⟩, ⟨L V3, s.1⟩, ⟨L TR, s.2⟩, ⟨L (L I), l⟩, ⟨L I, x⟩]) ?_ ?_
    ·simp (contextual := true) (maxSteps := 1000000) (disch := omega) only [↓Sd, ↓So, ↓Sk, ↓den, ↓denA, Sa, Sb, Sc, Se, O1.d, O2.d, O3.d, cmI, arI, envOf, putN, ↓reduceIte, Nat.reduceLT, Nat.reduceSub, Nat.reduceAdd, Int.reduceAdd, Int.reduceEq, Int.reduceLT, Int.reduceLE, arr_pos, arr_neg, ]
     refine mc.lp_inv (fun k us => ∃ lo hi : Nat, k = hi - lo ∧ lo ≤ hi ∧ hi ≤ l.length ∧ (∀ k, k < lo → cmpL (l.getD k []) x < 0) ∧ (∀ k, hi ≤ k → k < l.length → 0 ≤ cmpL (l.getD k []) x) ∧
      us = [⟨I, (l.length : Int)⟩, ⟨I, (lo : Int)⟩, ⟨I, (hi : Int)⟩, ⟨L I, st⟩, ⟨I, (s.2.length : Int)⟩, ⟨I, (i : Int)⟩, ⟨L (L I), l⟩, ⟨L I, x⟩, ⟨L V3, s.1⟩, ⟨L TR, s.2⟩]) l.length _ ⟨0, l.length, rfl, Nat.zero_le _, Nat.le_refl _, fun k hk => absurd hk (Nat.not_lt_zero _), fun k h1 h2 => absurd h1 (by omega), rfl⟩ ?_
     rintro k us ⟨lo, hi, rfl, a1, a2, a3, a4, rfl⟩
     obtain ⟨m, hm⟩ : ∃ m : Nat, ((lo : Int) + hi) / 2 = m := ⟨((lo + hi) / 2), by omega⟩
     have hc : ∀ n, n < l.length → ∀ Q, mc.C f_slices_Compare_Sint_int [⟨L I, l.getD n []⟩, ⟨L I, x⟩] Q = Q [⟨I, cmpL (l.getD n []) x⟩] := fun n hn Q => C_slices_Compare _ _ (hin _ (getD_mem hn)) hu Q
     simp (contextual := true) (maxSteps := 1000000) (disch := omega) only [↓Sd, ↓So, ↓Sk, ↓den, ↓denA, Sa, Sb, Sc, Se, O1.d, O2.d, O3.d, cmI, arI, envOf, putN, ↓reduceIte, Nat.reduceLT, Nat.reduceSub, Nat.reduceAdd, Int.reduceAdd, Int.reduceEq, Int.reduceLT, Int.reduceLE, arr_pos, arr_neg, hm]
     refine ⟨fun g1 => ?_, fun g1 => ⟨fun g2 => ?_, fun g2 => ?_⟩⟩
     ·rw [hc m (by omega)]
      simp (contextual := true) (maxSteps := 1000000) (disch := omega) only [↓Sd, ↓So, ↓Sk, ↓den, ↓denA, Sa, Sb, Sc, Se, O1.d, O2.d, O3.d, cmI, arI, envOf, putN, ↓reduceIte, Nat.reduceLT, Nat.reduceSub, Nat.reduceAdd, Int.reduceAdd, Int.reduceEq, Int.reduceLT, Int.reduceLE, arr_pos, arr_neg, hm]
      refine ⟨fun g2 => ⟨hi - (m + 1), by omega, m + 1, hi, rfl, by omega, a2, fun k hk => ?_, a4, rfl, rfl⟩, fun g2 => ⟨m - lo, by omega, lo, m, rfl, by omega, by omega, a3, fun k hk1 hk2 => ?_, rfl, rfl⟩⟩
      ·rcases Nat.lt_succ_iff_lt_or_eq.1 hk with h3 | rfl
       ·exact cmpL_trans (hasc.lt h3 (by omega)) g2
       ·exact g2
      ·rcases Nat.lt_or_eq_of_le hk1 with h3 | rfl
       ·exact Classical.byContradiction fun h4 => g2 (cmpL_trans (hasc.lt h3 hk2) (by omega))
       ·omega
     ·rw [hc lo (by omega)]
      simp (contextual := true) (maxSteps := 1000000) (disch := omega) only [↓Sd, ↓So, ↓Sk, ↓den, ↓denA, Sa, Sb, Sc, Se, O1.d, O2.d, O3.d, cmI, arI, envOf, putN, ↓reduceIte, Nat.reduceLT, Nat.reduceSub, Nat.reduceAdd, Int.reduceAdd, Int.reduceEq, Int.reduceLT, Int.reduceLE, arr_pos, arr_neg, ]
      refine ⟨lo, by omega, a3, fun k hk1 hk2 => a4 k (by omega) hk2, rfl, ?_⟩
      have : lo < l.length := by omega
      simp [this]
      rfl
     ·refine ⟨lo, by omega, a3, fun k hk1 hk2 => a4 k (by omega) hk2, rfl, ?_⟩
      have : ¬ lo < l.length := by omega
      simp [this]
    ·rintro _ ⟨at', b1, b2, b3, rfl⟩
     simp (contextual := true) (maxSteps := 1000000) (disch := omega) only [↓Sd, ↓So, ↓Sk, ↓den, ↓denA, Sa, Sb, Sc, Se, O1.d, O2.d, O3.d, cmI, arI, envOf, putN, ↓reduceIte, Nat.reduceLT, Nat.reduceSub, Nat.reduceAdd, Int.reduceAdd, Int.reduceEq, Int.reduceLT, Int.reduceLE, arr_pos, arr_neg, ]
     rw [putM_at b1 b2 b3]
     refine ⟨fun g1 => by rw [if_neg g1], fun g1 => by rw [if_pos g1]⟩
   ·rw [if_pos (by simpa using g)]
  ·rintro _ rfl
   simp (contextual := true) (maxSteps := 1000000) (disch := omega) only [↓Sd, ↓So, ↓Sk, ↓den, ↓denA, Sa, Sb, Sc, Se, O1.d, O2.d, O3.d, cmI, arI, envOf, putN, ↓reduceIte, Nat.reduceLT, Nat.reduceSub, Nat.reduceAdd, Int.reduceAdd, Int.reduceEq, Int.reduceLT, Int.reduceLE, arr_pos, arr_neg, ]
 ·rintro o rfl
  simp (contextual := true) (maxSteps := 1000000) (disch := omega) only [↓Sd, ↓So, ↓Sk, ↓den, ↓denA, Sa, Sb, Sc, Se, O1.d, O2.d, O3.d, cmI, arI, envOf, putN, ↓reduceIte, Nat.reduceLT, Nat.reduceSub, Nat.reduceAdd, Int.reduceAdd, Int.reduceEq, Int.reduceLT, Int.reduceLE, arr_pos, arr_neg, C_impl_clone_Sint (nxtN s st s.2.length) (Nat.le_trans nxtN_len (by omega))]
  rfl
def fst0 (l : List Vr) : List Int := l.map (·.2.2)
theorem fst0_in {l : List Vr} (hv : ∀ v ∈ l, vOk v) : inR l (fst0 l) := by
 refine ⟨by simp [fst0], fun i hi => ?_⟩
 have h := hv _ (getD_mem (d := (0, 0, 0)) hi)
 have e : (fst0 l).getD i 0 = (l.getD i (0, 0, 0)).2.2 := by simp [fst0, hi]
 rw [e]
 unfold vOk at h
 omega
theorem fst0_next {l : List Vr} {i : Nat} (hi : i < l.length) : fst0 (l.take i) ++ [(l.getD i (0, 0, 0)).2.2] = fst0 (l.take (i + 1)) := by
 rw [← take_next (d := (0, 0, 0)) hi]; simp [fst0]
theorem C_impl_first (s : Sy) (h : s.1.length ≤ 5) (Q : List AV → Prop) : mc.C f_impl_first [⟨L V3, s.1⟩, ⟨L TR, s.2⟩] Q = Q [⟨L I, fst0 s.1⟩] := by
 refine Mc.Ends.c (mc.ends F_impl_first ?_)
 simp (contextual := true) (maxSteps := 1000000) (disch := omega) only [↓Sd, ↓So, ↓Sk, ↓den, ↓denA, Sa, Sb, Sc, Se, O1.d, O2.d, O3.d, cmI, arI, envOf, putN, ↓reduceIte, Nat.reduceLT, Nat.reduceSub, Nat.reduceAdd, Int.reduceAdd, Int.reduceEq, Int.reduceLT, Int.reduceLE, arr_pos, arr_neg, tr_impl_first]
 refine mc.lp_for (List Int) (fun i o => [⟨L V3, s.1⟩, ⟨I, (s.1.length : Int)⟩, ⟨I, (i : Int)⟩, ⟨L I, o⟩]) (fun i o => o = fst0 (s.1.take i)) s.1.length 0 [] _ rfl (Nat.zero_le _) rfl ?_ ?_
 ·rintro i o hi rfl
  have h1 : ((fst0 (s.1.take i)).length : Int) ≤ 5 := by simp [fst0]; omega
  simp (contextual := true) (maxSteps := 1000000) (disch := omega) only [↓Sd, ↓So, ↓Sk, ↓den, ↓denA, Sa, Sb, Sc, Se, O1.d, O2.d, O3.d, cmI, arI, envOf, putN, ↓reduceIte, Nat.reduceLT, Nat.reduceSub, Nat.reduceAdd, Int.reduceAdd, Int.reduceEq, Int.reduceLT, Int.reduceLE, arr_pos, arr_neg, ]
  exact fst0_next hi
 ·rintro o rfl
  rw [List.take_length]
  have h1 : (fst0 s.1).length ≤ 5 := by simp [fst0]; omega
  simp (contextual := true) (maxSteps := 1000000) (disch := omega) only [↓Sd, ↓So, ↓Sk, ↓den, ↓denA, Sa, Sb, Sc, Se, O1.d, O2.d, O3.d, cmI, arI, envOf, putN, ↓reduceIte, Nat.reduceLT, Nat.reduceSub, Nat.reduceAdd, Int.reduceAdd, Int.reduceEq, Int.reduceLT, Int.reduceLE, arr_pos, arr_neg, C_impl_clone_int (fst0 s.1) (by omega)]
theorem C_spec_FirstState (s : Sy) (hs : FewSy s) (hv : valid s) (Q : List AV → Prop) : mc.C f_spec_FirstState [⟨L V3, s.1⟩, ⟨L TR, s.2⟩] Q = Q [⟨L I, fst0 s.1⟩] := by
 have h := hv.1.2
 refine Mc.Ends.c (mc.ends F_spec_FirstState ?_)
 simp (contextual := true) (maxSteps := 1000000) (disch := omega) only [↓Sd, ↓So, ↓Sk, ↓den, ↓denA, Sa, Sb, Sc, Se, O1.d, O2.d, O3.d, cmI, arI, envOf, putN, ↓reduceIte, Nat.reduceLT, Nat.reduceSub, Nat.reduceAdd, Int.reduceAdd, Int.reduceEq, Int.reduceLT, Int.reduceLE, arr_pos, arr_neg, tr_spec_FirstState]
 refine mc.wp_join (fun us => us = [⟨L I, fst0 s.1⟩]) ?_ (by rintro _ rfl; simp (contextual := true) (maxSteps := 1000000) (disch := omega) only [↓Sd, ↓So, ↓Sk, ↓den, ↓denA, Sa, Sb, Sc, Se, O1.d, O2.d, O3.d, cmI, arI, envOf, putN, ↓reduceIte, Nat.reduceLT, Nat.reduceSub, Nat.reduceAdd, Int.reduceAdd, Int.reduceEq, Int.reduceLT, Int.reduceLE, arr_pos, arr_neg, ])
 simp (contextual := true) (maxSteps := 1000000) (disch := omega) only [↓Sd, ↓So, ↓Sk, ↓den, ↓denA, Sa, Sb, Sc, Se, O1.d, O2.d, O3.d, cmI, arI, envOf, putN, ↓reduceIte, Nat.reduceLT, Nat.reduceSub, Nat.reduceAdd, Int.reduceAdd, Int.reduceEq, Int.reduceLT, Int.reduceLE, arr_pos, arr_neg, ]
 refine mc.lp_for (List Int) (fun i o => [⟨I, (i : Int)⟩, ⟨L V3, s.1⟩, ⟨L TR, s.2⟩, ⟨L I, o⟩]) (fun i o => o = fst0 (s.1.take i)) s.1.length 0 [] _ rfl (Nat.zero_le _) rfl ?_ ?_
 ·rintro i o hi rfl
  have h1 : ((fst0 (s.1.take i)).length : Int) ≤ 5 := by simp [fst0]; omega
  simp (contextual := true) (maxSteps := 1000000) (disch := omega) only [↓Sd, ↓So, ↓Sk, ↓den, ↓denA, Sa, Sb, Sc, Se, O1.d, O2.d, O3.d, cmI, arI, envOf, putN, ↓reduceIte, Nat.reduceLT, Nat.reduceSub, Nat.reduceAdd, Int.reduceAdd, Int.reduceEq, Int.reduceLT, Int.reduceLE, arr_pos, arr_neg, C_spec_SystemValid s hs, hv]
  exact fst0_next hi
 ·rintro o rfl
  simp (contextual := true) (maxSteps := 1000000) (disch := omega) only [↓Sd, ↓So, ↓Sk, ↓den, ↓denA, Sa, Sb, Sc, Se, O1.d, O2.d, O3.d, cmI, arI, envOf, putN, ↓reduceIte, Nat.reduceLT, Nat.reduceSub, Nat.reduceAdd, Int.reduceAdd, Int.reduceEq, Int.reduceLT, Int.reduceLE, arr_pos, arr_neg, ]
  rw [List.take_length]
theorem C_spec_l3Copy (l : List Int) (hl : l.length ≤ 1048576) (Q : List AV → Prop) : mc.C f_spec_l3Copy [⟨L I, l⟩] Q = Q [⟨L I, l⟩] := by
 refine Mc.Ends.c (mc.ends F_spec_l3Copy ?_)
 simp (contextual := true) (maxSteps := 1000000) (disch := omega) only [↓Sd, ↓So, ↓Sk, ↓den, ↓denA, Sa, Sb, Sc, Se, O1.d, O2.d, O3.d, cmI, arI, envOf, putN, ↓reduceIte, Nat.reduceLT, Nat.reduceSub, Nat.reduceAdd, Int.reduceAdd, Int.reduceEq, Int.reduceLT, Int.reduceLE, arr_pos, arr_neg, tr_spec_l3Copy]
 refine mc.lp_for (List Int) (fun i o => [⟨L I, l⟩, ⟨I, (i : Int)⟩, ⟨L I, o⟩]) (fun i o => o = l.take i) l.length 0 [] _ rfl (Nat.zero_le _) rfl ?_ ?_
 ·rintro i o hi rfl
  have h1 : ((l.take i).length : Int) ≤ 1048576 := by rw [List.length_take]; omega
  simp (contextual := true) (maxSteps := 1000000) (disch := omega) only [↓Sd, ↓So, ↓Sk, ↓den, ↓denA, Sa, Sb, Sc, Se, O1.d, O2.d, O3.d, cmI, arI, envOf, putN, ↓reduceIte, Nat.reduceLT, Nat.reduceSub, Nat.reduceAdd, Int.reduceAdd, Int.reduceEq, Int.reduceLT, Int.reduceLE, arr_pos, arr_neg, ]
  exact take_next hi
 ·rintro o rfl
  simp (contextual := true) (maxSteps := 1000000) (disch := omega) only [↓Sd, ↓So, ↓Sk, ↓den, ↓denA, Sa, Sb, Sc, Se, O1.d, O2.d, O3.d, cmI, arI, envOf, putN, ↓reduceIte, Nat.reduceLT, Nat.reduceSub, Nat.reduceAdd, Int.reduceAdd, Int.reduceEq, Int.reduceLT, Int.reduceLE, arr_pos, arr_neg, ]
  rw [List.take_length]
def numN (l : List Vr) (st : List Int) : Nat → Int
 | 0 => 0
 | i + 1 => numN l st i * wd (l.getD i (0, 0, 0)) + st.getD i 0 - (l.getD i (0, 0, 0)).1
def num (l : List Vr) (st : List Int) : Int := numN l st l.length
theorem numN_bd {l : List Vr} {st : List Int} (hv : ∀ v ∈ l, vOk v) (hst : inR l st) : ∀ {i : Nat}, i ≤ l.length → 0 ≤ numN l st i ∧ numN l st i < sz (l.take i)
 | 0, _ => by simp [numN, sz]
 | i + 1, hi => by
  have ih := numN_bd hv hst (i := i) (by omega)
  have h1 := hst.2 i (by omega)
  have h2 := hv _ (getD_mem (d := (0, 0, 0)) (show i < l.length by omega))
  have h3 := wd_ok h2
  rw [sz_next (d := (0, 0, 0)) (by omega)]
  simp only [numN]
  have h4 : 0 ≤ numN l st i * wd (l.getD i (0, 0, 0)) := Int.mul_nonneg ih.1 (by omega)
  have h5 : (numN l st i + 1) * wd (l.getD i (0, 0, 0)) ≤ sz (l.take i) * wd (l.getD i (0, 0, 0)) := Int.mul_le_mul_of_nonneg_right (by omega) (by omega)
  rw [Int.add_mul, Int.one_mul] at h5
  have h6 : wd (l.getD i (0, 0, 0)) = (l.getD i (0, 0, 0)).2.1 - (l.getD i (0, 0, 0)).1 + 1 := rfl
  omega
theorem num_bd {l : List Vr} {st : List Int} (hv : ∀ v ∈ l, vOk v) (hst : inR l st) : 0 ≤ num l st ∧ num l st < sz l := by
 have := numN_bd hv hst (Nat.le_refl l.length)
 rwa [List.take_length] at this
theorem C_spec_l4Number (s : Sy) (st : List Int) (h5 : s.1.length ≤ 5) (hv : ∀ v ∈ s.1, vOk v) (hst : inR s.1 st) (Q : List AV → Prop) : mc.C f_spec_l4Number [⟨L V3, s.1⟩, ⟨L TR, s.2⟩, ⟨L I, st⟩] Q = Q [⟨I, num s.1 st⟩] := by
 have hl := hst.1
 refine Mc.Ends.c (mc.ends F_spec_l4Number ?_)
 simp (contextual := true) (maxSteps := 1000000) (disch := omega) only [↓Sd, ↓So, ↓Sk, ↓den, ↓denA, Sa, Sb, Sc, Se, O1.d, O2.d, O3.d, cmI, arI, envOf, putN, ↓reduceIte, Nat.reduceLT, Nat.reduceSub, Nat.reduceAdd, Int.reduceAdd, Int.reduceEq, Int.reduceLT, Int.reduceLE, arr_pos, arr_neg, tr_spec_l4Number]
 refine mc.lp_for Int (fun i n => [⟨L I, st⟩, ⟨I, n⟩, ⟨I, (i : Int)⟩, ⟨L V3, s.1⟩, ⟨L TR, s.2⟩]) (fun i n => n = numN s.1 st i) st.length 0 0 _ rfl (Nat.zero_le _) rfl ?_ ?_
 ·rintro i n hi rfl
  have h1 := numN_bd hv hst (i := i) (by omega)
  have h2 := sz_get (l := s.1) h5 (show i ≤ s.1.length by omega) fun j hj => hv _ (getD_mem (by omega))
  have h3 := hv _ (getD_mem (d := (0, 0, 0)) (show i < s.1.length by omega))
  have h4 := hst.2 i (by omega)
  have h6 : 0 ≤ numN s.1 st i * wd (s.1.getD i (0, 0, 0)) ∧ numN s.1 st i * wd (s.1.getD i (0, 0, 0)) ≤ 64000000 := by
   have a := wd_ok h3
   refine ⟨Int.mul_nonneg h1.1 (by omega), ?_⟩
   have := Int.mul_le_mul (show numN s.1 st i ≤ 3200000 by omega) a.2 (by omega) (by omega)
   omega
  unfold vOk at h3
  unfold wd at h6
  simp (contextual := true) (maxSteps := 1000000) (disch := omega) only [↓Sd, ↓So, ↓Sk, ↓den, ↓denA, Sa, Sb, Sc, Se, O1.d, O2.d, O3.d, cmI, arI, envOf, putN, ↓reduceIte, Nat.reduceLT, Nat.reduceSub, Nat.reduceAdd, Int.reduceAdd, Int.reduceEq, Int.reduceLT, Int.reduceLE, arr_pos, arr_neg, ]
  rfl
 ·rintro n rfl
  simp (contextual := true) (maxSteps := 1000000) (disch := omega) only [↓Sd, ↓So, ↓Sk, ↓den, ↓denA, Sa, Sb, Sc, Se, O1.d, O2.d, O3.d, cmI, arI, envOf, putN, ↓reduceIte, Nat.reduceLT, Nat.reduceSub, Nat.reduceAdd, Int.reduceAdd, Int.reduceEq, Int.reduceLT, Int.reduceLE, arr_pos, arr_neg, ]
  rw [hl]; rfl
theorem C_impl_number (s : Sy) (st : List Int) (h5 : s.1.length ≤ 5) (hv : ∀ v ∈ s.1, vOk v) (hst : inR s.1 st) (Q : List AV → Prop) : mc.C f_impl_number [⟨L V3, s.1⟩, ⟨L TR, s.2⟩, ⟨L I, st⟩] Q = Q [⟨I, num s.1 st⟩] := by
 have hl := hst.1
 refine Mc.Ends.c (mc.ends F_impl_number ?_)
 simp (contextual := true) (maxSteps := 1000000) (disch := omega) only [↓Sd, ↓So, ↓Sk, ↓den, ↓denA, Sa, Sb, Sc, Se, O1.d, O2.d, O3.d, cmI, arI, envOf, putN, ↓reduceIte, Nat.reduceLT, Nat.reduceSub, Nat.reduceAdd, Int.reduceAdd, Int.reduceEq, Int.reduceLT, Int.reduceLE, arr_pos, arr_neg, tr_impl_number]
 refine mc.lp_for Int (fun i n => [⟨L I, st⟩, ⟨I, n⟩, ⟨L V3, s.1⟩, ⟨I, (s.1.length : Int)⟩, ⟨I, (i : Int)⟩]) (fun i n => n = numN s.1 st i) s.1.length 0 0 _ rfl (Nat.zero_le _) rfl ?_ ?_
 ·rintro i n hi rfl
  have h1 := numN_bd hv hst (i := i) (by omega)
  have h2 := sz_get (l := s.1) h5 (show i ≤ s.1.length by omega) fun j hj => hv _ (getD_mem (by omega))
  have h3 := hv _ (getD_mem (d := (0, 0, 0)) (show i < s.1.length by omega))
  have h4 := hst.2 i (by omega)
  have h6 : 0 ≤ numN s.1 st i * wd (s.1.getD i (0, 0, 0)) ∧ numN s.1 st i * wd (s.1.getD i (0, 0, 0)) ≤ 64000000 := by
   have a := wd_ok h3
   refine ⟨Int.mul_nonneg h1.1 (by omega), ?_⟩
   have := Int.mul_le_mul (show numN s.1 st i ≤ 3200000 by omega) a.2 (by omega) (by omega)
   omega
  unfold vOk at h3
  unfold wd at h6
  simp (contextual := true) (maxSteps := 1000000) (disch := omega) only [↓Sd, ↓So, ↓Sk, ↓den, ↓denA, Sa, Sb, Sc, Se, O1.d, O2.d, O3.d, cmI, arI, envOf, putN, ↓reduceIte, Nat.reduceLT, Nat.reduceSub, Nat.reduceAdd, Int.reduceAdd, Int.reduceEq, Int.reduceLT, Int.reduceLE, arr_pos, arr_neg, ]
  rfl
 ·rintro n rfl
  simp (contextual := true) (maxSteps := 1000000) (disch := omega) only [↓Sd, ↓So, ↓Sk, ↓den, ↓denA, Sa, Sb, Sc, Se, O1.d, O2.d, O3.d, cmI, arI, envOf, putN, ↓reduceIte, Nat.reduceLT, Nat.reduceSub, Nat.reduceAdd, Int.reduceAdd, Int.reduceEq, Int.reduceLT, Int.reduceLE, arr_pos, arr_neg, ]
  rfl
def dg : List Vr → Int → Int × List Int
 | [], n => (n, [])
 | v :: l, n => ((dg l n).1 / wd v, (v.1 + (dg l n).1 % wd v) :: (dg l n).2)
def stAt (l : List Vr) (n : Int) : List Int := (dg l n).2
theorem dg_len : ∀ {l : List Vr} {n : Int}, (dg l n).2.length = l.length
 | [], n => rfl
 | v :: l, n => by simp [dg, dg_len]
theorem dg_bd {l : List Vr} {n : Int} (hv : ∀ v ∈ l, vOk v) (hn : 0 ≤ n ∧ n ≤ 3200000) : 0 ≤ (dg l n).1 ∧ (dg l n).1 ≤ 3200000 := by
 induction l with
 | nil => exact hn
 | cons v l ih =>
  have h := ih fun v hv' => hv v (List.mem_cons_of_mem _ hv')
  have h1 := wd_ok (hv v (List.mem_cons_self ..))
  simp only [dg]
  exact ⟨Int.ediv_nonneg h.1 (by omega), Int.le_trans (Int.ediv_le_self _ h.1) h.2⟩
theorem stAt_in {l : List Vr} {n : Int} (hv : ∀ v ∈ l, vOk v) (hn : 0 ≤ n ∧ n ≤ 3200000) : inR l (stAt l n) := by
 induction l with
 | nil => exact ⟨rfl, fun i hi => absurd hi (Nat.not_lt_zero _)⟩
 | cons v l ih =>
  have h := ih fun v hv' => hv v (List.mem_cons_of_mem _ hv')
  have h1 := hv v (List.mem_cons_self ..)
  have h2 := wd_ok h1
  refine ⟨by simp [stAt, dg_len], fun i hi => ?_⟩
  cases i with
  | succ i => exact h.2 i (by simpa using hi)
  | zero =>
   have a1 := Int.emod_nonneg (dg l n).1 (show wd v ≠ 0 by omega)
   have a2 := Int.emod_lt_of_pos (dg l n).1 (show 0 < wd v by omega)
   have a3 : wd v = v.2.1 - v.1 + 1 := rfl
   simp only [stAt, dg, List.getD_cons_zero]
   omega
theorem set_down {pre D : List Int} {k : Nat} {x : Int} (h : k < pre.length) : (pre.take (k + 1) ++ D).set k x = pre.take k ++ x :: D := by
 rw [← take_next (d := 0) h, List.append_assoc, List.set_append_right _ _ (by rw [List.length_take]; omega)]
 have : k - (pre.take k).length = 0 := by rw [List.length_take]; omega
 rw [this]; rfl
theorem dg_next {l : List Vr} {n : Int} {k : Nat} (h : k < l.length) : dg (l.drop k) n = ((dg (l.drop (k + 1)) n).1 / wd (l.getD k (0, 0, 0)), ((l.getD k (0, 0, 0)).1 + (dg (l.drop (k + 1)) n).1 % wd (l.getD k (0, 0, 0))) :: (dg (l.drop (k + 1)) n).2) := by
 rw [drop_cons (d := (0, 0, 0)) h]; rfl
theorem C_impl_stateAt (s : Sy) (n : Int) (h5 : s.1.length ≤ 5) (hv : ∀ v ∈ s.1, vOk v) (hn : 0 ≤ n ∧ n ≤ 3200000) (Q : List AV → Prop) : mc.C f_impl_stateAt [⟨L V3, s.1⟩, ⟨L TR, s.2⟩, ⟨I, n⟩] Q = Q [⟨L I, stAt s.1 n⟩] := by
 refine Mc.Ends.c (mc.ends F_impl_stateAt ?_)
 simp (contextual := true) (maxSteps := 1000000) (disch := omega) only [↓Sd, ↓So, ↓Sk, ↓den, ↓denA, Sa, Sb, Sc, Se, O1.d, O2.d, O3.d, cmI, arI, envOf, putN, ↓reduceIte, Nat.reduceLT, Nat.reduceSub, Nat.reduceAdd, Int.reduceAdd, Int.reduceEq, Int.reduceLT, Int.reduceLE, arr_pos, arr_neg, tr_impl_stateAt, List.length_replicate]
 refine mc.lp_down (Int × List Int) (fun k x => [⟨I, x.1⟩, ⟨I, (k : Int) - 1⟩, ⟨L V3, s.1⟩, ⟨L TR, s.2⟩, ⟨L I, x.2⟩]) (fun k x => k ≤ s.1.length ∧ x.1 = (dg (s.1.drop k) n).1 ∧ x.2 = (List.replicate s.1.length (0 : Int)).take k ++ (dg (s.1.drop k) n).2) s.1.length (n, List.replicate s.1.length 0) _ rfl ⟨Nat.le_refl _, by simp [dg], by simp [dg]⟩ ?_ ?_
 ·rintro k ⟨m, o⟩ ⟨hk, rfl, rfl⟩
  have hv' : ∀ k, ∀ v ∈ s.1.drop k, vOk v := fun k v hv1 => hv v (List.mem_of_mem_drop hv1)
  have h1 := dg_bd (hv' (k + 1)) hn
  have h2 := dg_bd (hv' k) hn
  have h3 := hv _ (getD_mem (d := (0, 0, 0)) (show k < s.1.length by omega))
  have h4 := wd_ok h3
  have h6 := Int.emod_nonneg (dg (s.1.drop (k + 1)) n).1 (show wd (s.1.getD k (0, 0, 0)) ≠ 0 by omega)
  have h7 := Int.emod_lt_of_pos (dg (s.1.drop (k + 1)) n).1 (show 0 < wd (s.1.getD k (0, 0, 0)) by omega)
  have hlen : ((List.replicate s.1.length (0 : Int)).take (k + 1) ++ (dg (s.1.drop (k + 1)) n).2).length = s.1.length := by simp [dg_len]; omega
  have hset : ∀ x : Int, ((List.replicate s.1.length (0 : Int)).take (k + 1) ++ (dg (s.1.drop (k + 1)) n).2).set k x = (List.replicate s.1.length (0 : Int)).take k ++ x :: (dg (s.1.drop (k + 1)) n).2 := fun x => set_down (by rw [List.length_replicate]; omega)
  have e := dg_next (l := s.1) (n := n) (k := k) (by omega)
  rw [e] at h2 ⊢
  clear e
  generalize dg (s.1.drop (k + 1)) n = D at *
  generalize (List.replicate s.1.length (0 : Int)).take (k + 1) ++ D.2 = O at *
  generalize (List.replicate s.1.length (0 : Int)).take k = P at *
  simp only [wd] at h2 h4 h6 h7 ⊢
  unfold vOk at h3
  simp (contextual := true) (maxSteps := 1000000) (disch := omega) only [↓Sd, ↓So, ↓Sk, ↓den, ↓denA, Sa, Sb, Sc, Se, O1.d, O2.d, O3.d, cmI, arI, envOf, putN, ↓reduceIte, Nat.reduceLT, Nat.reduceSub, Nat.reduceAdd, Int.reduceAdd, Int.reduceEq, Int.reduceLT, Int.reduceLE, arr_pos, arr_neg, hset]
  exact ⟨(_, _), ⟨rfl, rfl⟩, by omega, rfl, rfl⟩
 ·rintro ⟨m, o⟩ ⟨hk, rfl, rfl⟩
  simp (contextual := true) (maxSteps := 1000000) (disch := omega) only [↓Sd, ↓So, ↓Sk, ↓den, ↓denA, Sa, Sb, Sc, Se, O1.d, O2.d, O3.d, cmI, arI, envOf, putN, ↓reduceIte, Nat.reduceLT, Nat.reduceSub, Nat.reduceAdd, Int.reduceAdd, Int.reduceEq, Int.reduceLT, Int.reduceLE, arr_pos, arr_neg, List.take_zero, List.nil_append, List.drop_zero]
  rfl
theorem C_spec_l4State (s : Sy) (n : Int) (hs : FewSy s) (hV : valid s) (hn : 0 ≤ n ∧ n ≤ 3200000) (Q : List AV → Prop) : mc.C f_spec_l4State [⟨L V3, s.1⟩, ⟨L TR, s.2⟩, ⟨I, n⟩] Q = Q [⟨L I, stAt s.1 n⟩] := by
 have h5 := hV.1.2
 have hv := hV.2.2.1
 have hf : (fst0 s.1).length = s.1.length := by simp [fst0]
 refine Mc.Ends.c (mc.ends F_spec_l4State ?_)
 simp (contextual := true) (maxSteps := 1000000) (disch := omega) only [↓Sd, ↓So, ↓Sk, ↓den, ↓denA, Sa, Sb, Sc, Se, O1.d, O2.d, O3.d, cmI, arI, envOf, putN, ↓reduceIte, Nat.reduceLT, Nat.reduceSub, Nat.reduceAdd, Int.reduceAdd, Int.reduceEq, Int.reduceLT, Int.reduceLE, arr_pos, arr_neg, tr_spec_l4State, C_spec_FirstState s hs hV, C_spec_l3Copy (fst0 s.1) (by omega)]
 generalize fst0 s.1 = pre at *
 refine mc.lp_down (Int × List Int) (fun k x => [⟨I, x.1⟩, ⟨I, (k : Int) - 1⟩, ⟨L V3, s.1⟩, ⟨L TR, s.2⟩, ⟨L I, x.2⟩]) (fun k x => k ≤ s.1.length ∧ x.1 = (dg (s.1.drop k) n).1 ∧ x.2 = pre.take k ++ (dg (s.1.drop k) n).2) s.1.length (n, pre) _ rfl ⟨Nat.le_refl _, by simp [dg], by rw [List.drop_length, ← hf, List.take_length]; simp [dg]⟩ ?_ ?_
 ·rintro k ⟨m, o⟩ ⟨hk, rfl, rfl⟩
  have hv' : ∀ k, ∀ v ∈ s.1.drop k, vOk v := fun k v hv1 => hv v (List.mem_of_mem_drop hv1)
  have h1 := dg_bd (hv' (k + 1)) hn
  have h2 := dg_bd (hv' k) hn
  have h3 := hv _ (getD_mem (d := (0, 0, 0)) (show k < s.1.length by omega))
  have h4 := wd_ok h3
  have h6 := Int.emod_nonneg (dg (s.1.drop (k + 1)) n).1 (show wd (s.1.getD k (0, 0, 0)) ≠ 0 by omega)
  have h7 := Int.emod_lt_of_pos (dg (s.1.drop (k + 1)) n).1 (show 0 < wd (s.1.getD k (0, 0, 0)) by omega)
  have hlen : (pre.take (k + 1) ++ (dg (s.1.drop (k + 1)) n).2).length = s.1.length := by simp [dg_len, hf]; omega
  have hset : ∀ x : Int, (pre.take (k + 1) ++ (dg (s.1.drop (k + 1)) n).2).set k x = pre.take k ++ x :: (dg (s.1.drop (k + 1)) n).2 := fun x => set_down (by omega)
  have e := dg_next (l := s.1) (n := n) (k := k) (by omega)
  rw [e] at h2 ⊢
  clear e
  generalize dg (s.1.drop (k + 1)) n = D at *
  generalize pre.take (k + 1) ++ D.2 = O at *
  generalize pre.take k = P at *
  simp only [wd] at h2 h4 h6 h7 ⊢
  unfold vOk at h3
  simp (contextual := true) (maxSteps := 1000000) (disch := omega) only [↓Sd, ↓So, ↓Sk, ↓den, ↓denA, Sa, Sb, Sc, Se, O1.d, O2.d, O3.d, cmI, arI, envOf, putN, ↓reduceIte, Nat.reduceLT, Nat.reduceSub, Nat.reduceAdd, Int.reduceAdd, Int.reduceEq, Int.reduceLT, Int.reduceLE, arr_pos, arr_neg, hset]
  exact ⟨(_, _), ⟨rfl, rfl⟩, by omega, rfl, rfl⟩
 ·rintro ⟨m, o⟩ ⟨hk, rfl, rfl⟩
  simp (contextual := true) (maxSteps := 1000000) (disch := omega) only [↓Sd, ↓So, ↓Sk, ↓den, ↓denA, Sa, Sb, Sc, Se, O1.d, O2.d, O3.d, cmI, arI, envOf, putN, ↓reduceIte, Nat.reduceLT, Nat.reduceSub, Nat.reduceAdd, Int.reduceAdd, Int.reduceEq, Int.reduceLT, Int.reduceLE, arr_pos, arr_neg, List.take_zero, List.nil_append, List.drop_zero]
  rfl
def tab {α : Type} (f : Nat → α) (n : Nat) : List α := (List.range n).map f
theorem tab_len {α : Type} {f : Nat → α} {n : Nat} : (tab f n).length = n := by simp [tab]
theorem tab_next {α : Type} {f : Nat → α} {n : Nat} : tab f n ++ [f n] = tab f (n + 1) := by simp [tab, List.range_succ]
theorem tab_get {α : Type} {f : Nat → α} {n i : Nat} {d : α} (h : i < n) : (tab f n).getD i d = f i := by simp [tab, h]
theorem tab_setr {α : Type} {f : Nat → α} {N i : Nat} {z x y : α} : (tab f i ++ y :: List.replicate N z).set i x = tab f i ++ x :: List.replicate N z := by
 rw [List.set_append_right _ _ (by rw [tab_len]; exact Nat.le_refl _), tab_len, Nat.sub_self]; rfl
theorem tab_getr {α : Type} {f : Nat → α} {i : Nat} {d y : α} {r : List α} : (tab f i ++ y :: r).getD i d = y := by
 rw [List.getD_eq_getElem?_getD, List.getElem?_append_right (by rw [tab_len]; exact Nat.le_refl _), tab_len, Nat.sub_self]; rfl
def szn (l : List Vr) : Nat := (sz l).toNat
theorem szn_eq {s : Sy} (h : valid s) : ((szn s.1 : Nat) : Int) = sz s.1 ∧ 1 ≤ szn s.1 ∧ szn s.1 ≤ 400 := by
 have h1 := sz_pos s.1 h.2.2.1 s.1.length (Nat.le_refl _)
 rw [List.take_length] at h1
 have h2 := h.2.2.2.2
 unfold szn
 omega
def stN (s : Sy) (n : Nat) : List Int := stAt s.1 n
theorem stN_in {s : Sy} (h : valid s) {n : Nat} (hn : n < szn s.1) : inR s.1 (stN s n) := stAt_in h.2.2.1 (by have := szn_eq h; omega)
def stepR (s : Sy) (n : Nat) : List Int := (nxt s (stN s n)).map (num s.1)
def steps (s : Sy) : List (List Int) := tab (stepR s) (szn s.1)
theorem nxt_len {s : Sy} {st : List Int} (h : valid s) : (nxt s st).length ≤ 8 := Nat.le_trans nxtN_len h.2.1
theorem nxt_in {s : Sy} {st : List Int} : ∀ x ∈ nxt s st, inR s.1 x := nxtN_in
theorem map_next {α β : Type} {l : List α} {g : α → β} {j : Nat} {d : α} (h : j < l.length) : (l.take j).map g ++ [g (l.getD j d)] = (l.take (j + 1)).map g := by
 rw [← take_next (d := d) h]; simp
theorem C_spec_l4Steps (s : Sy) (hs : FewSy s) (h : valid s) (Q : List AV → Prop) : mc.C f_spec_l4Steps [⟨L V3, s.1⟩, ⟨L TR, s.2⟩] Q = Q [⟨L (L I), steps s⟩] := by
 have hz := szn_eq h
 have h5 := h.1.2
 have hv := h.2.2.1
 refine Mc.Ends.c (mc.ends F_spec_l4Steps ?_)
 simp (contextual := true) (maxSteps := 1000000) (disch := omega) only [↓Sd, ↓So, ↓Sk, ↓den, ↓denA, Sa, Sb, Sc, Se, O1.d, O2.d, O3.d, cmI, arI, envOf, putN, ↓reduceIte, Nat.reduceLT, Nat.reduceSub, Nat.reduceAdd, Int.reduceAdd, Int.reduceEq, Int.reduceLT, Int.reduceLE, arr_pos, arr_neg, tr_spec_l4Steps]
 refine mc.lp_for (List (List Int)) (fun i o => [⟨I, (i : Int)⟩, ⟨L V3, s.1⟩, ⟨L TR, s.2⟩, ⟨L (L I), o⟩]) (fun i o => o = tab (stepR s) i) (szn s.1) 0 [] _ rfl (Nat.zero_le _) rfl ?_ ?_
 ·rintro i o hi rfl
  have hin := stN_in h hi
  have hst : stAt s.1 (i : Int) = stN s i := rfl
  have hl := @nxt_len s (stN s i) h
  have htl : (tab (stepR s) i).length = i := tab_len
  simp (contextual := true) (maxSteps := 1000000) (disch := omega) only [↓Sd, ↓So, ↓Sk, ↓den, ↓denA, Sa, Sb, Sc, Se, O1.d, O2.d, O3.d, cmI, arI, envOf, putN, ↓reduceIte, Nat.reduceLT, Nat.reduceSub, Nat.reduceAdd, Int.reduceAdd, Int.reduceEq, Int.reduceLT, Int.reduceLE, arr_pos, arr_neg, C_spec_SizeOf s hs, h, C_spec_l4State s i hs h (by omega), hst, C_spec_l2Next s (stN s i) h hin]
  refine mc.lp_for (List Int) (fun j o => [⟨I, (i : Int)⟩, ⟨I, (j : Int)⟩, ⟨L V3, s.1⟩, ⟨L TR, s.2⟩, ⟨L (L I), tab (stepR s) i⟩, ⟨L (L I), nxt s (stN s i)⟩, ⟨L I, o⟩]) (fun j o => o = ((nxt s (stN s i)).take j).map (num s.1)) (nxt s (stN s i)).length 0 [] _ rfl (Nat.zero_le _) rfl ?_ ?_
  ·rintro j o hj rfl
   have hx := nxt_in _ (getD_mem (d := []) hj)
   have hol : (((nxt s (stN s i)).take j).map (num s.1)).length ≤ 8 := by simp; omega
   simp (contextual := true) (maxSteps := 1000000) (disch := omega) only [↓Sd, ↓So, ↓Sk, ↓den, ↓denA, Sa, Sb, Sc, Se, O1.d, O2.d, O3.d, cmI, arI, envOf, putN, ↓reduceIte, Nat.reduceLT, Nat.reduceSub, Nat.reduceAdd, Int.reduceAdd, Int.reduceEq, Int.reduceLT, Int.reduceLE, arr_pos, arr_neg, C_spec_l4Number s _ h5 hv hx]
   exact map_next hj
  ·rintro o rfl
   rw [List.take_length]
   simp (contextual := true) (maxSteps := 1000000) (disch := omega) only [↓Sd, ↓So, ↓Sk, ↓den, ↓denA, Sa, Sb, Sc, Se, O1.d, O2.d, O3.d, cmI, arI, envOf, putN, ↓reduceIte, Nat.reduceLT, Nat.reduceSub, Nat.reduceAdd, Int.reduceAdd, Int.reduceEq, Int.reduceLT, Int.reduceLE, arr_pos, arr_neg, ]
   exact tab_next
 ·rintro o rfl
  simp (contextual := true) (maxSteps := 1000000) (disch := omega) only [↓Sd, ↓So, ↓Sk, ↓den, ↓denA, Sa, Sb, Sc, Se, O1.d, O2.d, O3.d, cmI, arI, envOf, putN, ↓reduceIte, Nat.reduceLT, Nat.reduceSub, Nat.reduceAdd, Int.reduceAdd, Int.reduceEq, Int.reduceLT, Int.reduceLE, arr_pos, arr_neg, C_spec_SizeOf s hs, h]
  rfl
theorem C_impl_nexts (s : Sy) (h : valid s) (Q : List AV → Prop) : mc.C f_impl_nexts [⟨L V3, s.1⟩, ⟨L TR, s.2⟩] Q = Q [⟨L (L I), steps s⟩] := by
 have hz := szn_eq h
 have h5 := h.1.2
 have hv := h.2.2.1
 refine Mc.Ends.c (mc.ends F_impl_nexts ?_)
 simp (contextual := true) (maxSteps := 1000000) (disch := omega) only [↓Sd, ↓So, ↓Sk, ↓den, ↓denA, Sa, Sb, Sc, Se, O1.d, O2.d, O3.d, cmI, arI, envOf, putN, ↓reduceIte, Nat.reduceLT, Nat.reduceSub, Nat.reduceAdd, Int.reduceAdd, Int.reduceEq, Int.reduceLT, Int.reduceLE, arr_pos, arr_neg, tr_impl_nexts, C_impl_size s.1 h5 hv, ← hz.1, List.length_replicate]
 refine mc.lp_for (List (List Int)) (fun i o => [⟨I, (szn s.1 : Int)⟩, ⟨I, (i : Int)⟩, ⟨L V3, s.1⟩, ⟨L TR, s.2⟩, ⟨L (L I), o⟩]) (fun i o => o = tab (stepR s) i ++ List.replicate (szn s.1 - i) []) (szn s.1) 0 (List.replicate (szn s.1) []) _ rfl (Nat.zero_le _) rfl ?_ ?_
 ·rintro i o hi rfl
  have hin := stN_in h hi
  have hst : stAt s.1 (i : Int) = stN s i := rfl
  have hl := @nxt_len s (stN s i) h
  simp (contextual := true) (maxSteps := 1000000) (disch := omega) only [↓Sd, ↓So, ↓Sk, ↓den, ↓denA, Sa, Sb, Sc, Se, O1.d, O2.d, O3.d, cmI, arI, envOf, putN, ↓reduceIte, Nat.reduceLT, Nat.reduceSub, Nat.reduceAdd, Int.reduceAdd, Int.reduceEq, Int.reduceLT, Int.reduceLE, arr_pos, arr_neg, C_impl_stateAt s i h5 hv (by omega), hst, C_impl_nextStates s (stN s i) h hin]
  rw [sub_split hi, List.replicate_succ]
  refine mc.lp_for (List Int) (fun j o => [⟨I, (i : Int)⟩, ⟨I, (szn s.1 : Int)⟩, ⟨I, (i : Int)⟩, ⟨I, ((nxt s (stN s i)).length : Int)⟩, ⟨I, (j : Int)⟩, ⟨L V3, s.1⟩, ⟨L TR, s.2⟩, ⟨L (L I), tab (stepR s) i ++ o :: List.replicate (szn s.1 - (i + 1)) []⟩, ⟨L (L I), nxt s (stN s i)⟩]) (fun j o => o = ((nxt s (stN s i)).take j).map (num s.1)) (nxt s (stN s i)).length 0 [] _ rfl (Nat.zero_le _) rfl ?_ ?_
  ·rintro j o hj rfl
   have hx := nxt_in _ (getD_mem (d := []) hj)
   have hol : (((nxt s (stN s i)).take j).map (num s.1)).length ≤ 8 := by simp; omega
   have hlen : (tab (stepR s) i ++ ((nxt s (stN s i)).take j).map (num s.1) :: List.replicate (szn s.1 - (i + 1)) []).length = szn s.1 := by simp [tab_len]; omega
   simp (contextual := true) (maxSteps := 1000000) (disch := omega) only [↓Sd, ↓So, ↓Sk, ↓den, ↓denA, Sa, Sb, Sc, Se, O1.d, O2.d, O3.d, cmI, arI, envOf, putN, ↓reduceIte, Nat.reduceLT, Nat.reduceSub, Nat.reduceAdd, Int.reduceAdd, Int.reduceEq, Int.reduceLT, Int.reduceLE, arr_pos, arr_neg, C_impl_number s _ h5 hv hx, tab_getr, tab_setr, tab_len, List.length_replicate]
   exact ⟨_, rfl, map_next hj⟩
  ·rintro o rfl
   rw [List.take_length]
   simp (contextual := true) (maxSteps := 1000000) (disch := omega) only [↓Sd, ↓So, ↓Sk, ↓den, ↓denA, Sa, Sb, Sc, Se, O1.d, O2.d, O3.d, cmI, arI, envOf, putN, ↓reduceIte, Nat.reduceLT, Nat.reduceSub, Nat.reduceAdd, Int.reduceAdd, Int.reduceEq, Int.reduceLT, Int.reduceLE, arr_pos, arr_neg, ]
   rw [← tab_next, List.append_assoc]; rfl
 ·rintro o rfl
  simp (contextual := true) (maxSteps := 1000000) (disch := omega) only [↓Sd, ↓So, ↓Sk, ↓den, ↓denA, Sa, Sb, Sc, Se, O1.d, O2.d, O3.d, cmI, arI, envOf, putN, ↓reduceIte, Nat.reduceLT, Nat.reduceSub, Nat.reduceAdd, Int.reduceAdd, Int.reduceEq, Int.reduceLT, Int.reduceLE, arr_pos, arr_neg, ]
  simp [steps]
def upTo (p : Nat → Bool) : Nat → List Int
 | 0 => []
 | n + 1 => if p n = true then upTo p n ++ [(n : Int)] else upTo p n
theorem upTo_s {p : Nat → Bool} {n : Nat} (h : p n = true) : upTo p (n + 1) = upTo p n ++ [(n : Int)] := by rw [upTo, if_pos h]
theorem upTo_n {p : Nat → Bool} {n : Nat} (h : ¬ p n = true) : upTo p (n + 1) = upTo p n := by rw [upTo, if_neg h]
theorem upTo_len {p : Nat → Bool} : ∀ {n : Nat}, (upTo p n).length ≤ n
 | 0 => Nat.le_refl _
 | n + 1 => by
  have := @upTo_len p n
  simp only [upTo]
  split
  ·simp; omega
  ·omega
theorem upTo_congr {p q : Nat → Bool} : ∀ {n : Nat}, (∀ k, k < n → p k = q k) → upTo p n = upTo q n
 | 0, _ => rfl
 | n + 1, h => by simp only [upTo]; rw [h n (by omega), upTo_congr fun k hk => h k (by omega)]
noncomputable def dB (p : Prop) : Bool := @decide p (Classical.propDecidable p)
theorem dB_iff {p : Prop} : dB p = true ↔ p := @decide_eq_true_iff p (Classical.propDecidable p)
theorem dB_t {p : Prop} (h : p) : dB p = true := dB_iff.2 h
theorem dB_f {p : Prop} (h : ¬ p) : dB p = false := by cases h1 : dB p with | false => rfl | true => exact absurd (dB_iff.1 h1) h
theorem dB_congr {p q : Prop} (h : p ↔ q) : dB p = dB q := by rw [propext h]
theorem dB_eq {p : Prop} [Decidable p] : dB p = decide p := by by_cases h : p <;> simp [h, dB]
theorem tab_congr {α : Type} {f g : Nat → α} {n : Nat} (h : ∀ k, k < n → f k = g k) : tab f n = tab g n := by
 unfold tab
 exact List.map_congr_left fun k hk => h k (List.mem_range.1 hk)
theorem tab_set' {α : Type} {f : Nat → α} {n j : Nat} {x : α} : (tab f n).set j x = tab (fun k => if k = j then x else f k) n := by
 apply List.ext_getElem
 ·simp [tab]
 ·intro i h1 h2
  simp only [tab, List.length_set, List.length_map, List.length_range] at h1 h2
  rw [List.getElem_set]
  simp only [tab, List.getElem_map, List.getElem_range]
  by_cases h : j = i
  ·rw [if_pos h, if_pos h.symm]
  ·rw [if_neg h, if_neg (fun e => h e.symm)]
theorem rep_tab {α : Type} {z : α} {n : Nat} : List.replicate n z = tab (fun _ => z) n := by
 apply List.ext_getElem <;> simp [tab]
theorem mem_take_next {l : List Int} {i : Nat} {x : Int} (h : i < l.length) : x ∈ l.take (i + 1) ↔ x ∈ l.take i ∨ x = l.getD i 0 := by
 rw [← take_next (d := 0) h]; simp
theorem C_spec_l4List (l : List Bool) (hl : l.length ≤ 1048576) (Q : List AV → Prop) : mc.C f_spec_l4List [⟨L B, l⟩] Q = Q [⟨L I, upTo (fun k => l.getD k false) l.length⟩] := by
 refine Mc.Ends.c (mc.ends F_spec_l4List ?_)
 simp (contextual := true) (maxSteps := 1000000) (disch := omega) only [↓Sd, ↓So, ↓Sk, ↓den, ↓denA, Sa, Sb, Sc, Se, O1.d, O2.d, O3.d, cmI, arI, envOf, putN, ↓reduceIte, Nat.reduceLT, Nat.reduceSub, Nat.reduceAdd, Int.reduceAdd, Int.reduceEq, Int.reduceLT, Int.reduceLE, arr_pos, arr_neg, tr_spec_l4List]
 refine mc.lp_for (List Int) (fun i o => [⟨L B, l⟩, ⟨I, (i : Int)⟩, ⟨L I, o⟩]) (fun i o => o = upTo (fun k => l.getD k false) i) l.length 0 [] _ rfl (Nat.zero_le _) rfl ?_ ?_
 ·rintro i o hi rfl
  have h1 := @upTo_len (fun k => l.getD k false) i
  simp (contextual := true) (maxSteps := 1000000) (disch := omega) only [↓Sd, ↓So, ↓Sk, ↓den, ↓denA, Sa, Sb, Sc, Se, O1.d, O2.d, O3.d, cmI, arI, envOf, putN, ↓reduceIte, Nat.reduceLT, Nat.reduceSub, Nat.reduceAdd, Int.reduceAdd, Int.reduceEq, Int.reduceLT, Int.reduceLE, arr_pos, arr_neg, ↓wpJoin, ]
  exact ⟨fun g => (upTo_s g).symm, fun g => (upTo_n g).symm⟩
 ·rintro o rfl
  simp (contextual := true) (maxSteps := 1000000) (disch := omega) only [↓Sd, ↓So, ↓Sk, ↓den, ↓denA, Sa, Sb, Sc, Se, O1.d, O2.d, O3.d, cmI, arI, envOf, putN, ↓reduceIte, Nat.reduceLT, Nat.reduceSub, Nat.reduceAdd, Int.reduceAdd, Int.reduceEq, Int.reduceLT, Int.reduceLE, arr_pos, arr_neg, ]
theorem C_spec_l4List_tab (p : Nat → Bool) (n : Nat) (hn : n ≤ 1048576) (Q : List AV → Prop) : mc.C f_spec_l4List [⟨L B, tab p n⟩] Q = Q [⟨L I, upTo p n⟩] := by
 rw [C_spec_l4List _ (by rw [tab_len]; exact hn), tab_len, upTo_congr fun k hk => tab_get hk]
inductive Rch (T : List (List Int)) (F : List Int) : Nat → Prop
 | base {k : Nat} : (k : Int) ∈ F → Rch T F k
 | step {a k : Nat} : Rch T F a → (k : Int) ∈ T.getD a [] → Rch T F k
def Tbl (T : List (List Int)) (n : Nat) : Prop := T.length = n ∧ ∀ r ∈ T, r.length ≤ 1048576 ∧ ∀ x ∈ r, 0 ≤ x ∧ x < n
theorem Tbl.row {T : List (List Int)} {n i : Nat} (h : Tbl T n) : ∀ x ∈ T.getD i [], 0 ≤ x ∧ x < n := by
 intro x hx
 by_cases hi : i < T.length
 ·exact (h.2 _ (getD_mem hi)).2 x hx
 ·rw [List.getD_eq_getElem?_getD, List.getElem?_eq_none (by omega)] at hx
  cases hx
theorem steps_tbl {s : Sy} (h : valid s) : Tbl (steps s) (szn s.1) := by
 have hz := szn_eq h
 refine ⟨tab_len, fun r hr => ?_⟩
 simp only [steps, tab, List.mem_map, List.mem_range] at hr
 obtain ⟨i, hi, rfl⟩ := hr
 refine ⟨by simp only [stepR, List.length_map]; exact Nat.le_trans (nxt_len h) (by omega), fun x hx => ?_⟩
 simp only [stepR, List.mem_map] at hx
 obtain ⟨y, hy, rfl⟩ := hx
 have := num_bd h.2.2.1 (nxt_in y hy)
 omega
theorem getD_set_eq {α : Type} {l : List α} {i : Nat} {x d : α} (h : i < l.length) : (l.set i x).getD i d = x := by
 simp [List.getD_eq_getElem?_getD, h]
theorem C_impl_listOf (l : List Bool) (hl : l.length ≤ 1048576) (Q : List AV → Prop) : mc.C f_impl_listOf [⟨L B, l⟩] Q = Q [⟨L I, upTo (fun k => l.getD k false) l.length⟩] := by
 refine Mc.Ends.c (mc.ends F_impl_listOf ?_)
 simp (contextual := true) (maxSteps := 1000000) (disch := omega) only [↓Sd, ↓So, ↓Sk, ↓den, ↓denA, Sa, Sb, Sc, Se, O1.d, O2.d, O3.d, cmI, arI, envOf, putN, ↓reduceIte, Nat.reduceLT, Nat.reduceSub, Nat.reduceAdd, Int.reduceAdd, Int.reduceEq, Int.reduceLT, Int.reduceLE, arr_pos, arr_neg, tr_impl_listOf]
 refine mc.lp_for (List Int) (fun i o => [⟨L B, l⟩, ⟨I, (l.length : Int)⟩, ⟨I, (i : Int)⟩, ⟨L I, o⟩]) (fun i o => o = upTo (fun k => l.getD k false) i) l.length 0 [] _ rfl (Nat.zero_le _) rfl ?_ ?_
 ·rintro i o hi rfl
  have h1 := @upTo_len (fun k => l.getD k false) i
  simp (contextual := true) (maxSteps := 1000000) (disch := omega) only [↓Sd, ↓So, ↓Sk, ↓den, ↓denA, Sa, Sb, Sc, Se, O1.d, O2.d, O3.d, cmI, arI, envOf, putN, ↓reduceIte, Nat.reduceLT, Nat.reduceSub, Nat.reduceAdd, Int.reduceAdd, Int.reduceEq, Int.reduceLT, Int.reduceLE, arr_pos, arr_neg, ↓wpJoin, ]
  exact ⟨fun g => (upTo_s g).symm, fun g => (upTo_n g).symm⟩
 ·rintro o rfl
  have h1 := @upTo_len (fun k => l.getD k false) l.length
  simp (contextual := true) (maxSteps := 1000000) (disch := omega) only [↓Sd, ↓So, ↓Sk, ↓den, ↓denA, Sa, Sb, Sc, Se, O1.d, O2.d, O3.d, cmI, arI, envOf, putN, ↓reduceIte, Nat.reduceLT, Nat.reduceSub, Nat.reduceAdd, Int.reduceAdd, Int.reduceEq, Int.reduceLT, Int.reduceLE, arr_pos, arr_neg, C_impl_clone_int (upTo (fun k => l.getD k false) l.length) (by omega)]
theorem C_impl_listOf_tab (p : Nat → Bool) (n : Nat) (hn : n ≤ 1048576) (Q : List AV → Prop) : mc.C f_impl_listOf [⟨L B, tab p n⟩] Q = Q [⟨L I, upTo p n⟩] := by
 rw [C_impl_listOf _ (by rw [tab_len]; exact hn), tab_len, upTo_congr fun k hk => tab_get hk]
def Tb8 (T : List (List Int)) (n : Nat) : Prop := Tbl T n ∧ n ≤ 400 ∧ ∀ r ∈ T, r.length ≤ 8
theorem steps_tb8 {s : Sy} (h : valid s) : Tb8 (steps s) (szn s.1) := by
 refine ⟨steps_tbl h, (szn_eq h).2.2, fun r hr => ?_⟩
 simp only [steps, tab, List.mem_map, List.mem_range] at hr
 obtain ⟨i, hi, rfl⟩ := hr
 simp only [stepR, List.length_map]
 exact nxt_len h
def ahead (T : List (List Int)) (p : Nat → Bool) (n : Nat) (k : Nat) : Prop := ∃ b, b < n ∧ p b = true ∧ (b : Int) ∈ T.getD k []
theorem C_spec_l4Ahead (T : List (List Int)) (p : Nat → Bool) (n : Nat) (hn : n ≤ 1048576) (ht : Tbl T n) (Q : List AV → Prop) : mc.C f_spec_l4Ahead [⟨L (L I), T⟩, ⟨L B, tab p n⟩] Q = Q [⟨L B, tab (fun k => dB (ahead T p n k)) n⟩] := by
 have hT := ht.1
 refine Mc.Ends.c (mc.ends F_spec_l4Ahead ?_)
 simp (contextual := true) (maxSteps := 1000000) (disch := omega) only [↓Sd, ↓So, ↓Sk, ↓den, ↓denA, Sa, Sb, Sc, Se, O1.d, O2.d, O3.d, cmI, arI, envOf, putN, ↓reduceIte, Nat.reduceLT, Nat.reduceSub, Nat.reduceAdd, Int.reduceAdd, Int.reduceEq, Int.reduceLT, Int.reduceLE, arr_pos, arr_neg, tr_spec_l4Ahead, hT]
 refine mc.lp_for (List Bool) (fun i o => [⟨L (L I), T⟩, ⟨L B, tab p n⟩, ⟨I, (i : Int)⟩, ⟨L B, o⟩]) (fun i o => o = tab (fun k => decide (k < i) && dB (ahead T p n k)) n) n 0 (List.replicate n false) _ rfl (Nat.zero_le _) ?_ ?_ ?_
 ·rw [rep_tab]; exact tab_congr fun k _ => by simp
 ·rintro i o hi rfl
  have hrow := ht.row (i := i)
  have hrl : (T.getD i []).length ≤ 1048576 := (ht.2 _ (getD_mem (by omega))).1
  simp (contextual := true) (maxSteps := 1000000) (disch := omega) only [↓Sd, ↓So, ↓Sk, ↓den, ↓denA, Sa, Sb, Sc, Se, O1.d, O2.d, O3.d, cmI, arI, envOf, putN, ↓reduceIte, Nat.reduceLT, Nat.reduceSub, Nat.reduceAdd, Int.reduceAdd, Int.reduceEq, Int.reduceLT, Int.reduceLE, arr_pos, arr_neg, hT]
  refine mc.lp_for (List Bool) (fun j o => [⟨L (L I), T⟩, ⟨L B, tab p n⟩, ⟨I, (i : Int)⟩, ⟨I, (j : Int)⟩, ⟨L B, o⟩]) (fun j o => o = tab (fun k => (decide (k < i) && dB (ahead T p n k)) || decide (k = i) && dB (∃ b, b < n ∧ p b = true ∧ (b : Int) ∈ (T.getD i []).take j)) n) (T.getD i []).length 0 _ _ rfl (Nat.zero_le _) ?_ ?_ ?_
  ·exact tab_congr fun k _ => by rw [dB_f (p := ∃ b, b < n ∧ p b = true ∧ (b : Int) ∈ (T.getD i []).take 0) (by simp)]; simp
  ·rintro j o hj rfl
   have hy := hrow _ (getD_mem (d := 0) hj)
   obtain ⟨y, hye⟩ : ∃ y : Nat, (T.getD i []).getD j 0 = y := ⟨((T.getD i []).getD j 0).toNat, by omega⟩
   have hyn : y < n := by omega
   simp (contextual := true) (maxSteps := 1000000) (disch := omega) only [↓Sd, ↓So, ↓Sk, ↓den, ↓denA, Sa, Sb, Sc, Se, O1.d, O2.d, O3.d, cmI, arI, envOf, putN, ↓reduceIte, Nat.reduceLT, Nat.reduceSub, Nat.reduceAdd, Int.reduceAdd, Int.reduceEq, Int.reduceLT, Int.reduceLE, arr_pos, arr_neg, ↓wpJoin, hT, hye, tab_len, tab_get hyn, tab_set']
   refine ⟨fun g => tab_congr fun k hk => ?_, fun g => tab_congr fun k hk => ?_⟩
   ·by_cases hki : k = i
    ·subst hki
     rw [if_pos rfl, dB_t (p := ∃ b, b < n ∧ p b = true ∧ (b : Int) ∈ (T.getD k []).take (j + 1)) ⟨y, hyn, g, (mem_take_next hj).2 (.inr hye.symm)⟩]
     simp
    ·simp [hki]
   ·congr 2
    refine dB_congr ⟨fun ⟨b, h1, h2, h3⟩ => ⟨b, h1, h2, (mem_take_next hj).2 (.inl h3)⟩, fun ⟨b, h1, h2, h3⟩ => ⟨b, h1, h2, ?_⟩⟩
    rcases (mem_take_next hj).1 h3 with h | h
    ·exact h
    ·have : b = y := by omega
     subst this; exact absurd h2 g
  ·rintro o rfl
   rw [List.take_length]
   simp (contextual := true) (maxSteps := 1000000) (disch := omega) only [↓Sd, ↓So, ↓Sk, ↓den, ↓denA, Sa, Sb, Sc, Se, O1.d, O2.d, O3.d, cmI, arI, envOf, putN, ↓reduceIte, Nat.reduceLT, Nat.reduceSub, Nat.reduceAdd, Int.reduceAdd, Int.reduceEq, Int.reduceLT, Int.reduceLE, arr_pos, arr_neg, hT]
   refine tab_congr fun k hk => ?_
   by_cases hki : k = i
   ·subst hki; simp; rfl
   ·by_cases hlt : k < i
    ·simp [hki, hlt, show k < i + 1 by omega]
    ·simp [hki, hlt, show ¬ k < i + 1 by omega]
 ·rintro o rfl
  simp (contextual := true) (maxSteps := 1000000) (disch := omega) only [↓Sd, ↓So, ↓Sk, ↓den, ↓denA, Sa, Sb, Sc, Se, O1.d, O2.d, O3.d, cmI, arI, envOf, putN, ↓reduceIte, Nat.reduceLT, Nat.reduceSub, Nat.reduceAdd, Int.reduceAdd, Int.reduceEq, Int.reduceLT, Int.reduceLE, arr_pos, arr_neg, hT]
  exact tab_congr fun k hk => by simp [hk]
theorem C_spec_l2Has (l : List Int) (x : Int) (hl : l.length ≤ 1048576) (Q : List AV → Prop) : mc.C f_spec_l2Has [⟨L I, l⟩, ⟨I, x⟩] Q = Q [⟨B, dB (x ∈ l)⟩] := by
 refine Mc.Ends.c (mc.ends F_spec_l2Has ?_)
 generalize hK : dB (x ∈ l) = K
 simp (contextual := true) (maxSteps := 1000000) (disch := omega) only [↓Sd, ↓So, ↓Sk, ↓den, ↓denA, Sa, Sb, Sc, Se, O1.d, O2.d, O3.d, cmI, arI, envOf, putN, ↓reduceIte, Nat.reduceLT, Nat.reduceSub, Nat.reduceAdd, Int.reduceAdd, Int.reduceEq, Int.reduceLT, Int.reduceLE, arr_pos, arr_neg, tr_spec_l2Has]
 refine lp_all (fun i => [⟨L I, l⟩, ⟨I, x⟩, ⟨I, (i : Int)⟩]) (fun i => ¬ l.getD i 0 = x) l.length _ rfl ?_ ?_
 ·intro i hi
  simp (contextual := true) (maxSteps := 1000000) (disch := omega) only [↓Sd, ↓So, ↓Sk, ↓den, ↓denA, Sa, Sb, Sc, Se, O1.d, O2.d, O3.d, cmI, arI, envOf, putN, ↓reduceIte, Nat.reduceLT, Nat.reduceSub, Nat.reduceAdd, Int.reduceAdd, Int.reduceEq, Int.reduceLT, Int.reduceLE, arr_pos, arr_neg, ]
  intro h
  rw [← hK, dB_t]
  rw [← h]; exact getD_mem hi
 ·intro h
  simp (contextual := true) (maxSteps := 1000000) (disch := omega) only [↓Sd, ↓So, ↓Sk, ↓den, ↓denA, Sa, Sb, Sc, Se, O1.d, O2.d, O3.d, cmI, arI, envOf, putN, ↓reduceIte, Nat.reduceLT, Nat.reduceSub, Nat.reduceAdd, Int.reduceAdd, Int.reduceEq, Int.reduceLT, Int.reduceLE, arr_pos, arr_neg, ]
  rw [← hK, dB_f]
  intro hx
  obtain ⟨i, hi, rfl⟩ := List.getElem_of_mem hx
  exact h i hi (getD_lt hi)
theorem getD_set_ne {α : Type} {l : List α} {i j : Nat} {x d : α} (h : i ≠ j) : (l.set i x).getD j d = l.getD j d := by
 simp [List.getD_eq_getElem?_getD, List.getElem?_set, h]
def Same {α : Type} (l s : List α) (d : α) (i : Nat) : Prop := s.length = l.length ∧ ∀ j, i ≤ j → s.getD j d = l.getD j d
theorem Same.refl {α : Type} {l : List α} {d : α} {i : Nat} : Same l l d i := ⟨rfl, fun _ _ => rfl⟩
theorem Same.set {α : Type} {l s : List α} {d x : α} {i : Nat} (h : Same l s d i) : Same l (s.set i x) d (i + 1) :=
 ⟨by rw [List.length_set]; exact h.1, fun j hj => by rw [getD_set_ne (by omega)]; exact h.2 j (by omega)⟩
theorem iD {k : IntKind} {a b : Int} (h : a = b) : @Eq (Ty.int k).D a b := h
theorem mk_IntS (l : List Int) (k : Int) (hk : 0 ≤ k ∧ k ≤ 9200000000000000000) (hl : l.length ≤ 1048576) (Q : List AV → Prop) : mc.C f_laws_markIntS [⟨L I, l⟩, ⟨I, k⟩] Q = Q [⟨I, k + l.length⟩, ⟨L I, tab (fun i => k + (i : Int)) l.length⟩] := by
 refine Mc.Ends.c (mc.ends F_laws_markIntS ?_)
 simp (contextual := true) (maxSteps := 1000000) (disch := omega) only [↓Sd, ↓So, ↓Sk, ↓den, ↓denA, Sa, Sb, Sc, Se, O1.d, O2.d, O3.d, cmI, arI, envOf, putN, ↓reduceIte, Nat.reduceLT, Nat.reduceSub, Nat.reduceAdd, Int.reduceAdd, Int.reduceEq, Int.reduceLT, Int.reduceLE, arr_pos, arr_neg, tr_laws_markIntS]
 refine mc.lp_for (List Int) (fun i s => [⟨I, k + (i : Int)⟩, ⟨I, (i : Int)⟩, ⟨L I, s⟩]) (fun i s => s = tab (fun i => k + (i : Int)) i ++ l.drop i) l.length 0 l _ (by simp) (Nat.zero_le _) (by simp [tab]) ?_ ?_
 ·rintro i s hi rfl
  have hlen : (tab (fun i => k + (i : Int)) i).length + (l.drop i).length = l.length := by rw [tab_len, List.length_drop]; omega
  have e : (tab (fun i => k + (i : Int)) i ++ l.drop i).set i (k + i) = tab (fun i => k + (i : Int)) (i + 1) ++ l.drop (i + 1) := by
   rw [List.set_append_right _ _ (by rw [tab_len]; exact Nat.le_refl _), tab_len, Nat.sub_self, drop_cons (d := 0) hi, List.set_cons_zero, ← tab_next, List.append_assoc]; rfl
  simp (contextual := true) (maxSteps := 1000000) (disch := omega) only [↓Sd, ↓So, ↓Sk, ↓den, ↓denA, Sa, Sb, Sc, Se, O1.d, O2.d, O3.d, cmI, arI, envOf, putN, ↓reduceIte, Nat.reduceLT, Nat.reduceSub, Nat.reduceAdd, Int.reduceAdd, Int.reduceEq, Int.reduceLT, Int.reduceLE, arr_pos, arr_neg, e]
  exact ⟨_, ⟨iD (by omega), rfl⟩, rfl⟩
 ·rintro s rfl
  rw [List.drop_length, List.append_nil]
  simp (contextual := true) (maxSteps := 1000000) (disch := omega) only [↓Sd, ↓So, ↓Sk, ↓den, ↓denA, Sa, Sb, Sc, Se, O1.d, O2.d, O3.d, cmI, arI, envOf, putN, ↓reduceIte, Nat.reduceLT, Nat.reduceSub, Nat.reduceAdd, Int.reduceAdd, Int.reduceEq, Int.reduceLT, Int.reduceLE, arr_pos, arr_neg, tab_len]
theorem held_IntS (n : Nat) (k : Int) (hk : 0 ≤ k ∧ k ≤ 9200000000000000000) (hn : n ≤ 1048576) (Q : List AV → Prop) : mc.C f_laws_heldIntS [⟨L I, tab (fun i => k + (i : Int)) n⟩, ⟨I, k⟩] Q = Q [⟨I, k + n⟩] := by
 refine Mc.Ends.c (mc.ends F_laws_heldIntS ?_)
 simp (contextual := true) (maxSteps := 1000000) (disch := omega) only [↓Sd, ↓So, ↓Sk, ↓den, ↓denA, Sa, Sb, Sc, Se, O1.d, O2.d, O3.d, cmI, arI, envOf, putN, ↓reduceIte, Nat.reduceLT, Nat.reduceSub, Nat.reduceAdd, Int.reduceAdd, Int.reduceEq, Int.reduceLT, Int.reduceLE, arr_pos, arr_neg, tr_laws_heldIntS]
 refine mc.lp_for Unit (fun i s => [⟨L I, tab (fun i => k + (i : Int)) n⟩, ⟨I, k + (i : Int)⟩, ⟨I, (i : Int)⟩]) (fun i s => True) n 0 () _ (by simp) (Nat.zero_le _) trivial ?_ ?_
 ·rintro i - hi -
  simp (contextual := true) (maxSteps := 1000000) (disch := omega) only [↓Sd, ↓So, ↓Sk, ↓den, ↓denA, Sa, Sb, Sc, Se, O1.d, O2.d, O3.d, cmI, arI, envOf, putN, ↓reduceIte, Nat.reduceLT, Nat.reduceSub, Nat.reduceAdd, Int.reduceAdd, Int.reduceEq, Int.reduceLT, Int.reduceLE, arr_pos, arr_neg, tab_len, tab_get hi]
  exact iD (by omega)
 ·rintro - -
  simp (contextual := true) (maxSteps := 1000000) (disch := omega) only [↓Sd, ↓So, ↓Sk, ↓den, ↓denA, Sa, Sb, Sc, Se, O1.d, O2.d, O3.d, cmI, arI, envOf, putN, ↓reduceIte, Nat.reduceLT, Nat.reduceSub, Nat.reduceAdd, Int.reduceAdd, Int.reduceEq, Int.reduceLT, Int.reduceLE, arr_pos, arr_neg, tab_len]
theorem mk_VarS (l : List Vr) (k : Int) (hk : 0 ≤ k ∧ k ≤ 9200000000000000000) (hl : Few l) {Q : List AV → Prop} (h : ∀ l', Q [⟨I, k + 3 * l.length⟩, ⟨L V3, l'⟩]) : mc.C f_laws_markVarS [⟨L V3, l⟩, ⟨I, k⟩] Q := by
 have hl := few_lim hl
 refine mc.c_of F_laws_markVarS ?_
 simp (contextual := true) (maxSteps := 1000000) (disch := omega) only [↓Sd, ↓So, ↓Sk, ↓den, ↓denA, Sa, Sb, Sc, Se, O1.d, O2.d, O3.d, cmI, arI, envOf, putN, ↓reduceIte, Nat.reduceLT, Nat.reduceSub, Nat.reduceAdd, Int.reduceAdd, Int.reduceEq, Int.reduceLT, Int.reduceLE, arr_pos, arr_neg, tr_laws_markVarS]
 refine mc.lp_for (List Vr) (fun i s => [⟨I, k + 3 * (i : Int)⟩, ⟨I, (i : Int)⟩, ⟨L V3, s⟩]) (fun i s => s.length = l.length) l.length 0 l _ (by simp) (Nat.zero_le _) rfl ?_ ?_
 ·rintro i s hi hs
  simp (contextual := true) (maxSteps := 1000000) (disch := omega) only [↓Sd, ↓So, ↓Sk, ↓den, ↓denA, Sa, Sb, Sc, Se, O1.d, O2.d, O3.d, cmI, arI, envOf, putN, ↓reduceIte, Nat.reduceLT, Nat.reduceSub, Nat.reduceAdd, Int.reduceAdd, Int.reduceEq, Int.reduceLT, Int.reduceLE, arr_pos, arr_neg, List.length_set, getD_set_eq, List.set_set]
  exact ⟨_, ⟨iD (by omega), rfl⟩, by simp [hs]⟩
 ·rintro s hs
  simp (contextual := true) (maxSteps := 1000000) (disch := omega) only [↓Sd, ↓So, ↓Sk, ↓den, ↓denA, Sa, Sb, Sc, Se, O1.d, O2.d, O3.d, cmI, arI, envOf, putN, ↓reduceIte, Nat.reduceLT, Nat.reduceSub, Nat.reduceAdd, Int.reduceAdd, Int.reduceEq, Int.reduceLT, Int.reduceLE, arr_pos, arr_neg, ]
  exact h s
theorem mk_TermS (l : List Tm) (k : Int) (hk : 0 ≤ k ∧ k ≤ 9200000000000000000) (hl : Few l) {Q : List AV → Prop} (h : ∀ l', Q [⟨I, k + 4 * l.length⟩, ⟨L T4, l'⟩]) : mc.C f_laws_markTermS [⟨L T4, l⟩, ⟨I, k⟩] Q := by
 have hl := few_lim hl
 refine mc.c_of F_laws_markTermS ?_
 simp (contextual := true) (maxSteps := 1000000) (disch := omega) only [↓Sd, ↓So, ↓Sk, ↓den, ↓denA, Sa, Sb, Sc, Se, O1.d, O2.d, O3.d, cmI, arI, envOf, putN, ↓reduceIte, Nat.reduceLT, Nat.reduceSub, Nat.reduceAdd, Int.reduceAdd, Int.reduceEq, Int.reduceLT, Int.reduceLE, arr_pos, arr_neg, tr_laws_markTermS]
 refine mc.lp_for (List Tm) (fun i s => [⟨I, k + 4 * (i : Int)⟩, ⟨I, (i : Int)⟩, ⟨L T4, s⟩]) (fun i s => s.length = l.length) l.length 0 l _ (by simp) (Nat.zero_le _) rfl ?_ ?_
 ·rintro i s hi hs
  simp (contextual := true) (maxSteps := 1000000) (disch := omega) only [↓Sd, ↓So, ↓Sk, ↓den, ↓denA, Sa, Sb, Sc, Se, O1.d, O2.d, O3.d, cmI, arI, envOf, putN, ↓reduceIte, Nat.reduceLT, Nat.reduceSub, Nat.reduceAdd, Int.reduceAdd, Int.reduceEq, Int.reduceLT, Int.reduceLE, arr_pos, arr_neg, List.length_set, getD_set_eq, List.set_set]
  exact ⟨_, ⟨iD (by omega), rfl⟩, by simp [hs]⟩
 ·rintro s hs
  simp (contextual := true) (maxSteps := 1000000) (disch := omega) only [↓Sd, ↓So, ↓Sk, ↓den, ↓denA, Sa, Sb, Sc, Se, O1.d, O2.d, O3.d, cmI, arI, envOf, putN, ↓reduceIte, Nat.reduceLT, Nat.reduceSub, Nat.reduceAdd, Int.reduceAdd, Int.reduceEq, Int.reduceLT, Int.reduceLE, arr_pos, arr_neg, ]
  exact h s
theorem mk_TermSS (l : List (List Tm)) (k : Int) (hk : 0 ≤ k ∧ k ≤ 9100000000000000000) (hl : Few l) (hl2 : ∀ x ∈ l, Few x) {Q : List AV → Prop} (h : ∀ k' l', k ≤ k' ∧ k' ≤ k + 4398046511104 → Q [⟨I, k'⟩, ⟨L (L T4), l'⟩]) : mc.C f_laws_markTermSS [⟨L (L T4), l⟩, ⟨I, k⟩] Q := by
 have hl := few_lim hl
 refine mc.c_of F_laws_markTermSS ?_
 simp (contextual := true) (maxSteps := 1000000) (disch := omega) only [↓Sd, ↓So, ↓Sk, ↓den, ↓denA, Sa, Sb, Sc, Se, O1.d, O2.d, O3.d, cmI, arI, envOf, putN, ↓reduceIte, Nat.reduceLT, Nat.reduceSub, Nat.reduceAdd, Int.reduceAdd, Int.reduceEq, Int.reduceLT, Int.reduceLE, arr_pos, arr_neg, tr_laws_markTermSS]
 refine mc.lp_for (Int × List (List Tm)) (fun i s => [⟨I, s.1⟩, ⟨I, (i : Int)⟩, ⟨L (L T4), s.2⟩]) (fun i s => (k ≤ s.1 ∧ s.1 ≤ k + 4194304 * (i : Int)) ∧ Same l s.2 [] i) l.length 0 (k, l) _ (by simp) (Nat.zero_le _) ⟨⟨by simp, by simp⟩, Same.refl⟩ ?_ ?_
 ·rintro i ⟨m, s⟩ hi ⟨⟨hm1, hm2⟩, hs⟩
  simp only at hm1 hm2 hs
  have hsl := hs.1
  have hsi := hs.2 i (Nat.le_refl _)
  have hf := hl2 _ (getD_mem (d := []) hi)
  have hf' := few_lim hf
  simp (contextual := true) (maxSteps := 1000000) (disch := omega) only [↓Sd, ↓So, ↓Sk, ↓den, ↓denA, Sa, Sb, Sc, Se, O1.d, O2.d, O3.d, cmI, arI, envOf, putN, ↓reduceIte, Nat.reduceLT, Nat.reduceSub, Nat.reduceAdd, Int.reduceAdd, Int.reduceEq, Int.reduceLT, Int.reduceLE, arr_pos, arr_neg, hsi]
  refine mk_TermS _ m (by omega) hf fun l' => ?_
  simp (contextual := true) (maxSteps := 1000000) (disch := omega) only [↓Sd, ↓So, ↓Sk, ↓den, ↓denA, Sa, Sb, Sc, Se, O1.d, O2.d, O3.d, cmI, arI, envOf, putN, ↓reduceIte, Nat.reduceLT, Nat.reduceSub, Nat.reduceAdd, Int.reduceAdd, Int.reduceEq, Int.reduceLT, Int.reduceLE, arr_pos, arr_neg, ]
  exact ⟨(_, _), ⟨rfl, rfl⟩, ⟨by omega, by omega⟩, hs.set⟩
 ·rintro ⟨m, s⟩ ⟨⟨hm1, hm2⟩, hs⟩
  simp only at hm1 hm2 hs
  have hsl := hs.1
  simp (contextual := true) (maxSteps := 1000000) (disch := omega) only [↓Sd, ↓So, ↓Sk, ↓den, ↓denA, Sa, Sb, Sc, Se, O1.d, O2.d, O3.d, cmI, arI, envOf, putN, ↓reduceIte, Nat.reduceLT, Nat.reduceSub, Nat.reduceAdd, Int.reduceAdd, Int.reduceEq, Int.reduceLT, Int.reduceLE, arr_pos, arr_neg, ]
  exact h m s ⟨by omega, by omega⟩
theorem mk_RuleS (l : List Ru) (k : Int) (hk : 0 ≤ k ∧ k ≤ 4400000000000000000) (hl : Few l) (hl2 : ∀ x ∈ l, FewRu x) {Q : List AV → Prop} (h : ∀ k' l', k ≤ k' ∧ k' ≤ k + 4611691515985526784 → Q [⟨I, k'⟩, ⟨L TR, l'⟩]) : mc.C f_laws_markRuleS [⟨L TR, l⟩, ⟨I, k⟩] Q := by
 have hl := few_lim hl
 refine mc.c_of F_laws_markRuleS ?_
 simp (contextual := true) (maxSteps := 1000000) (disch := omega) only [↓Sd, ↓So, ↓Sk, ↓den, ↓denA, Sa, Sb, Sc, Se, O1.d, O2.d, O3.d, cmI, arI, envOf, putN, ↓reduceIte, Nat.reduceLT, Nat.reduceSub, Nat.reduceAdd, Int.reduceAdd, Int.reduceEq, Int.reduceLT, Int.reduceLE, arr_pos, arr_neg, tr_laws_markRuleS]
 refine mc.lp_for (Int × List Ru) (fun i s => [⟨I, s.1⟩, ⟨I, (i : Int)⟩, ⟨L TR, s.2⟩]) (fun i s => (k ≤ s.1 ∧ s.1 ≤ k + 4398051753984 * (i : Int)) ∧ Same l s.2 ([], [], []) i) l.length 0 (k, l) _ (by simp) (Nat.zero_le _) ⟨⟨by simp, by simp⟩, Same.refl⟩ ?_ ?_
 ·rintro i ⟨m, s⟩ hi ⟨⟨hm1, hm2⟩, hs⟩
  simp only at hm1 hm2 hs
  have hsl := hs.1
  have hsi := hs.2 i (Nat.le_refl _)
  obtain ⟨c1, c2, c3, c4⟩ := hl2 _ (getD_mem (d := ([], [], [])) hi)
  have c1' := few_lim c1
  have c2' := few_lim c2
  obtain ⟨r, hr⟩ : ∃ r, l.getD i ([], [], []) = r := ⟨_, rfl⟩
  rw [hr] at hsi c1 c2 c3 c4 c1' c2'
  simp (contextual := true) (maxSteps := 1000000) (disch := omega) only [↓Sd, ↓So, ↓Sk, ↓den, ↓denA, Sa, Sb, Sc, Se, O1.d, O2.d, O3.d, cmI, arI, envOf, putN, ↓reduceIte, Nat.reduceLT, Nat.reduceSub, Nat.reduceAdd, Int.reduceAdd, Int.reduceEq, Int.reduceLT, Int.reduceLE, arr_pos, arr_neg, hsi]
  refine mk_TermS r.1 m (by omega) c1 fun l1 => ?_
  simp (contextual := true) (maxSteps := 1000000) (disch := omega) only [↓Sd, ↓So, ↓Sk, ↓den, ↓denA, Sa, Sb, Sc, Se, O1.d, O2.d, O3.d, cmI, arI, envOf, putN, ↓reduceIte, Nat.reduceLT, Nat.reduceSub, Nat.reduceAdd, Int.reduceAdd, Int.reduceEq, Int.reduceLT, Int.reduceLE, arr_pos, arr_neg, hsi, List.length_set, getD_set_eq, List.set_set, mk_IntS r.2.1 (m + 4 * r.1.length) (by omega) (by omega)]
  refine mk_TermSS r.2.2 _ (by omega) c3 c4 fun k' l' hk' => ?_
  simp (contextual := true) (maxSteps := 1000000) (disch := omega) only [↓Sd, ↓So, ↓Sk, ↓den, ↓denA, Sa, Sb, Sc, Se, O1.d, O2.d, O3.d, cmI, arI, envOf, putN, ↓reduceIte, Nat.reduceLT, Nat.reduceSub, Nat.reduceAdd, Int.reduceAdd, Int.reduceEq, Int.reduceLT, Int.reduceLE, arr_pos, arr_neg, hsi, List.length_set, getD_set_eq, List.set_set]
  exact ⟨(_, _), ⟨rfl, rfl⟩, ⟨by omega, by omega⟩, hs.set⟩
 ·rintro ⟨m, s⟩ ⟨⟨hm1, hm2⟩, hs⟩
  simp only at hm1 hm2 hs
  have hsl := hs.1
  simp (contextual := true) (maxSteps := 1000000) (disch := omega) only [↓Sd, ↓So, ↓Sk, ↓den, ↓denA, Sa, Sb, Sc, Se, O1.d, O2.d, O3.d, cmI, arI, envOf, putN, ↓reduceIte, Nat.reduceLT, Nat.reduceSub, Nat.reduceAdd, Int.reduceAdd, Int.reduceEq, Int.reduceLT, Int.reduceLE, arr_pos, arr_neg, ]
  exact h m s ⟨by omega, by omega⟩
theorem mk_System (s : Sy) (k : Int) (hk : 0 ≤ k ∧ k ≤ 4000000000000000000) (h : FewSy s) {Q : List AV → Prop} (hQ : ∀ k' v r, k ≤ k' ∧ k' ≤ k + 4611691515988672512 → Q [⟨I, k'⟩, ⟨L V3, v⟩, ⟨L TR, r⟩]) : mc.C f_laws_markSystem [⟨L V3, s.1⟩, ⟨L TR, s.2⟩, ⟨I, k⟩] Q := by
 obtain ⟨h1, h2, h3⟩ := h
 have h1' := few_lim h1
 refine mc.c_of F_laws_markSystem ?_
 simp (contextual := true) (maxSteps := 1000000) (disch := omega) only [↓Sd, ↓So, ↓Sk, ↓den, ↓denA, Sa, Sb, Sc, Se, O1.d, O2.d, O3.d, cmI, arI, envOf, putN, ↓reduceIte, Nat.reduceLT, Nat.reduceSub, Nat.reduceAdd, Int.reduceAdd, Int.reduceEq, Int.reduceLT, Int.reduceLE, arr_pos, arr_neg, tr_laws_markSystem]
 refine mk_VarS _ k (by omega) h1 fun l' => ?_
 simp (contextual := true) (maxSteps := 1000000) (disch := omega) only [↓Sd, ↓So, ↓Sk, ↓den, ↓denA, Sa, Sb, Sc, Se, O1.d, O2.d, O3.d, cmI, arI, envOf, putN, ↓reduceIte, Nat.reduceLT, Nat.reduceSub, Nat.reduceAdd, Int.reduceAdd, Int.reduceEq, Int.reduceLT, Int.reduceLE, arr_pos, arr_neg, ]
 refine mk_RuleS _ _ (by omega) h2 h3 fun k' r hk' => ?_
 simp (contextual := true) (maxSteps := 1000000) (disch := omega) only [↓Sd, ↓So, ↓Sk, ↓den, ↓denA, Sa, Sb, Sc, Se, O1.d, O2.d, O3.d, cmI, arI, envOf, putN, ↓reduceIte, Nat.reduceLT, Nat.reduceSub, Nat.reduceAdd, Int.reduceAdd, Int.reduceEq, Int.reduceLT, Int.reduceLE, arr_pos, arr_neg, ]
 exact hQ k' _ r ⟨by omega, by omega⟩
theorem few_i {l : List Int} (h : l.length ≤ 1048576) : Few l := h
theorem Rch.trans {T : List (List Int)} {a b c : Nat} (h : Rch T [(a : Int)] b) (h2 : Rch T [(b : Int)] c) : Rch T [(a : Int)] c := by
 induction h2 with
 | base h3 => simp only [List.mem_singleton] at h3; have h3 := Int.ofNat_inj.1 h3; subst h3; exact h
 | step _ h3 ih => exact .step ih h3
theorem beq_dB {a b : Int} : (a == b) = dB (a = b) := by
 by_cases h : a = b
 ·rw [dB_t h]; simpa using h
 ·rw [dB_f h]; simpa using h
def SmSS (l : List (List Int)) : Prop := l.length ≤ 4000 ∧ ∀ x ∈ l, x.length ≤ 4000
theorem SmSS.row {l : List (List Int)} (h : SmSS l) (i : Nat) : (l.getD i []).length ≤ 4000 := by
 by_cases hi : i < l.length
 ·exact h.2 _ (getD_mem hi)
 ·rw [List.getD_eq_getElem?_getD, List.getElem?_eq_none (by omega)]; simp
theorem tab_self {α : Type} {l : List α} {d : α} : tab (fun i => l.getD i d) l.length = l := by
 refine List.ext_getElem tab_len fun i h1 h2 => ?_
 simp [tab]
 rw [List.getElem?_eq_getElem h2]; rfl
def fOk (s : Sy) (F : List (List Tm)) : Prop := valid s ∧ F.length ≤ 4 ∧ ∀ i, i < F.length → kf (F.getD i []) s.1.length = 2
instance (s : Sy) (F : List (List Tm)) : Decidable (fOk s F) := by unfold fOk; infer_instance
def FewSS (F : List (List Tm)) : Prop := Few F ∧ ∀ x ∈ F, Few x
theorem FewSS.row {F : List (List Tm)} (h : FewSS F) (i : Nat) : Few (F.getD i []) := by
 by_cases hi : i < F.length
 ·exact h.2 _ (getD_mem hi)
 ·rw [List.getD_eq_getElem?_getD, List.getElem?_eq_none (by omega)]; simp [Few]
def ltr (F : List (List Tm)) (st : List Int) : List Int := tab (fun i => evl (F.getD i []) st) F.length
def onw (s : Sy) : List (List Int) := tab (fun k => if (steps s).getD k [] = [] then [(k : Int)] else (steps s).getD k []) (szn s.1)
def ltrs (s : Sy) (F : List (List Tm)) : List (List Int) := tab (fun k => ltr F (stN s k)) (szn s.1)
theorem C_spec_l20Facts (s : Sy) (F : List (List Tm)) (hs : FewSy s) (hF : FewSS F) (Q : List AV → Prop) : mc.C f_spec_l20Facts [⟨L V3, s.1⟩, ⟨L TR, s.2⟩, ⟨L (L T4), F⟩] Q = Q [⟨B, decide (fOk s F)⟩] := by
 have hl : F.length ≤ 1048576 := hF.1
 refine Mc.Ends.c (mc.ends F_spec_l20Facts ?_)
 generalize hK : decide (fOk s F) = K
 simp (contextual := true) (maxSteps := 1000000) (disch := omega) only [↓Sd, ↓So, ↓Sk, ↓den, ↓denA, Sa, Sb, Sc, Se, O1.d, O2.d, O3.d, cmI, arI, envOf, putN, ↓reduceIte, Nat.reduceLT, Nat.reduceSub, Nat.reduceAdd, Int.reduceAdd, Int.reduceEq, Int.reduceLT, Int.reduceLE, arr_pos, arr_neg, tr_spec_l20Facts]
 refine lp_all (fun i => [⟨L (L T4), F⟩, ⟨I, (i : Int)⟩, ⟨L V3, s.1⟩, ⟨L TR, s.2⟩]) (fun i => kf (F.getD i []) s.1.length = 2) F.length _ rfl ?_ ?_
 ·intro i hi
  simp (contextual := true) (maxSteps := 1000000) (disch := omega) only [↓Sd, ↓So, ↓Sk, ↓den, ↓denA, Sa, Sb, Sc, Se, O1.d, O2.d, O3.d, cmI, arI, envOf, putN, ↓reduceIte, Nat.reduceLT, Nat.reduceSub, Nat.reduceAdd, Int.reduceAdd, Int.reduceEq, Int.reduceLT, Int.reduceLE, arr_pos, arr_neg, C_spec_l2Is (F.getD i []) s.1.length 2 (hF.row i) (by omega)]
  intro g
  rw [← hK, decide_eq_false fun h => g (h.2.2 i hi)]
 ·intro h
  simp (contextual := true) (maxSteps := 1000000) (disch := omega) only [↓Sd, ↓So, ↓Sk, ↓den, ↓denA, Sa, Sb, Sc, Se, O1.d, O2.d, O3.d, cmI, arI, envOf, putN, ↓reduceIte, Nat.reduceLT, Nat.reduceSub, Nat.reduceAdd, Int.reduceAdd, Int.reduceEq, Int.reduceLT, Int.reduceLE, arr_pos, arr_neg, C_spec_SystemValid s hs]
  refine ⟨fun hv => ?_, fun hv => by rw [← hK, decide_eq_false fun h => hv h.1]⟩
  rw [← hK]
  exact decide_eq_decide.2 ⟨fun g => ⟨hv, by omega, h⟩, fun g => by have := g.2.1; omega⟩
theorem C_impl_factsOk (s : Sy) (F : List (List Tm)) (hs : FewSy s) (hF : FewSS F) (Q : List AV → Prop) : mc.C f_impl_factsOk [⟨L V3, s.1⟩, ⟨L TR, s.2⟩, ⟨L (L T4), F⟩] Q = Q [⟨B, decide (fOk s F)⟩] := by
 have hl : F.length ≤ 1048576 := hF.1
 refine Mc.Ends.c (mc.ends F_impl_factsOk ?_)
 generalize hK : decide (fOk s F) = K
 simp (contextual := true) (maxSteps := 1000000) (disch := omega) only [↓Sd, ↓So, ↓Sk, ↓den, ↓denA, Sa, Sb, Sc, Se, O1.d, O2.d, O3.d, cmI, arI, envOf, putN, ↓reduceIte, Nat.reduceLT, Nat.reduceSub, Nat.reduceAdd, Int.reduceAdd, Int.reduceEq, Int.reduceLT, Int.reduceLE, arr_pos, arr_neg, tr_impl_factsOk, C_impl_SystemValid s hs]
 refine ⟨fun hv => ⟨fun h4 => ?_, fun h4 => by rw [← hK, decide_eq_false fun h => h4 (by have := h.2.1; omega)]⟩, fun hv => by rw [← hK, decide_eq_false fun h => hv h.1]⟩
 refine lp_all (fun i => [⟨L (L T4), F⟩, ⟨I, (F.length : Int)⟩, ⟨I, (i : Int)⟩, ⟨L V3, s.1⟩, ⟨L TR, s.2⟩]) (fun i => kf (F.getD i []) s.1.length = 2) F.length _ rfl ?_ ?_
 ·intro i hi
  simp (contextual := true) (maxSteps := 1000000) (disch := omega) only [↓Sd, ↓So, ↓Sk, ↓den, ↓denA, Sa, Sb, Sc, Se, O1.d, O2.d, O3.d, cmI, arI, envOf, putN, ↓reduceIte, Nat.reduceLT, Nat.reduceSub, Nat.reduceAdd, Int.reduceAdd, Int.reduceEq, Int.reduceLT, Int.reduceLE, arr_pos, arr_neg, C_impl_kindOf (F.getD i []) s.1.length (hF.row i)]
  intro g
  have hno : ¬ fOk s F := fun h => g (h.2.2 i hi)
  rw [← hK, decide_eq_false hno]
  simp
 ·intro h
  simp (contextual := true) (maxSteps := 1000000) (disch := omega) only [↓Sd, ↓So, ↓Sk, ↓den, ↓denA, Sa, Sb, Sc, Se, O1.d, O2.d, O3.d, cmI, arI, envOf, putN, ↓reduceIte, Nat.reduceLT, Nat.reduceSub, Nat.reduceAdd, Int.reduceAdd, Int.reduceEq, Int.reduceLT, Int.reduceLE, arr_pos, arr_neg, ]
  rw [← hK, decide_eq_true (p := fOk s F) ⟨hv, by omega, h⟩]
  rfl
theorem C_spec_l20Of (F : List (List Tm)) (st : List Int) (hl : F.length ≤ 4) (h : ∀ i, i < F.length → kf (F.getD i []) st.length = 2) (hb : Bds st) (Q : List AV → Prop) : mc.C f_spec_l20Of [⟨L (L T4), F⟩, ⟨L I, st⟩] Q = Q [⟨L I, ltr F st⟩] := by
 refine Mc.Ends.c (mc.ends F_spec_l20Of ?_)
 simp (contextual := true) (maxSteps := 1000000) (disch := omega) only [↓Sd, ↓So, ↓Sk, ↓den, ↓denA, Sa, Sb, Sc, Se, O1.d, O2.d, O3.d, cmI, arI, envOf, putN, ↓reduceIte, Nat.reduceLT, Nat.reduceSub, Nat.reduceAdd, Int.reduceAdd, Int.reduceEq, Int.reduceLT, Int.reduceLE, arr_pos, arr_neg, tr_spec_l20Of]
 refine mc.lp_for (List Int) (fun i o => [⟨L (L T4), F⟩, ⟨L I, st⟩, ⟨I, (i : Int)⟩, ⟨L I, o⟩]) (fun i o => o = tab (fun i => evl (F.getD i []) st) i) F.length 0 [] _ rfl (Nat.zero_le _) rfl ?_ ?_
 ·rintro i o hi rfl
  have h1 := h i hi
  simp (contextual := true) (maxSteps := 1000000) (disch := omega) only [↓Sd, ↓So, ↓Sk, ↓den, ↓denA, Sa, Sb, Sc, Se, O1.d, O2.d, O3.d, cmI, arI, envOf, putN, ↓reduceIte, Nat.reduceLT, Nat.reduceSub, Nat.reduceAdd, Int.reduceAdd, Int.reduceEq, Int.reduceLT, Int.reduceLE, arr_pos, arr_neg, tab_len, C_spec_l2Last (F.getD i []) st st.length (by omega) hb rfl]
  exact tab_next
 ·rintro o rfl
  simp (contextual := true) (maxSteps := 1000000) (disch := omega) only [↓Sd, ↓So, ↓Sk, ↓den, ↓denA, Sa, Sb, Sc, Se, O1.d, O2.d, O3.d, cmI, arI, envOf, putN, ↓reduceIte, Nat.reduceLT, Nat.reduceSub, Nat.reduceAdd, Int.reduceAdd, Int.reduceEq, Int.reduceLT, Int.reduceLE, arr_pos, arr_neg, ]
  rfl
theorem C_impl_letters (F : List (List Tm)) (st : List Int) (hl : F.length ≤ 4) (h : ∀ i, i < F.length → kf (F.getD i []) st.length = 2) (hb : Bds st) (Q : List AV → Prop) : mc.C f_impl_letters [⟨L (L T4), F⟩, ⟨L I, st⟩] Q = Q [⟨L I, ltr F st⟩] := by
 refine Mc.Ends.c (mc.ends F_impl_letters ?_)
 simp (contextual := true) (maxSteps := 1000000) (disch := omega) only [↓Sd, ↓So, ↓Sk, ↓den, ↓denA, Sa, Sb, Sc, Se, O1.d, O2.d, O3.d, cmI, arI, envOf, putN, ↓reduceIte, Nat.reduceLT, Nat.reduceSub, Nat.reduceAdd, Int.reduceAdd, Int.reduceEq, Int.reduceLT, Int.reduceLE, arr_pos, arr_neg, tr_impl_letters]
 refine mc.lp_for (List Int) (fun i o => [⟨L I, st⟩, ⟨L (L T4), F⟩, ⟨I, (F.length : Int)⟩, ⟨I, (i : Int)⟩, ⟨L I, o⟩]) (fun i o => o = tab (fun j => if j < i then evl (F.getD j []) st else 0) F.length) F.length 0 (List.replicate F.length 0) _ rfl (Nat.zero_le _) (by rw [rep_tab]; rfl) ?_ ?_
 ·rintro i o hi rfl
  have h1 := h i hi
  simp (contextual := true) (maxSteps := 1000000) (disch := omega) only [↓Sd, ↓So, ↓Sk, ↓den, ↓denA, Sa, Sb, Sc, Se, O1.d, O2.d, O3.d, cmI, arI, envOf, putN, ↓reduceIte, Nat.reduceLT, Nat.reduceSub, Nat.reduceAdd, Int.reduceAdd, Int.reduceEq, Int.reduceLT, Int.reduceLE, arr_pos, arr_neg, tab_len, C_impl_eval (F.getD i []) st st.length (by omega) hb rfl, tab_set']
  refine tab_congr fun k _ => ?_
  by_cases e : k = i
  ·subst e; rw [if_pos rfl, if_pos (by omega)]
  ·rw [if_neg e]
   by_cases e2 : k < i
   ·rw [if_pos e2, if_pos (by omega)]
   ·rw [if_neg e2, if_neg (by omega)]
 ·rintro o rfl
  simp (contextual := true) (maxSteps := 1000000) (disch := omega) only [↓Sd, ↓So, ↓Sk, ↓den, ↓denA, Sa, Sb, Sc, Se, O1.d, O2.d, O3.d, cmI, arI, envOf, putN, ↓reduceIte, Nat.reduceLT, Nat.reduceSub, Nat.reduceAdd, Int.reduceAdd, Int.reduceEq, Int.reduceLT, Int.reduceLE, arr_pos, arr_neg, ]
  exact tab_congr fun k hk => if_pos hk
def onwN (s : Sy) (i : Nat) : List (List Int) := tab (fun k => if k < i ∧ (steps s).getD k [] = [] then [(k : Int)] else (steps s).getD k []) (szn s.1)
theorem onwN_0 {s : Sy} : onwN s 0 = steps s := by
 have hl : (steps s).length = szn s.1 := tab_len
 refine Eq.trans ?_ (tab_self (l := steps s) (d := []))
 rw [onwN, hl]
 exact tab_congr fun k _ => if_neg fun h => by omega
theorem onwN_n {s : Sy} : onwN s (szn s.1) = onw s := tab_congr fun k hk => by
 by_cases g : (steps s).getD k [] = []
 ·rw [if_pos ⟨hk, g⟩, if_pos g]
 ·rw [if_neg fun h => g h.2, if_neg g]
theorem onwN_get {s : Sy} {i : Nat} (hi : i < szn s.1) : (onwN s i).getD i [] = (steps s).getD i [] := by
 rw [onwN, tab_get hi, if_neg fun h => by omega]
theorem onwN_set {s : Sy} {i : Nat} (hi : i < szn s.1) (h : (steps s).getD i [] = []) : (onwN s i).set i [(i : Int)] = onwN s (i + 1) := by
 rw [onwN, tab_set']
 refine tab_congr fun k _ => ?_
 by_cases e : k = i
 ·subst e; rw [if_pos rfl, if_pos ⟨by omega, h⟩]
 ·rw [if_neg e]
  by_cases e2 : k < i ∧ (steps s).getD k [] = []
  ·rw [if_pos e2, if_pos ⟨by omega, e2.2⟩]
  ·rw [if_neg e2, if_neg fun h => e2 ⟨by omega, h.2⟩]
theorem onwN_keep {s : Sy} {i : Nat} (h : ¬ (steps s).getD i [] = []) : onwN s i = onwN s (i + 1) := tab_congr fun k _ => by
 by_cases e : k = i
 ·subst e; rw [if_neg fun g => h g.2, if_neg fun g => h g.2]
 ·by_cases e2 : k < i ∧ (steps s).getD k [] = []
  ·rw [if_pos e2, if_pos ⟨by omega, e2.2⟩]
  ·rw [if_neg e2, if_neg fun h => e2 ⟨by omega, h.2⟩]
theorem nil_len {l : List Int} : ((l.length : Int) = 0) = (l = []) := propext ⟨fun h => List.eq_nil_of_length_eq_zero (by omega), fun h => by rw [h]; rfl⟩
theorem C_spec_l22Onward (s : Sy) (hs : FewSy s) (h : valid s) (Q : List AV → Prop) : mc.C f_spec_l22Onward [⟨L V3, s.1⟩, ⟨L TR, s.2⟩] Q = Q [⟨L (L I), onw s⟩] := by
 have hz := szn_eq h
 have hl : ∀ i, (onwN s i).length = szn s.1 := fun i => tab_len
 refine Mc.Ends.c (mc.ends F_spec_l22Onward ?_)
 simp (contextual := true) (maxSteps := 1000000) (disch := omega) only [↓Sd, ↓So, ↓Sk, ↓den, ↓denA, Sa, Sb, Sc, Se, O1.d, O2.d, O3.d, cmI, arI, envOf, putN, ↓reduceIte, Nat.reduceLT, Nat.reduceSub, Nat.reduceAdd, Int.reduceAdd, Int.reduceEq, Int.reduceLT, Int.reduceLE, arr_pos, arr_neg, tr_spec_l22Onward, C_spec_l4Steps s hs h]
 refine mc.lp_for (List (List Int)) (fun i o => [⟨I, (i : Int)⟩, ⟨L (L I), o⟩]) (fun i o => o = onwN s i) (szn s.1) 0 (steps s) _ rfl (Nat.zero_le _) onwN_0.symm ?_ ?_
 ·rintro i o hi rfl
  simp (contextual := true) (maxSteps := 1000000) (disch := omega) only [↓Sd, ↓So, ↓Sk, ↓den, ↓denA, Sa, Sb, Sc, Se, O1.d, O2.d, O3.d, cmI, arI, envOf, putN, ↓reduceIte, Nat.reduceLT, Nat.reduceSub, Nat.reduceAdd, Int.reduceAdd, Int.reduceEq, Int.reduceLT, Int.reduceLE, arr_pos, arr_neg, ↓wpJoin, hl, onwN_get hi, nil_len]
  exact ⟨fun g => onwN_set hi g, fun g => onwN_keep g⟩
 ·rintro o rfl
  simp (contextual := true) (maxSteps := 1000000) (disch := omega) only [↓Sd, ↓So, ↓Sk, ↓den, ↓denA, Sa, Sb, Sc, Se, O1.d, O2.d, O3.d, cmI, arI, envOf, putN, ↓reduceIte, Nat.reduceLT, Nat.reduceSub, Nat.reduceAdd, Int.reduceAdd, Int.reduceEq, Int.reduceLT, Int.reduceLE, arr_pos, arr_neg, hl]
  exact onwN_n
end Go.Proofs.YtifkpliahhodoaaGreat
namespace Go.Proofs.YtifkpliahhodoaaGreat
open Go Go.Sm Go.Sm.Q
set_option linter.unusedSimpArgs false
set_option linter.unusedVariables false
theorem C_impl_followers (s : Sy) (h : valid s) (Q : List AV → Prop) : mc.C f_impl_followers [⟨L V3, s.1⟩, ⟨L TR, s.2⟩] Q = Q [⟨L (L I), onw s⟩] := by
 have hz := szn_eq h
 have hl : ∀ i, (onwN s i).length = szn s.1 := fun i => tab_len
 have hl0 : (steps s).length = szn s.1 := tab_len
 refine Mc.Ends.c (mc.ends F_impl_followers ?_)
 simp (contextual := true) (maxSteps := 1000000) (disch := omega) only [↓Sd, ↓So, ↓Sk, ↓den, ↓denA, Sa, Sb, Sc, Se, O1.d, O2.d, O3.d, cmI, arI, envOf, putN, ↓reduceIte, Nat.reduceLT, Nat.reduceSub, Nat.reduceAdd, Int.reduceAdd, Int.reduceEq, Int.reduceLT, Int.reduceLE, arr_pos, arr_neg, tr_impl_followers, C_impl_nexts s h, hl0]
 refine mc.lp_for (List (List Int)) (fun i o => [⟨I, (szn s.1 : Int)⟩, ⟨I, (i : Int)⟩, ⟨L (L I), o⟩]) (fun i o => o = onwN s i) (szn s.1) 0 (steps s) _ rfl (Nat.zero_le _) onwN_0.symm ?_ ?_
 ·rintro i o hi rfl
  simp (contextual := true) (maxSteps := 1000000) (disch := omega) only [↓Sd, ↓So, ↓Sk, ↓den, ↓denA, Sa, Sb, Sc, Se, O1.d, O2.d, O3.d, cmI, arI, envOf, putN, ↓reduceIte, Nat.reduceLT, Nat.reduceSub, Nat.reduceAdd, Int.reduceAdd, Int.reduceEq, Int.reduceLT, Int.reduceLE, arr_pos, arr_neg, ↓wpJoin, hl, onwN_get hi, nil_len]
  exact ⟨fun g => onwN_set hi g, fun g => onwN_keep g⟩
 ·rintro o rfl
  simp (contextual := true) (maxSteps := 1000000) (disch := omega) only [↓Sd, ↓So, ↓Sk, ↓den, ↓denA, Sa, Sb, Sc, Se, O1.d, O2.d, O3.d, cmI, arI, envOf, putN, ↓reduceIte, Nat.reduceLT, Nat.reduceSub, Nat.reduceAdd, Int.reduceAdd, Int.reduceEq, Int.reduceLT, Int.reduceLE, arr_pos, arr_neg, hl]
  exact onwN_n
theorem fOk_at {s : Sy} {F : List (List Tm)} (h : fOk s F) {k : Nat} (hk : k < szn s.1) : (∀ i, i < F.length → kf (F.getD i []) (stN s k).length = 2) ∧ Bds (stN s k) := by
 have hst := stN_in h.1 hk
 exact ⟨fun i hi => by rw [hst.1]; exact h.2.2 i hi, hst.bds h.1.2.2.1⟩
theorem C_impl_lettersAll (s : Sy) (F : List (List Tm)) (h : fOk s F) (Q : List AV → Prop) : mc.C f_impl_lettersAll [⟨L V3, s.1⟩, ⟨L TR, s.2⟩, ⟨L (L T4), F⟩] Q = Q [⟨L (L I), ltrs s F⟩] := by
 have hv := h.1
 have hz := szn_eq hv
 refine Mc.Ends.c (mc.ends F_impl_lettersAll ?_)
 simp (contextual := true) (maxSteps := 1000000) (disch := omega) only [↓Sd, ↓So, ↓Sk, ↓den, ↓denA, Sa, Sb, Sc, Se, O1.d, O2.d, O3.d, cmI, arI, envOf, putN, ↓reduceIte, Nat.reduceLT, Nat.reduceSub, Nat.reduceAdd, Int.reduceAdd, Int.reduceEq, Int.reduceLT, Int.reduceLE, arr_pos, arr_neg, tr_impl_lettersAll, C_impl_size s.1 hv.1.2 hv.2.2.1]
 rw [← hz.1]
 refine mc.lp_for (List (List Int)) (fun i o => [⟨L (L T4), F⟩, ⟨I, (szn s.1 : Int)⟩, ⟨I, (i : Int)⟩, ⟨L V3, s.1⟩, ⟨L TR, s.2⟩, ⟨L (L I), o⟩]) (fun i o => o = tab (fun k => ltr F (stN s k)) i) (szn s.1) 0 [] _ rfl (Nat.zero_le _) rfl ?_ ?_
 ·rintro i o hi rfl
  have h1 := fOk_at h hi
  have hst : stAt s.1 (i : Int) = stN s i := rfl
  simp (contextual := true) (maxSteps := 1000000) (disch := omega) only [↓Sd, ↓So, ↓Sk, ↓den, ↓denA, Sa, Sb, Sc, Se, O1.d, O2.d, O3.d, cmI, arI, envOf, putN, ↓reduceIte, Nat.reduceLT, Nat.reduceSub, Nat.reduceAdd, Int.reduceAdd, Int.reduceEq, Int.reduceLT, Int.reduceLE, arr_pos, arr_neg, tab_len, C_impl_stateAt s (i : Int) hv.1.2 hv.2.2.1 (by omega), hst, C_impl_letters F (stN s i) h.2.1 h1.1 h1.2]
  exact tab_next
 ·rintro o rfl
  simp (contextual := true) (maxSteps := 1000000) (disch := omega) only [↓Sd, ↓So, ↓Sk, ↓den, ↓denA, Sa, Sb, Sc, Se, O1.d, O2.d, O3.d, cmI, arI, envOf, putN, ↓reduceIte, Nat.reduceLT, Nat.reduceSub, Nat.reduceAdd, Int.reduceAdd, Int.reduceEq, Int.reduceLT, Int.reduceLE, arr_pos, arr_neg, ]
  rfl
abbrev zT : Tm := (0, 0, 0, 0)
theorem C_slices_Contains_int (l : List Int) (x : Int) (hl : l.length ≤ 1048576) (Q : List AV → Prop) : mc.C f_slices_Contains_Sint_int [⟨L I, l⟩, ⟨I, x⟩] Q = Q [⟨B, dB (x ∈ l)⟩] := by
 have hI : ∀ {Q : List AV → Prop}, (∀ j : Int, (0 ≤ j ↔ x ∈ l) → Q [⟨I, j⟩]) → mc.C f_slices_Index_Sint_int [⟨L I, l⟩, ⟨I, x⟩] Q := by
  intro Q hQ
  refine mc.c_of F_slices_Index_Sint_int ?_
  simp (contextual := true) (maxSteps := 1000000) (disch := omega) only [↓Sd, ↓So, ↓Sk, ↓den, ↓denA, Sa, Sb, Sc, Se, O1.d, O2.d, O3.d, cmI, arI, envOf, putN, ↓reduceIte, Nat.reduceLT, Nat.reduceSub, Nat.reduceAdd, Int.reduceAdd, Int.reduceEq, Int.reduceLT, Int.reduceLE, arr_pos, arr_neg, tr_slices_Index_Sint_int]
  refine lp_all (fun i => [⟨L I, l⟩, ⟨I, x⟩, ⟨I, (l.length : Int)⟩, ⟨I, (i : Int)⟩]) (fun i => ¬ x = l.getD i 0) l.length _ rfl ?_ ?_
  ·intro i hi
   simp (contextual := true) (maxSteps := 1000000) (disch := omega) only [↓Sd, ↓So, ↓Sk, ↓den, ↓denA, Sa, Sb, Sc, Se, O1.d, O2.d, O3.d, cmI, arI, envOf, putN, ↓reduceIte, Nat.reduceLT, Nat.reduceSub, Nat.reduceAdd, Int.reduceAdd, Int.reduceEq, Int.reduceLT, Int.reduceLE, arr_pos, arr_neg, ]
   intro h
   refine hQ _ ⟨fun _ => ?_, fun _ => by omega⟩
   rw [h]; exact getD_mem hi
  ·intro h
   simp (contextual := true) (maxSteps := 1000000) (disch := omega) only [↓Sd, ↓So, ↓Sk, ↓den, ↓denA, Sa, Sb, Sc, Se, O1.d, O2.d, O3.d, cmI, arI, envOf, putN, ↓reduceIte, Nat.reduceLT, Nat.reduceSub, Nat.reduceAdd, Int.reduceAdd, Int.reduceEq, Int.reduceLT, Int.reduceLE, arr_pos, arr_neg, ]
   refine hQ _ ⟨fun h => by omega, fun hx => ?_⟩
   obtain ⟨i, hi, rfl⟩ := List.getElem_of_mem hx
   exact absurd (getD_lt hi).symm (h i hi)
 refine Mc.Ends.c (mc.ends F_slices_Contains_Sint_int ?_)
 simp (contextual := true) (maxSteps := 1000000) (disch := omega) only [↓Sd, ↓So, ↓Sk, ↓den, ↓denA, Sa, Sb, Sc, Se, O1.d, O2.d, O3.d, cmI, arI, envOf, putN, ↓reduceIte, Nat.reduceLT, Nat.reduceSub, Nat.reduceAdd, Int.reduceAdd, Int.reduceEq, Int.reduceLT, Int.reduceLE, arr_pos, arr_neg, tr_slices_Contains_Sint_int]
 refine hI fun j hj => ?_
 simp (contextual := true) (maxSteps := 1000000) (disch := omega) only [↓Sd, ↓So, ↓Sk, ↓den, ↓denA, Sa, Sb, Sc, Se, O1.d, O2.d, O3.d, cmI, arI, envOf, putN, ↓reduceIte, Nat.reduceLT, Nat.reduceSub, Nat.reduceAdd, Int.reduceAdd, Int.reduceEq, Int.reduceLT, Int.reduceLE, arr_pos, arr_neg, ]
 rw [← dB_eq]
 exact dB_congr hj
noncomputable def aB (T : List (List Int)) (n : Nat) (p : Nat → Bool) (k : Nat) : Bool := dB (ahead T p n k)
theorem aB_iff {T : List (List Int)} {n : Nat} {p : Nat → Bool} {k : Nat} : aB T n p k = true ↔ ∃ b, b < n ∧ p b = true ∧ (b : Int) ∈ T.getD k [] := dB_iff
theorem aB_congr {T : List (List Int)} {n : Nat} {p q : Nat → Bool} {k : Nat} (h : ∀ b, b < n → p b = q b) : aB T n p k = aB T n q k :=
 dB_congr ⟨fun ⟨b, h1, h2, h3⟩ => ⟨b, h1, by rw [← h b h1]; exact h2, h3⟩, fun ⟨b, h1, h2, h3⟩ => ⟨b, h1, by rw [h b h1]; exact h2, h3⟩⟩
theorem aB_mono {T : List (List Int)} {n : Nat} {p q : Nat → Bool} {k : Nat} (h : ∀ b, b < n → p b = true → q b = true) (ha : aB T n p k = true) : aB T n q k = true := by
 obtain ⟨b, h1, h2, h3⟩ := aB_iff.1 ha
 exact aB_iff.2 ⟨b, h1, h b h1 h2, h3⟩
def cT (p : Nat → Bool) : Nat → Nat
 | 0 => 0
 | n + 1 => cT p n + (if p n = true then 1 else 0)
theorem cT_le {p : Nat → Bool} : ∀ {n : Nat}, cT p n ≤ n
 | 0 => Nat.le_refl _
 | n + 1 => by
  have := @cT_le p n
  simp only [cT]; split <;> omega
theorem cT_mono {p q : Nat → Bool} : ∀ {n : Nat}, (∀ k, k < n → p k = true → q k = true) → cT p n ≤ cT q n
 | 0, _ => Nat.le_refl _
 | n + 1, h => by
  have ih := @cT_mono p q n fun k hk => h k (by omega)
  have hn := h n (by omega)
  simp only [cT]
  by_cases hp : p n = true
  ·rw [if_pos hp, if_pos (hn hp)]; omega
  ·rw [if_neg hp]; split <;> omega
theorem cT_lt {p q : Nat → Bool} : ∀ {n : Nat}, (∀ k, k < n → p k = true → q k = true) → (∃ k, k < n ∧ p k ≠ q k) → cT p n + 1 ≤ cT q n
 | 0, _, ⟨k, hk, _⟩ => absurd hk (Nat.not_lt_zero _)
 | n + 1, h, ⟨k, hk, hne⟩ => by
  have hn := h n (by omega)
  simp only [cT]
  by_cases hkn : k = n
  ·subst hkn
   have ih := @cT_mono p q k fun j hj => h j (by omega)
   cases hp : p k with
   | true => rw [hp] at hne; exact absurd (hn hp).symm hne
   | false =>
    cases hq : q k with
    | true => simp; omega
    | false => rw [hp, hq] at hne; exact absurd rfl hne
  ·have ih := @cT_lt p q n (fun j hj => h j (by omega)) ⟨k, by omega, hne⟩
   by_cases hp : p n = true
   ·rw [if_pos hp, if_pos (hn hp)]; omega
   ·rw [if_neg hp]; split <;> omega
theorem up_fix {z : Nat → Nat → Bool} {n : Nat} (hm : ∀ i k, k < n → z i k = true → z (i + 1) k = true) (hs : ∀ i, (∀ k, k < n → z (i + 1) k = z i k) → ∀ k, k < n → z (i + 2) k = z (i + 1) k) :
  (∀ k, k < n → z (n + 1) k = z n k) ∧ ∀ j, j ≤ n → (∀ k, k < n → z (j + 1) k = z j k) → ∀ k, k < n → z n k = z j k := by
 have later : ∀ j, (∀ k, k < n → z (j + 1) k = z j k) → ∀ d, (∀ k, k < n → z (j + d + 1) k = z (j + d) k) ∧ ∀ k, k < n → z (j + d) k = z j k := by
  intro j hj d
  induction d with
  | zero => exact ⟨hj, fun k _ => rfl⟩
  | succ d ih => exact ⟨hs (j + d) ih.1, fun k hk => by rw [← ih.2 k hk]; exact ih.1 k hk⟩
 refine ⟨?_, fun j hj hst k hk => ?_⟩
 ·apply Classical.byContradiction
  intro hno
  have hall : ∀ i, i ≤ n → ¬ ∀ k, k < n → z (i + 1) k = z i k := fun i hi h => hno (by
   have := (later i h (n - i)).1
   rw [show i + (n - i) = n by omega] at this
   exact this)
  have hc : ∀ i, i ≤ n + 1 → i ≤ cT (z i) n := by
   intro i
   induction i with
   | zero => intro _; exact Nat.zero_le _
   | succ i ih =>
    intro hi
    have h1 := ih (by omega)
    have h2 := hall i (by omega)
    have h3 : ∃ k, k < n ∧ z i k ≠ z (i + 1) k := Classical.byContradiction fun hh => h2 fun k hk => Classical.byContradiction fun hne => hh ⟨k, hk, fun e => hne e.symm⟩
    have := cT_lt (hm i) h3
    omega
  have := hc (n + 1) (Nat.le_refl _)
  have := @cT_le (z (n + 1)) n
  omega
 ·have := (later j hst (n - j)).2 k hk
  rwa [show j + (n - j) = n by omega] at this
theorem down_fix {z : Nat → Nat → Bool} {n : Nat} (hm : ∀ i k, k < n → z (i + 1) k = true → z i k = true) (hs : ∀ i, (∀ k, k < n → z (i + 1) k = z i k) → ∀ k, k < n → z (i + 2) k = z (i + 1) k) :
  (∀ k, k < n → z (n + 1) k = z n k) ∧ ∀ j, j ≤ n → (∀ k, k < n → z (j + 1) k = z j k) → ∀ k, k < n → z n k = z j k := by
 have nn : ∀ {a b : Bool}, (!a) = (!b) → a = b := fun {a b} h => by cases a <;> cases b <;> simp_all
 obtain ⟨h1, h2⟩ := up_fix (z := fun i k => !z i k) (n := n) (fun i k hk h => by
  simp only [Bool.not_eq_true'] at h ⊢
  cases hz : z (i + 1) k with
  | false => rfl
  | true => rw [hm i k hk hz] at h; cases h) (fun i h k hk => by
  rw [hs i (fun k hk => nn (h k hk)) k hk])
 exact ⟨fun k hk => nn (h1 k hk), fun j hj hst k hk => nn (h2 j hj (fun k hk => by rw [hst k hk]) k hk)⟩
noncomputable def euI (T : List (List Int)) (n : Nat) (p q : Nat → Bool) : Nat → Nat → Bool
 | 0, k => q k
 | i + 1, k => euI T n p q i k || (p k && aB T n (euI T n p q i) k)
noncomputable def egI (T : List (List Int)) (n : Nat) (p : Nat → Bool) : Nat → Nat → Bool
 | 0, k => p k
 | i + 1, k => egI T n p i k && aB T n (egI T n p i) k
noncomputable def nxB (T : List (List Int)) (n : Nat) (all : Bool) (z : Nat → Bool) (k : Nat) : Bool := if all = true then !aB T n (fun k => !z k) k else aB T n z k
noncomputable def fuI (T : List (List Int)) (n : Nat) (all : Bool) (p q : Nat → Bool) : Nat → Nat → Bool
 | 0, k => q k
 | i + 1, k => q k || (p k && nxB T n all (fuI T n all p q i) k)
noncomputable def gaI (T : List (List Int)) (n : Nat) (all : Bool) (p : Nat → Bool) : Nat → Nat → Bool
 | 0, k => p k
 | i + 1, k => p k && nxB T n all (gaI T n all p i) k
theorem nxB_congr {T : List (List Int)} {n : Nat} {all : Bool} {p q : Nat → Bool} {k : Nat} (h : ∀ b, b < n → p b = q b) : nxB T n all p k = nxB T n all q k := by
 unfold nxB
 rw [aB_congr h, aB_congr (p := fun k => !p k) (q := fun k => !q k) fun b hb => by rw [h b hb]]
theorem nxB_mono {T : List (List Int)} {n : Nat} {all : Bool} {p q : Nat → Bool} {k : Nat} (h : ∀ b, b < n → p b = true → q b = true) (ha : nxB T n all p k = true) : nxB T n all q k = true := by
 unfold nxB at ha ⊢
 cases all with
 | false => exact aB_mono h ha
 | true =>
  simp only [if_true, Bool.not_eq_true'] at ha ⊢
  cases hq : aB T n (fun k => !q k) k with
  | false => rfl
  | true =>
   have := aB_mono (p := fun k => !q k) (q := fun k => !p k) (fun b hb hqb => by
    simp only [Bool.not_eq_true'] at hqb ⊢
    cases hp : p b with
    | false => rfl
    | true => rw [h b hb hp] at hqb; cases hqb) hq
   rw [this] at ha; cases ha
theorem fuI_q {T : List (List Int)} {n : Nat} {all : Bool} {p q : Nat → Bool} {i k : Nat} (h : q k = true) : fuI T n all p q i k = true := by
 cases i with
 | zero => exact h
 | succ i => simp only [fuI, h, Bool.true_or]
theorem fuI_up {T : List (List Int)} {n : Nat} {all : Bool} {p q : Nat → Bool} : ∀ (i k : Nat), k < n → fuI T n all p q i k = true → fuI T n all p q (i + 1) k = true
 | 0, k, hk, h => by simp only [fuI] at h ⊢; rw [h]; rfl
 | i + 1, k, hk, h => by
  rw [fuI] at h ⊢
  simp only [Bool.or_eq_true, Bool.and_eq_true] at h ⊢
  rcases h with h | ⟨h1, h2⟩
  ·exact .inl h
  ·exact .inr ⟨h1, nxB_mono (fun b hb => fuI_up i b hb) h2⟩
theorem gaI_down {T : List (List Int)} {n : Nat} {all : Bool} {p : Nat → Bool} : ∀ (i k : Nat), k < n → gaI T n all p (i + 1) k = true → gaI T n all p i k = true
 | 0, k, hk, h => by simp only [gaI, Bool.and_eq_true] at h ⊢; exact h.1
 | i + 1, k, hk, h => by
  rw [gaI] at h ⊢
  simp only [Bool.and_eq_true] at h ⊢
  exact ⟨h.1, nxB_mono (fun b hb => gaI_down i b hb) h.2⟩
theorem fuI_fix {T : List (List Int)} {n : Nat} {all : Bool} {p q : Nat → Bool} : (∀ k, k < n → fuI T n all p q (n + 1) k = fuI T n all p q n k) ∧
  ∀ j, j ≤ n → (∀ k, k < n → fuI T n all p q (j + 1) k = fuI T n all p q j k) → ∀ k, k < n → fuI T n all p q n k = fuI T n all p q j k :=
 up_fix fuI_up fun i h k hk => by
  show (q k || (p k && nxB T n all (fuI T n all p q (i + 1)) k)) = (q k || (p k && nxB T n all (fuI T n all p q i) k))
  rw [nxB_congr h]
theorem gaI_fix {T : List (List Int)} {n : Nat} {all : Bool} {p : Nat → Bool} : (∀ k, k < n → gaI T n all p (n + 1) k = gaI T n all p n k) ∧
  ∀ j, j ≤ n → (∀ k, k < n → gaI T n all p (j + 1) k = gaI T n all p j k) → ∀ k, k < n → gaI T n all p n k = gaI T n all p j k :=
 down_fix gaI_down fun i h k hk => by
  show (p k && nxB T n all (gaI T n all p (i + 1)) k) = (p k && nxB T n all (gaI T n all p i) k)
  rw [nxB_congr h]
theorem euI_fu {T : List (List Int)} {n : Nat} {p q : Nat → Bool} : ∀ (i k : Nat), k < n → euI T n p q i k = fuI T n false p q i k
 | 0, k, hk => rfl
 | i + 1, k, hk => by
  have ih := fun b hb => euI_fu (T := T) (n := n) (p := p) (q := q) i b hb
  rw [euI, ih k hk, aB_congr ih]
  have hn : nxB T n false (fuI T n false p q i) k = aB T n (fuI T n false p q i) k := by simp [nxB]
  cases hz : fuI T n false p q i k with
  | true => rw [fuI_up i k hk hz]; rfl
  | false =>
   rw [fuI, hn, Bool.false_or]
   cases hq : q k with
   | true => rw [fuI_q hq] at hz; cases hz
   | false => rfl
theorem egI_ga {T : List (List Int)} {n : Nat} {p : Nat → Bool} : ∀ (i k : Nat), k < n → egI T n p i k = gaI T n false p i k
 | 0, k, hk => rfl
 | i + 1, k, hk => by
  have ih := fun b hb => egI_ga (T := T) (n := n) (p := p) i b hb
  rw [egI, ih k hk, aB_congr ih]
  have hn : nxB T n false (gaI T n false p i) k = aB T n (gaI T n false p i) k := by simp [nxB]
  have hd := @gaI_down T n false p i k hk
  cases hz : gaI T n false p i k with
  | true =>
   rw [gaI, hn, Bool.true_and]
   cases hp : p k with
   | true => rfl
   | false =>
    exfalso
    cases i with
    | zero => rw [gaI, hp] at hz; cases hz
    | succ i => rw [gaI, hp] at hz; cases hz
  | false =>
   rw [Bool.false_and]
   cases hz1 : gaI T n false p (i + 1) k with
   | false => rfl
   | true => rw [hd hz1] at hz; cases hz
theorem gaI_all {T : List (List Int)} {n : Nat} {p : Nat → Bool} : ∀ (i k : Nat), k < n → gaI T n true p i k = !fuI T n false (fun _ => true) (fun k => !p k) i k
 | 0, k, hk => by simp [gaI, fuI]
 | i + 1, k, hk => by
  have ih := fun b hb => gaI_all (T := T) (n := n) (p := p) i b hb
  rw [gaI, fuI]
  have h1 : nxB T n true (gaI T n true p i) k = !aB T n (fuI T n false (fun _ => true) (fun k => !p k) i) k := by
   unfold nxB
   rw [if_pos rfl, aB_congr (q := fuI T n false (fun _ => true) (fun k => !p k) i) fun b hb => by rw [ih b hb, Bool.not_not]]
  have h2 : nxB T n false (fuI T n false (fun _ => true) (fun k => !p k) i) k = aB T n (fuI T n false (fun _ => true) (fun k => !p k) i) k := by simp [nxB]
  rw [h1, h2]
  simp
noncomputable def auS (T : List (List Int)) (n : Nat) (p q : Nat → Bool) (k : Nat) : Bool := !(euI T n (fun k => !q k) (fun k => !q k && !p k) n k) && !(egI T n (fun k => !q k) n k)
theorem auS_fu {T : List (List Int)} {n : Nat} {p q : Nat → Bool} {k : Nat} (hk : k < n) : fuI T n true p q n k = auS T n p q k := by
 obtain ⟨bad, hbad⟩ : ∃ bad, euI T n (fun k => !q k) (fun k => !q k && !p k) n = bad := ⟨_, rfl⟩
 obtain ⟨st, hst⟩ : ∃ st, egI T n (fun k => !q k) n = st := ⟨_, rfl⟩
 have hb : ∀ k, k < n → (bad k = true ↔ (q k = false ∧ p k = false) ∨ (q k = false ∧ aB T n bad k = true)) := by
  intro k hk
  have h1 := (@fuI_fix T n false (fun k => !q k) (fun k => !q k && !p k)).1 k hk
  have e := fun k hk => @euI_fu T n (fun k => !q k) (fun k => !q k && !p k) n k hk
  rw [hbad] at e
  rw [← e k hk] at h1
  rw [← h1, fuI]
  have hn : nxB T n false (fuI T n false (fun k => !q k) (fun k => !q k && !p k) n) k = aB T n bad k := by
   simp only [nxB, Bool.false_eq_true, if_false]
   exact aB_congr fun b hb => (e b hb).symm
  rw [hn]
  simp
 have hsq : ∀ i k, egI T n (fun k => !q k) i k = true → q k = false := by
  intro i
  induction i with
  | zero => intro k h; simpa [egI] using h
  | succ i ih => intro k h; simp only [egI, Bool.and_eq_true] at h; exact ih k h.1
 have hs : ∀ k, k < n → st k = true → q k = false ∧ aB T n st k = true := by
  intro k hk h
  refine ⟨hsq n k (by rw [hst]; exact h), ?_⟩
  have h1 := (@gaI_fix T n false (fun k => !q k)).1 k hk
  have e := fun k hk => @egI_ga T n (fun k => !q k) n k hk
  rw [hst] at e
  rw [← e k hk, gaI] at h1
  rw [h] at h1
  simp only [Bool.and_eq_true, nxB, Bool.false_eq_true, if_false] at h1
  rw [aB_congr (q := gaI T n false (fun k => !q k) n) e]
  exact h1.2
 have hz0 : ∀ i k, k < n → (bad k = true ∨ st k = true) → fuI T n true p q i k = false := by
  intro i
  induction i with
  | zero =>
   intro k hk h
   rcases h with h | h
   ·rcases (hb k hk).1 h with h | h <;> exact h.1
   ·exact (hs k hk h).1
  | succ i ih =>
   intro k hk h
   rw [fuI]
   have go : ∀ m, m < n → (bad m = true ∨ st m = true) → (m : Int) ∈ T.getD k [] → nxB T n true (fuI T n true p q i) k = false := by
    intro m hm h1 h2
    simp only [nxB, if_true, Bool.not_eq_false']
    exact aB_iff.2 ⟨m, hm, by rw [ih m hm h1]; rfl, h2⟩
   rcases h with h | h
   ·rcases (hb k hk).1 h with ⟨h1, h2⟩ | ⟨h1, h2⟩
    ·rw [h1, h2]; rfl
    ·obtain ⟨m, hm, h3, h4⟩ := aB_iff.1 h2
     rw [h1, go m hm (.inl h3) h4]; simp
   ·obtain ⟨h1, h2⟩ := hs k hk h
    obtain ⟨m, hm, h3, h4⟩ := aB_iff.1 h2
    rw [h1, go m hm (.inr h3) h4]; simp
 have hy : ∀ k, k < n → fuI T n true p q n k = false → q k = false ∧ (p k = false ∨ ∃ m, m < n ∧ fuI T n true p q n m = false ∧ (m : Int) ∈ T.getD k []) := by
  intro k hk h
  have h1 := (@fuI_fix T n true p q).1 k hk
  rw [h, fuI] at h1
  simp only [Bool.or_eq_false_iff, Bool.and_eq_false_iff] at h1
  refine ⟨h1.1, ?_⟩
  rcases h1.2 with h2 | h2
  ·exact .inl h2
  ·simp only [nxB, if_true, Bool.not_eq_false'] at h2
   obtain ⟨m, hm, h3, h4⟩ := aB_iff.1 h2
   exact .inr ⟨m, hm, by simpa using h3, h4⟩
 have hin : ∀ i k, k < n → fuI T n true p q n k = false → bad k = false → egI T n (fun k => !q k) i k = true := by
  intro i
  induction i with
  | zero => intro k hk h _; simp only [egI]; rw [(hy k hk h).1]; rfl
  | succ i ih =>
   intro k hk h hbk
   rw [egI, ih k hk h hbk, Bool.true_and]
   obtain ⟨h1, h2⟩ := hy k hk h
   rcases h2 with h2 | ⟨m, hm, h3, h4⟩
   ·rw [(hb k hk).2 (.inl ⟨h1, h2⟩)] at hbk; cases hbk
   ·have hbm : bad m = false := by
     cases hm2 : bad m with
     | false => rfl
     | true => rw [(hb k hk).2 (.inr ⟨h1, aB_iff.2 ⟨m, hm, hm2, h4⟩⟩)] at hbk; cases hbk
    exact aB_iff.2 ⟨m, hm, ih m hm h3 hbm, h4⟩
 unfold auS
 rw [hbad, hst]
 cases hz : fuI T n true p q n k with
 | true =>
  cases hbk : bad k with
  | true => rw [hz0 n k hk (.inl hbk)] at hz; cases hz
  | false =>
   cases hsk : st k with
   | true => rw [hz0 n k hk (.inr hsk)] at hz; cases hz
   | false => rfl
 | false =>
  cases hbk : bad k with
  | true => rfl
  | false =>
   have := hin n k hk hz hbk
   rw [hst] at this
   rw [this]; rfl
noncomputable def trR (T : List (List Int)) (n : Nat) (LT : List (List Int)) (t : Tm) (P : Nat → Nat → Bool) (k : Nat) : Bool :=
 if t.1 = 0 then true
 else if t.1 = 1 then decide ((LT.getD k []).getD t.2.1.toNat 0 = 1)
 else if t.1 = 2 then !P t.2.2.1.toNat k
 else if t.1 = 3 then P t.2.2.1.toNat k && P t.2.2.2.toNat k
 else if t.1 = 4 then P t.2.2.1.toNat k || P t.2.2.2.toNat k
 else if t.1 = 5 then aB T n (P t.2.2.1.toNat) k
 else if t.1 = 6 then euI T n (P t.2.2.1.toNat) (P t.2.2.2.toNat) n k
 else if t.1 = 7 then egI T n (P t.2.2.1.toNat) n k
 else if t.1 = 8 then !aB T n (fun k => !P t.2.2.1.toNat k) k
 else if t.1 = 9 then auS T n (P t.2.2.1.toNat) (P t.2.2.2.toNat) k
 else !(euI T n (fun _ => true) (fun k => !P t.2.2.1.toNat k) n k)
noncomputable def trP (T : List (List Int)) (n : Nat) (LT : List (List Int)) (l : List Tm) : Nat → Nat → Nat → Bool
 | 0, _, _ => false
 | i + 1, a, k => if a = i then trR T n LT (l.getD i zT) (trP T n LT l i) k else trP T n LT l i a k
def uO (t : Tm) (i n : Int) : Prop :=
 (t.1 = 0 ∧ t.2.1 = 0 ∧ t.2.2.1 = 0 ∧ t.2.2.2 = 0) ∨ (t.1 = 1 ∧ 0 ≤ t.2.1 ∧ t.2.1 ≤ n - 1 ∧ t.2.2.1 = 0 ∧ t.2.2.2 = 0) ∨
 (2 ≤ t.1 ∧ t.1 ≤ 10 ∧ t.2.1 = 0 ∧ 0 ≤ t.2.2.1 ∧ t.2.2.1 ≤ i - 1 ∧ 0 ≤ t.2.2.2 ∧ t.2.2.2 ≤ i - 1 ∧ (t.2.2.2 = t.2.2.1 ∨ t.1 = 3 ∨ t.1 = 4 ∨ t.1 = 6 ∨ t.1 = 9))
instance (t : Tm) (i n : Int) : Decidable (uO t i n) := by unfold uO; infer_instance
def uV (l : List Tm) (n : Int) : Prop := (0 ≤ n ∧ n ≤ 4) ∧ (1 ≤ l.length ∧ l.length ≤ 24) ∧ ∀ i, i < l.length → uO (l.getD i zT) i n
instance (l : List Tm) (n : Int) : Decidable (uV l n) := by unfold uV; infer_instance
theorem bld_0 {f : Nat → Bool} {n : Nat} : List.replicate n false = tab (fun j => if j < 0 then f j else false) n := by
 rw [rep_tab]; exact tab_congr fun k _ => by rw [if_neg (Nat.not_lt_zero k)]
theorem bld_s {f : Nat → Bool} {n i : Nat} {x : Bool} (h : x = f i) : (tab (fun j => if j < i then f j else false) n).set i x = tab (fun j => if j < i + 1 then f j else false) n := by
 rw [tab_set']
 refine tab_congr fun k _ => ?_
 by_cases e : k = i
 ·subst e; rw [if_pos rfl, if_pos (by omega), h]
 ·rw [if_neg e]
  by_cases e2 : k < i
  ·rw [if_pos e2, if_pos (by omega)]
  ·rw [if_neg e2, if_neg (by omega)]
theorem bld_n {f : Nat → Bool} {n : Nat} : tab (fun j => if j < n then f j else false) n = tab f n := tab_congr fun k hk => if_pos hk
theorem ovw_0 {f z : Nat → Bool} {n : Nat} : tab z n = tab (fun j => if j < 0 then f j else z j) n := tab_congr fun k _ => by rw [if_neg (Nat.not_lt_zero k)]
theorem ovw_s {f z : Nat → Bool} {n i : Nat} {x : Bool} (h : x = f i) : (tab (fun j => if j < i then f j else z j) n).set i x = tab (fun j => if j < i + 1 then f j else z j) n := by
 rw [tab_set']
 refine tab_congr fun k _ => ?_
 by_cases e : k = i
 ·subst e; rw [if_pos rfl, if_pos (by omega), h]
 ·rw [if_neg e]
  by_cases e2 : k < i
  ·rw [if_pos e2, if_pos (by omega)]
  ·rw [if_neg e2, if_neg (by omega)]
theorem ovw_n {f z : Nat → Bool} {n : Nat} : tab (fun j => if j < n then f j else z j) n = tab f n := tab_congr fun k hk => if_pos hk
theorem C_l4Ahead_b (T : List (List Int)) (p : Nat → Bool) (n : Nat) (hn : n ≤ 1048576) (ht : Tbl T n) (Q : List AV → Prop) : mc.C f_spec_l4Ahead [⟨L (L I), T⟩, ⟨L B, tab p n⟩] Q = Q [⟨L B, tab (aB T n p) n⟩] := C_spec_l4Ahead T p n hn ht Q
theorem C_spec_l24Not (p : Nat → Bool) (n : Nat) (hn : n ≤ 1048576) (Q : List AV → Prop) : mc.C f_spec_l24Not [⟨L B, tab p n⟩] Q = Q [⟨L B, tab (fun k => !p k) n⟩] := by
 refine Mc.Ends.c (mc.ends F_spec_l24Not ?_)
 simp (contextual := true) (maxSteps := 1000000) (disch := omega) only [↓Sd, ↓So, ↓Sk, ↓den, ↓denA, Sa, Sb, Sc, Se, O1.d, O2.d, O3.d, cmI, arI, envOf, putN, ↓reduceIte, Nat.reduceLT, Nat.reduceSub, Nat.reduceAdd, Int.reduceAdd, Int.reduceEq, Int.reduceLT, Int.reduceLE, arr_pos, arr_neg, tr_spec_l24Not, tab_len]
 refine mc.lp_for (List Bool) (fun i o => [⟨L B, tab p n⟩, ⟨I, (i : Int)⟩, ⟨L B, o⟩]) (fun i o => o = tab (fun j => if j < i then !p j else false) n) n 0 (List.replicate n false) _ rfl (Nat.zero_le _) bld_0 ?_ ?_
 ·rintro i o hi rfl
  simp (contextual := true) (maxSteps := 1000000) (disch := omega) only [↓Sd, ↓So, ↓Sk, ↓den, ↓denA, Sa, Sb, Sc, Se, O1.d, O2.d, O3.d, cmI, arI, envOf, putN, ↓reduceIte, Nat.reduceLT, Nat.reduceSub, Nat.reduceAdd, Int.reduceAdd, Int.reduceEq, Int.reduceLT, Int.reduceLE, arr_pos, arr_neg, tab_len, tab_get hi]
  exact bld_s rfl
 ·rintro o rfl
  simp (contextual := true) (maxSteps := 1000000) (disch := omega) only [↓Sd, ↓So, ↓Sk, ↓den, ↓denA, Sa, Sb, Sc, Se, O1.d, O2.d, O3.d, cmI, arI, envOf, putN, ↓reduceIte, Nat.reduceLT, Nat.reduceSub, Nat.reduceAdd, Int.reduceAdd, Int.reduceEq, Int.reduceLT, Int.reduceLE, arr_pos, arr_neg, tab_len]
  exact bld_n
theorem C_impl_not (p : Nat → Bool) (n : Nat) (hn : n ≤ 1048576) (Q : List AV → Prop) : mc.C f_impl_not [⟨L B, tab p n⟩] Q = Q [⟨L B, tab (fun k => !p k) n⟩] := by
 refine Mc.Ends.c (mc.ends F_impl_not ?_)
 simp (contextual := true) (maxSteps := 1000000) (disch := omega) only [↓Sd, ↓So, ↓Sk, ↓den, ↓denA, Sa, Sb, Sc, Se, O1.d, O2.d, O3.d, cmI, arI, envOf, putN, ↓reduceIte, Nat.reduceLT, Nat.reduceSub, Nat.reduceAdd, Int.reduceAdd, Int.reduceEq, Int.reduceLT, Int.reduceLE, arr_pos, arr_neg, tr_impl_not, tab_len]
 refine mc.lp_for (List Bool) (fun i o => [⟨L B, tab p n⟩, ⟨L B, tab p n⟩, ⟨I, (n : Int)⟩, ⟨I, (i : Int)⟩, ⟨L B, o⟩]) (fun i o => o = tab (fun j => if j < i then !p j else false) n) n 0 (List.replicate n false) _ rfl (Nat.zero_le _) bld_0 ?_ ?_
 ·rintro i o hi rfl
  simp (contextual := true) (maxSteps := 1000000) (disch := omega) only [↓Sd, ↓So, ↓Sk, ↓den, ↓denA, Sa, Sb, Sc, Se, O1.d, O2.d, O3.d, cmI, arI, envOf, putN, ↓reduceIte, Nat.reduceLT, Nat.reduceSub, Nat.reduceAdd, Int.reduceAdd, Int.reduceEq, Int.reduceLT, Int.reduceLE, arr_pos, arr_neg, tab_len, tab_get hi]
  exact bld_s rfl
 ·rintro o rfl
  simp (contextual := true) (maxSteps := 1000000) (disch := omega) only [↓Sd, ↓So, ↓Sk, ↓den, ↓denA, Sa, Sb, Sc, Se, O1.d, O2.d, O3.d, cmI, arI, envOf, putN, ↓reduceIte, Nat.reduceLT, Nat.reduceSub, Nat.reduceAdd, Int.reduceAdd, Int.reduceEq, Int.reduceLT, Int.reduceLE, arr_pos, arr_neg, tab_len]
  exact bld_n
theorem C_spec_l24Both (p q : Nat → Bool) (n : Nat) (hn : n ≤ 1048576) (Q : List AV → Prop) : mc.C f_spec_l24Both [⟨L B, tab p n⟩, ⟨L B, tab q n⟩] Q = Q [⟨L B, tab (fun k => p k && q k) n⟩] := by
 refine Mc.Ends.c (mc.ends F_spec_l24Both ?_)
 simp (contextual := true) (maxSteps := 1000000) (disch := omega) only [↓Sd, ↓So, ↓Sk, ↓den, ↓denA, Sa, Sb, Sc, Se, O1.d, O2.d, O3.d, cmI, arI, envOf, putN, ↓reduceIte, Nat.reduceLT, Nat.reduceSub, Nat.reduceAdd, Int.reduceAdd, Int.reduceEq, Int.reduceLT, Int.reduceLE, arr_pos, arr_neg, tr_spec_l24Both, tab_len]
 refine mc.lp_for (List Bool) (fun i o => [⟨L B, tab p n⟩, ⟨L B, tab q n⟩, ⟨I, (i : Int)⟩, ⟨L B, o⟩]) (fun i o => o = tab (fun j => if j < i then p j && q j else false) n) n 0 (List.replicate n false) _ rfl (Nat.zero_le _) bld_0 ?_ ?_
 ·rintro i o hi rfl
  simp (contextual := true) (maxSteps := 1000000) (disch := omega) only [↓Sd, ↓So, ↓Sk, ↓den, ↓denA, Sa, Sb, Sc, Se, O1.d, O2.d, O3.d, cmI, arI, envOf, putN, ↓reduceIte, Nat.reduceLT, Nat.reduceSub, Nat.reduceAdd, Int.reduceAdd, Int.reduceEq, Int.reduceLT, Int.reduceLE, arr_pos, arr_neg, ↓wpJoin, tab_len, tab_get hi]
  refine ⟨fun g => bld_s ?_, fun g => bld_s ?_⟩ <;> simp [g]
 ·rintro o rfl
  simp (contextual := true) (maxSteps := 1000000) (disch := omega) only [↓Sd, ↓So, ↓Sk, ↓den, ↓denA, Sa, Sb, Sc, Se, O1.d, O2.d, O3.d, cmI, arI, envOf, putN, ↓reduceIte, Nat.reduceLT, Nat.reduceSub, Nat.reduceAdd, Int.reduceAdd, Int.reduceEq, Int.reduceLT, Int.reduceLE, arr_pos, arr_neg, tab_len]
  exact bld_n
theorem C_spec_l24Until (T : List (List Int)) (p q : Nat → Bool) (n : Nat) (hn : n ≤ 1048576) (ht : Tbl T n) (Q : List AV → Prop) : mc.C f_spec_l24Until [⟨L (L I), T⟩, ⟨L B, tab p n⟩, ⟨L B, tab q n⟩] Q = Q [⟨L B, tab (euI T n p q n) n⟩] := by
 refine Mc.Ends.c (mc.ends F_spec_l24Until ?_)
 simp (contextual := true) (maxSteps := 1000000) (disch := omega) only [↓Sd, ↓So, ↓Sk, ↓den, ↓denA, Sa, Sb, Sc, Se, O1.d, O2.d, O3.d, cmI, arI, envOf, putN, ↓reduceIte, Nat.reduceLT, Nat.reduceSub, Nat.reduceAdd, Int.reduceAdd, Int.reduceEq, Int.reduceLT, Int.reduceLE, arr_pos, arr_neg, tr_spec_l24Until, tab_len]
 refine mc.lp_for (List Bool) (fun i o => [⟨L (L I), T⟩, ⟨L B, tab p n⟩, ⟨L B, tab q n⟩, ⟨I, (i : Int)⟩, ⟨L B, o⟩]) (fun i o => o = tab (fun j => if j < i then q j else false) n) n 0 (List.replicate n false) _ rfl (Nat.zero_le _) bld_0 ?_ ?_
 ·rintro i o hi rfl
  simp (contextual := true) (maxSteps := 1000000) (disch := omega) only [↓Sd, ↓So, ↓Sk, ↓den, ↓denA, Sa, Sb, Sc, Se, O1.d, O2.d, O3.d, cmI, arI, envOf, putN, ↓reduceIte, Nat.reduceLT, Nat.reduceSub, Nat.reduceAdd, Int.reduceAdd, Int.reduceEq, Int.reduceLT, Int.reduceLE, arr_pos, arr_neg, tab_len, tab_get hi]
  exact bld_s rfl
 rintro o rfl
 rw [bld_n]
 simp (contextual := true) (maxSteps := 1000000) (disch := omega) only [↓Sd, ↓So, ↓Sk, ↓den, ↓denA, Sa, Sb, Sc, Se, O1.d, O2.d, O3.d, cmI, arI, envOf, putN, ↓reduceIte, Nat.reduceLT, Nat.reduceSub, Nat.reduceAdd, Int.reduceAdd, Int.reduceEq, Int.reduceLT, Int.reduceLE, arr_pos, arr_neg, tab_len]
 refine mc.lp_for (List Bool) (fun i o => [⟨L (L I), T⟩, ⟨L B, tab p n⟩, ⟨I, (i : Int)⟩, ⟨L B, o⟩]) (fun i o => o = tab (euI T n p q i) n) n 0 (tab q n) _ rfl (Nat.zero_le _) rfl ?_ ?_
 ·rintro i o hi rfl
  have hz1 : euI T n p q (i + 1) = fun k => euI T n p q i k || (p k && aB T n (euI T n p q i) k) := funext fun k => rfl
  rw [hz1]
  generalize euI T n p q i = z
  simp (contextual := true) (maxSteps := 1000000) (disch := omega) only [↓Sd, ↓So, ↓Sk, ↓den, ↓denA, Sa, Sb, Sc, Se, O1.d, O2.d, O3.d, cmI, arI, envOf, putN, ↓reduceIte, Nat.reduceLT, Nat.reduceSub, Nat.reduceAdd, Int.reduceAdd, Int.reduceEq, Int.reduceLT, Int.reduceLE, arr_pos, arr_neg, tab_len, C_l4Ahead_b T z n hn ht]
  refine mc.lp_for (List Bool) (fun j o => [⟨L (L I), T⟩, ⟨L B, tab p n⟩, ⟨I, (i : Int)⟩, ⟨I, (j : Int)⟩, ⟨L B, o⟩, ⟨L B, tab (aB T n z) n⟩]) (fun j o => o = tab (fun k => if k < j then (z k || (p k && aB T n z k)) else z k) n) n 0 (tab z n) _ rfl (Nat.zero_le _) ovw_0 ?_ ?_
  ·rintro j o hj rfl
   simp (contextual := true) (maxSteps := 1000000) (disch := omega) only [↓Sd, ↓So, ↓Sk, ↓den, ↓denA, Sa, Sb, Sc, Se, O1.d, O2.d, O3.d, cmI, arI, envOf, putN, ↓reduceIte, Nat.reduceLT, Nat.reduceSub, Nat.reduceAdd, Int.reduceAdd, Int.reduceEq, Int.reduceLT, Int.reduceLE, arr_pos, arr_neg, ↓wpJoin, tab_len, tab_get hj, Nat.lt_irrefl]
   refine ⟨fun g => ovw_s ?_, fun g => ⟨fun g2 => ovw_s ?_, fun g2 => ovw_s ?_⟩⟩
   ·rw [g]; rfl
   ·rw [g2]; cases hz : z j with
    | true => exact absurd hz g
    | false => rfl
   ·cases hz : z j with
    | true => exact absurd hz g
    | false => cases hp : p j with
     | true => exact absurd hp g2
     | false => rfl
  ·rintro o rfl
   rw [ovw_n]
   simp (contextual := true) (maxSteps := 1000000) (disch := omega) only [↓Sd, ↓So, ↓Sk, ↓den, ↓denA, Sa, Sb, Sc, Se, O1.d, O2.d, O3.d, cmI, arI, envOf, putN, ↓reduceIte, Nat.reduceLT, Nat.reduceSub, Nat.reduceAdd, Int.reduceAdd, Int.reduceEq, Int.reduceLT, Int.reduceLE, arr_pos, arr_neg, tab_len]
 ·rintro o rfl
  simp (contextual := true) (maxSteps := 1000000) (disch := omega) only [↓Sd, ↓So, ↓Sk, ↓den, ↓denA, Sa, Sb, Sc, Se, O1.d, O2.d, O3.d, cmI, arI, envOf, putN, ↓reduceIte, Nat.reduceLT, Nat.reduceSub, Nat.reduceAdd, Int.reduceAdd, Int.reduceEq, Int.reduceLT, Int.reduceLE, arr_pos, arr_neg, tab_len]
theorem C_spec_l24Stay (T : List (List Int)) (p : Nat → Bool) (n : Nat) (hn : n ≤ 1048576) (ht : Tbl T n) (Q : List AV → Prop) : mc.C f_spec_l24Stay [⟨L (L I), T⟩, ⟨L B, tab p n⟩] Q = Q [⟨L B, tab (egI T n p n) n⟩] := by
 refine Mc.Ends.c (mc.ends F_spec_l24Stay ?_)
 simp (contextual := true) (maxSteps := 1000000) (disch := omega) only [↓Sd, ↓So, ↓Sk, ↓den, ↓denA, Sa, Sb, Sc, Se, O1.d, O2.d, O3.d, cmI, arI, envOf, putN, ↓reduceIte, Nat.reduceLT, Nat.reduceSub, Nat.reduceAdd, Int.reduceAdd, Int.reduceEq, Int.reduceLT, Int.reduceLE, arr_pos, arr_neg, tr_spec_l24Stay, tab_len]
 refine mc.lp_for (List Bool) (fun i o => [⟨L (L I), T⟩, ⟨L B, tab p n⟩, ⟨I, (i : Int)⟩, ⟨L B, o⟩]) (fun i o => o = tab (fun j => if j < i then p j else false) n) n 0 (List.replicate n false) _ rfl (Nat.zero_le _) bld_0 ?_ ?_
 ·rintro i o hi rfl
  simp (contextual := true) (maxSteps := 1000000) (disch := omega) only [↓Sd, ↓So, ↓Sk, ↓den, ↓denA, Sa, Sb, Sc, Se, O1.d, O2.d, O3.d, cmI, arI, envOf, putN, ↓reduceIte, Nat.reduceLT, Nat.reduceSub, Nat.reduceAdd, Int.reduceAdd, Int.reduceEq, Int.reduceLT, Int.reduceLE, arr_pos, arr_neg, tab_len, tab_get hi]
  exact bld_s rfl
 rintro o rfl
 rw [bld_n]
 simp (contextual := true) (maxSteps := 1000000) (disch := omega) only [↓Sd, ↓So, ↓Sk, ↓den, ↓denA, Sa, Sb, Sc, Se, O1.d, O2.d, O3.d, cmI, arI, envOf, putN, ↓reduceIte, Nat.reduceLT, Nat.reduceSub, Nat.reduceAdd, Int.reduceAdd, Int.reduceEq, Int.reduceLT, Int.reduceLE, arr_pos, arr_neg, tab_len]
 refine mc.lp_for (List Bool) (fun i o => [⟨L (L I), T⟩, ⟨L B, tab p n⟩, ⟨I, (i : Int)⟩, ⟨L B, o⟩]) (fun i o => o = tab (egI T n p i) n) n 0 (tab p n) _ rfl (Nat.zero_le _) rfl ?_ ?_
 ·rintro i o hi rfl
  have hz1 : egI T n p (i + 1) = fun k => egI T n p i k && aB T n (egI T n p i) k := funext fun k => rfl
  rw [hz1]
  generalize egI T n p i = z
  simp (contextual := true) (maxSteps := 1000000) (disch := omega) only [↓Sd, ↓So, ↓Sk, ↓den, ↓denA, Sa, Sb, Sc, Se, O1.d, O2.d, O3.d, cmI, arI, envOf, putN, ↓reduceIte, Nat.reduceLT, Nat.reduceSub, Nat.reduceAdd, Int.reduceAdd, Int.reduceEq, Int.reduceLT, Int.reduceLE, arr_pos, arr_neg, tab_len, C_l4Ahead_b T z n hn ht]
  refine mc.lp_for (List Bool) (fun j o => [⟨L (L I), T⟩, ⟨L B, tab p n⟩, ⟨I, (i : Int)⟩, ⟨I, (j : Int)⟩, ⟨L B, o⟩, ⟨L B, tab (aB T n z) n⟩]) (fun j o => o = tab (fun k => if k < j then (z k && aB T n z k) else z k) n) n 0 (tab z n) _ rfl (Nat.zero_le _) ovw_0 ?_ ?_
  ·rintro j o hj rfl
   simp (contextual := true) (maxSteps := 1000000) (disch := omega) only [↓Sd, ↓So, ↓Sk, ↓den, ↓denA, Sa, Sb, Sc, Se, O1.d, O2.d, O3.d, cmI, arI, envOf, putN, ↓reduceIte, Nat.reduceLT, Nat.reduceSub, Nat.reduceAdd, Int.reduceAdd, Int.reduceEq, Int.reduceLT, Int.reduceLE, arr_pos, arr_neg, ↓wpJoin, tab_len, tab_get hj, Nat.lt_irrefl]
   refine ⟨fun g => ovw_s ?_, fun g => ovw_s ?_⟩
   ·rw [g]; rfl
   ·cases hz : z j with
    | true => exact absurd hz g
    | false => rfl
  ·rintro o rfl
   rw [ovw_n]
   simp (contextual := true) (maxSteps := 1000000) (disch := omega) only [↓Sd, ↓So, ↓Sk, ↓den, ↓denA, Sa, Sb, Sc, Se, O1.d, O2.d, O3.d, cmI, arI, envOf, putN, ↓reduceIte, Nat.reduceLT, Nat.reduceSub, Nat.reduceAdd, Int.reduceAdd, Int.reduceEq, Int.reduceLT, Int.reduceLE, arr_pos, arr_neg, tab_len]
 ·rintro o rfl
  simp (contextual := true) (maxSteps := 1000000) (disch := omega) only [↓Sd, ↓So, ↓Sk, ↓den, ↓denA, Sa, Sb, Sc, Se, O1.d, O2.d, O3.d, cmI, arI, envOf, putN, ↓reduceIte, Nat.reduceLT, Nat.reduceSub, Nat.reduceAdd, Int.reduceAdd, Int.reduceEq, Int.reduceLT, Int.reduceLE, arr_pos, arr_neg, tab_len]
theorem C_spec_l24All (T : List (List Int)) (p q : Nat → Bool) (n : Nat) (hn : n ≤ 1048576) (ht : Tbl T n) (Q : List AV → Prop) : mc.C f_spec_l24All [⟨L (L I), T⟩, ⟨L B, tab p n⟩, ⟨L B, tab q n⟩] Q = Q [⟨L B, tab (auS T n p q) n⟩] := by
 refine Mc.Ends.c (mc.ends F_spec_l24All ?_)
 have e : auS T n p q = fun k => !(euI T n (fun k => !q k) (fun k => !q k && !p k) n k) && !(egI T n (fun k => !q k) n k) := funext fun k => rfl
 rw [e]
 simp (contextual := true) (maxSteps := 1000000) (disch := omega) only [↓Sd, ↓So, ↓Sk, ↓den, ↓denA, Sa, Sb, Sc, Se, O1.d, O2.d, O3.d, cmI, arI, envOf, putN, ↓reduceIte, Nat.reduceLT, Nat.reduceSub, Nat.reduceAdd, Int.reduceAdd, Int.reduceEq, Int.reduceLT, Int.reduceLE, arr_pos, arr_neg, tr_spec_l24All, C_spec_l24Not q n hn, C_spec_l24Not p n hn, C_spec_l24Both (fun k => !q k) (fun k => !p k) n hn, C_spec_l24Until T (fun k => !q k) (fun k => !q k && !p k) n hn ht, C_spec_l24Stay T (fun k => !q k) n hn ht, tab_len]
 generalize euI T n (fun k => !q k) (fun k => !q k && !p k) n = x
 generalize egI T n (fun k => !q k) n = y
 refine mc.lp_for (List Bool) (fun i o => [⟨L B, tab p n⟩, ⟨I, (i : Int)⟩, ⟨L B, tab x n⟩, ⟨L B, tab y n⟩, ⟨L B, o⟩]) (fun i o => o = tab (fun j => if j < i then (!x j && !y j) else false) n) n 0 (List.replicate n false) _ rfl (Nat.zero_le _) bld_0 ?_ ?_
 ·rintro i o hi rfl
  simp (contextual := true) (maxSteps := 1000000) (disch := omega) only [↓Sd, ↓So, ↓Sk, ↓den, ↓denA, Sa, Sb, Sc, Se, O1.d, O2.d, O3.d, cmI, arI, envOf, putN, ↓reduceIte, Nat.reduceLT, Nat.reduceSub, Nat.reduceAdd, Int.reduceAdd, Int.reduceEq, Int.reduceLT, Int.reduceLE, arr_pos, arr_neg, ↓wpJoin, tab_len, tab_get hi]
  refine ⟨fun g => bld_s ?_, fun g => bld_s ?_⟩
  ·cases hx : x i with
   | true => simp [hx] at g
   | false => rfl
  ·cases hx : x i with
   | true => rfl
   | false => simp [hx] at g
 ·rintro o rfl
  simp (contextual := true) (maxSteps := 1000000) (disch := omega) only [↓Sd, ↓So, ↓Sk, ↓den, ↓denA, Sa, Sb, Sc, Se, O1.d, O2.d, O3.d, cmI, arI, envOf, putN, ↓reduceIte, Nat.reduceLT, Nat.reduceSub, Nat.reduceAdd, Int.reduceAdd, Int.reduceEq, Int.reduceLT, Int.reduceLE, arr_pos, arr_neg, tab_len]
  exact bld_n
theorem C_slices_Equal_b (p q : Nat → Bool) (n : Nat) (hn : n ≤ 1048576) (Q : List AV → Prop) : mc.C f_slices_Equal_Sbool_bool [⟨L B, tab p n⟩, ⟨L B, tab q n⟩] Q = Q [⟨B, decide (∀ k, k < n → p k = q k)⟩] := by
 refine Mc.Ends.c (mc.ends F_slices_Equal_Sbool_bool ?_)
 generalize hK : decide (∀ k, k < n → p k = q k) = K
 simp (contextual := true) (maxSteps := 1000000) (disch := omega) only [↓Sd, ↓So, ↓Sk, ↓den, ↓denA, Sa, Sb, Sc, Se, O1.d, O2.d, O3.d, cmI, arI, envOf, putN, ↓reduceIte, Nat.reduceLT, Nat.reduceSub, Nat.reduceAdd, Int.reduceAdd, Int.reduceEq, Int.reduceLT, Int.reduceLE, arr_pos, arr_neg, tr_slices_Equal_Sbool_bool, tab_len]
 refine lp_all (fun i => [⟨L B, tab p n⟩, ⟨L B, tab q n⟩, ⟨I, (n : Int)⟩, ⟨I, (i : Int)⟩]) (fun i => p i = q i) n _ rfl ?_ ?_
 ·intro i hi
  simp (contextual := true) (maxSteps := 1000000) (disch := omega) only [↓Sd, ↓So, ↓Sk, ↓den, ↓denA, Sa, Sb, Sc, Se, O1.d, O2.d, O3.d, cmI, arI, envOf, putN, ↓reduceIte, Nat.reduceLT, Nat.reduceSub, Nat.reduceAdd, Int.reduceAdd, Int.reduceEq, Int.reduceLT, Int.reduceLE, arr_pos, arr_neg, tab_len, tab_get hi]
  intro g
  rw [← hK, decide_eq_false fun h => g (h i hi)]
 ·intro h
  simp (contextual := true) (maxSteps := 1000000) (disch := omega) only [↓Sd, ↓So, ↓Sk, ↓den, ↓denA, Sa, Sb, Sc, Se, O1.d, O2.d, O3.d, cmI, arI, envOf, putN, ↓reduceIte, Nat.reduceLT, Nat.reduceSub, Nat.reduceAdd, Int.reduceAdd, Int.reduceEq, Int.reduceLT, Int.reduceLE, arr_pos, arr_neg, tab_len]
  rw [← hK, decide_eq_true h]
theorem C_impl_some (T : List (List Int)) (p : Nat → Bool) (n : Nat) (hn : n ≤ 1048576) (ht : Tbl T n) (Q : List AV → Prop) : mc.C f_impl_some [⟨L (L I), T⟩, ⟨L B, tab p n⟩] Q = Q [⟨L B, tab (aB T n p) n⟩] := by
 have hT := ht.1
 refine Mc.Ends.c (mc.ends F_impl_some ?_)
 simp (contextual := true) (maxSteps := 1000000) (disch := omega) only [↓Sd, ↓So, ↓Sk, ↓den, ↓denA, Sa, Sb, Sc, Se, O1.d, O2.d, O3.d, cmI, arI, envOf, putN, ↓reduceIte, Nat.reduceLT, Nat.reduceSub, Nat.reduceAdd, Int.reduceAdd, Int.reduceEq, Int.reduceLT, Int.reduceLE, arr_pos, arr_neg, tr_impl_some, hT]
 refine mc.lp_for (List Bool) (fun i o => [⟨L (L I), T⟩, ⟨I, (n : Int)⟩, ⟨I, (i : Int)⟩, ⟨L B, tab p n⟩, ⟨L B, o⟩]) (fun i o => o = tab (fun j => if j < i then aB T n p j else false) n) n 0 (List.replicate n false) _ rfl (Nat.zero_le _) bld_0 ?_ ?_
 ·rintro i o hi rfl
  have hrow := ht.row (i := i)
  have hrl : (T.getD i []).length ≤ 1048576 := (ht.2 _ (getD_mem (by omega))).1
  have hset := @bld_s (aB T n p) n i
  generalize hrw : T.getD i [] = row at *
  generalize hO : tab (fun j => if j < i then aB T n p j else false) n = O at *
  have hOl : O.length = n := by rw [← hO, tab_len]
  simp (contextual := true) (maxSteps := 1000000) (disch := omega) only [↓Sd, ↓So, ↓Sk, ↓den, ↓denA, Sa, Sb, Sc, Se, O1.d, O2.d, O3.d, cmI, arI, envOf, putN, ↓reduceIte, Nat.reduceLT, Nat.reduceSub, Nat.reduceAdd, Int.reduceAdd, Int.reduceEq, Int.reduceLT, Int.reduceLE, arr_pos, arr_neg, hT]
  refine mc.wp_join (fun us => us = [⟨L (L I), T⟩, ⟨I, (n : Int)⟩, ⟨I, (i : Int)⟩, ⟨L B, tab p n⟩, ⟨L B, O.set i (aB T n p i)⟩]) ?_ ?_
  ·simp (contextual := true) (maxSteps := 1000000) (disch := omega) only [↓Sd, ↓So, ↓Sk, ↓den, ↓denA, Sa, Sb, Sc, Se, O1.d, O2.d, O3.d, cmI, arI, envOf, putN, ↓reduceIte, Nat.reduceLT, Nat.reduceSub, Nat.reduceAdd, Int.reduceAdd, Int.reduceEq, Int.reduceLT, Int.reduceLE, arr_pos, arr_neg, hT, hrw]
   refine lp_all (fun j => [⟨L I, row⟩, ⟨I, (row.length : Int)⟩, ⟨I, (j : Int)⟩, ⟨L (L I), T⟩, ⟨I, (n : Int)⟩, ⟨I, (i : Int)⟩, ⟨I, (i : Int)⟩, ⟨L B, tab p n⟩, ⟨L B, O⟩]) (fun j => p (row.getD j 0).toNat = false) row.length _ rfl ?_ ?_
   ·intro j hj
    have hy := hrow _ (getD_mem (d := 0) hj)
    obtain ⟨y, hye⟩ : ∃ y : Nat, row.getD j 0 = y := ⟨(row.getD j 0).toNat, by omega⟩
    have hyn : y < n := by omega
    simp (contextual := true) (maxSteps := 1000000) (disch := omega) only [↓Sd, ↓So, ↓Sk, ↓den, ↓denA, Sa, Sb, Sc, Se, O1.d, O2.d, O3.d, cmI, arI, envOf, putN, ↓reduceIte, Nat.reduceLT, Nat.reduceSub, Nat.reduceAdd, Int.reduceAdd, Int.reduceEq, Int.reduceLT, Int.reduceLE, arr_pos, arr_neg, hye, tab_len, tab_get hyn, hOl]
    intro g
    have : aB T n p i = true := aB_iff.2 ⟨y, hyn, g, by rw [hrw, ← hye]; exact getD_mem hj⟩
    rw [this, decide_eq_true (show (j : Int) ≥ 0 by omega)]
   ·intro h
    have : aB T n p i = false := by
     cases ha : aB T n p i with
     | false => rfl
     | true =>
      obtain ⟨b, h1, h2, h3⟩ := aB_iff.1 ha
      rw [hrw] at h3
      obtain ⟨j, hj, he⟩ := List.getElem_of_mem h3
      have := h j hj
      rw [getD_lt hj, he, Int.toNat_natCast, h2] at this
      cases this
    rw [this]
    simp (contextual := true) (maxSteps := 1000000) (disch := omega) only [↓Sd, ↓So, ↓Sk, ↓den, ↓denA, Sa, Sb, Sc, Se, O1.d, O2.d, O3.d, cmI, arI, envOf, putN, ↓reduceIte, Nat.reduceLT, Nat.reduceSub, Nat.reduceAdd, Int.reduceAdd, Int.reduceEq, Int.reduceLT, Int.reduceLE, arr_pos, arr_neg, hOl]
    rfl
  ·rintro _ rfl
   simp (contextual := true) (maxSteps := 1000000) (disch := omega) only [↓Sd, ↓So, ↓Sk, ↓den, ↓denA, Sa, Sb, Sc, Se, O1.d, O2.d, O3.d, cmI, arI, envOf, putN, ↓reduceIte, Nat.reduceLT, Nat.reduceSub, Nat.reduceAdd, Int.reduceAdd, Int.reduceEq, Int.reduceLT, Int.reduceLE, arr_pos, arr_neg, ]
   exact hset rfl
 ·rintro o rfl
  simp (contextual := true) (maxSteps := 1000000) (disch := omega) only [↓Sd, ↓So, ↓Sk, ↓den, ↓denA, Sa, Sb, Sc, Se, O1.d, O2.d, O3.d, cmI, arI, envOf, putN, ↓reduceIte, Nat.reduceLT, Nat.reduceSub, Nat.reduceAdd, Int.reduceAdd, Int.reduceEq, Int.reduceLT, Int.reduceLE, arr_pos, arr_neg, hT]
  exact bld_n
theorem C_spec_l24One (n : Int) (Q : List AV → Prop) : mc.C f_spec_l24One [⟨I, n⟩] Q = Q [⟨B, decide (n = 2 ∨ n = 5 ∨ n = 7 ∨ n = 8 ∨ n = 10)⟩] := by
 refine Mc.Ends.c (mc.ends F_spec_l24One ?_)
 generalize hK : decide (n = 2 ∨ n = 5 ∨ n = 7 ∨ n = 8 ∨ n = 10) = K
 simp (contextual := true) (maxSteps := 1000000) (disch := omega) only [↓Sd, ↓So, ↓Sk, ↓den, ↓denA, Sa, Sb, Sc, Se, O1.d, O2.d, O3.d, cmI, arI, envOf, putN, ↓reduceIte, Nat.reduceLT, Nat.reduceSub, Nat.reduceAdd, Int.reduceAdd, Int.reduceEq, Int.reduceLT, Int.reduceLE, arr_pos, arr_neg, tr_spec_l24One]
 have e : ∀ {x y : Int}, (x == y) = decide (x = y) := fun {x y} => by rw [beq_dB, dB_eq]
 simp only [e]
 rw [← hK]
 repeat' first | apply And.intro | intro _
 all_goals first
  | (exact (decide_eq_true (by omega)).symm)
  | (exact decide_eq_decide.2 (by omega))
theorem C_impl_treeParts (n : Int) (Q : List AV → Prop) : mc.C f_impl_treeParts [⟨I, n⟩] Q = Q [⟨I, if n = 3 ∨ n = 4 ∨ n = 6 ∨ n = 9 then 2 else if n = 0 ∨ n = 1 then 0 else 1⟩] := by
 refine Mc.Ends.c (mc.ends F_impl_treeParts ?_)
 generalize hK : (if n = 3 ∨ n = 4 ∨ n = 6 ∨ n = 9 then (2 : Int) else if n = 0 ∨ n = 1 then 0 else 1) = K
 simp (contextual := true) (maxSteps := 1000000) (disch := omega) only [↓Sd, ↓So, ↓Sk, ↓den, ↓denA, Sa, Sb, Sc, Se, O1.d, O2.d, O3.d, cmI, arI, envOf, putN, ↓reduceIte, Nat.reduceLT, Nat.reduceSub, Nat.reduceAdd, Int.reduceAdd, Int.reduceEq, Int.reduceLT, Int.reduceLE, arr_pos, arr_neg, tr_impl_treeParts]
 by_cases h1 : n = 3 ∨ n = 4 ∨ n = 6 ∨ n = 9
 ·rw [if_pos h1] at hK
  subst hK
  repeat' first | apply And.intro | intro _
  all_goals first
   | rfl
   | omega
 ·rw [if_neg h1] at hK
  by_cases h2 : n = 0 ∨ n = 1
  ·rw [if_pos h2] at hK
   subst hK
   repeat' first | apply And.intro | intro _
   all_goals first
    | rfl
    | omega
  ·rw [if_neg h2] at hK
   subst hK
   repeat' first | apply And.intro | intro _
   all_goals first
    | rfl
    | omega
theorem C_spec_l24Step (t : Tm) (i n : Int) (hi : 0 ≤ i ∧ i ≤ 100) (hn : 0 ≤ n ∧ n ≤ 4) (Q : List AV → Prop) : mc.C f_spec_l24Step [⟨I, t.1⟩, ⟨I, t.2.1⟩, ⟨I, t.2.2.1⟩, ⟨I, t.2.2.2⟩, ⟨I, i⟩, ⟨I, n⟩] Q = Q [⟨B, decide (uO t i n)⟩] := by
 refine Mc.Ends.c (mc.ends F_spec_l24Step ?_)
 generalize hK : decide (uO t i n) = K
 obtain ⟨o, m, a, b⟩ := t
 simp (contextual := true) (maxSteps := 1000000) (disch := omega) only [↓Sd, ↓So, ↓Sk, ↓den, ↓denA, Sa, Sb, Sc, Se, O1.d, O2.d, O3.d, cmI, arI, envOf, putN, ↓reduceIte, Nat.reduceLT, Nat.reduceSub, Nat.reduceAdd, Int.reduceAdd, Int.reduceEq, Int.reduceLT, Int.reduceLE, arr_pos, arr_neg, tr_spec_l24Step, C_spec_l1In, C_spec_l24One]
 have e : ∀ {x y : Int}, (x == y) = decide (x = y) := fun {x y} => by rw [beq_dB, dB_eq]
 simp only [e]
 unfold uO at hK
 simp only at hK
 cases K with
 | true =>
  have hp := of_decide_eq_true hK
  simp only [decide_eq_true_eq, Bool.false_eq_true]
  repeat' first | apply And.intro | intro _
  all_goals first
   | trivial
   | omega
 | false =>
  have hp := of_decide_eq_false hK
  simp only [decide_eq_false_iff_not, Bool.true_eq_false]
  repeat' first | apply And.intro | intro _
  all_goals first
   | trivial
   | omega
theorem C_spec_TreesValid (l : List Tm) (n : Int) (hl : Few l) (Q : List AV → Prop) : mc.C f_spec_TreesValid [⟨L T4, l⟩, ⟨I, n⟩] Q = Q [⟨B, decide (uV l n)⟩] := by
 refine Mc.Ends.c (mc.ends F_spec_TreesValid ?_)
 generalize hK : decide (uV l n) = K
 simp (contextual := true) (maxSteps := 1000000) (disch := omega) only [↓Sd, ↓So, ↓Sk, ↓den, ↓denA, Sa, Sb, Sc, Se, O1.d, O2.d, O3.d, cmI, arI, envOf, putN, ↓reduceIte, Nat.reduceLT, Nat.reduceSub, Nat.reduceAdd, Int.reduceAdd, Int.reduceEq, Int.reduceLT, Int.reduceLE, arr_pos, arr_neg, tr_spec_TreesValid, C_spec_l1In]
 refine ⟨fun g => ?_, fun g => ⟨fun g2 => ?_, fun g2 => ?_⟩⟩
 ·rw [← hK, decide_eq_false fun h => g h.1]
 ·rw [← hK, decide_eq_false fun h => g2 (by have := h.2.1; omega)]
 ·refine lp_all (fun i => [⟨L T4, l⟩, ⟨I, n⟩, ⟨I, (i : Int)⟩]) (fun i => uO (l.getD i zT) i n) l.length _ rfl ?_ ?_
  ·intro i hi
   simp (contextual := true) (maxSteps := 1000000) (disch := omega) only [↓Sd, ↓So, ↓Sk, ↓den, ↓denA, Sa, Sb, Sc, Se, O1.d, O2.d, O3.d, cmI, arI, envOf, putN, ↓reduceIte, Nat.reduceLT, Nat.reduceSub, Nat.reduceAdd, Int.reduceAdd, Int.reduceEq, Int.reduceLT, Int.reduceLE, arr_pos, arr_neg, C_spec_l24Step (l.getD i (0, 0, 0, 0)) (i : Int) n (by omega) g]
   exact fun h => by rw [← hK, decide_eq_false fun g => h (g.2.2 i hi)]
  ·intro h
   simp (contextual := true) (maxSteps := 1000000) (disch := omega) only [↓Sd, ↓So, ↓Sk, ↓den, ↓denA, Sa, Sb, Sc, Se, O1.d, O2.d, O3.d, cmI, arI, envOf, putN, ↓reduceIte, Nat.reduceLT, Nat.reduceSub, Nat.reduceAdd, Int.reduceAdd, Int.reduceEq, Int.reduceLT, Int.reduceLE, arr_pos, arr_neg, ]
   rw [← hK, decide_eq_true (p := uV l n) ⟨g, by omega, h⟩]
theorem C_impl_TreesValid (l : List Tm) (n : Int) (hl : Few l) (Q : List AV → Prop) : mc.C f_impl_TreesValid [⟨L T4, l⟩, ⟨I, n⟩] Q = Q [⟨B, decide (uV l n)⟩] := by
 refine Mc.Ends.c (mc.ends F_impl_TreesValid ?_)
 generalize hK : decide (uV l n) = K
 simp (contextual := true) (maxSteps := 1000000) (disch := omega) only [↓Sd, ↓So, ↓Sk, ↓den, ↓denA, Sa, Sb, Sc, Se, O1.d, O2.d, O3.d, cmI, arI, envOf, putN, ↓reduceIte, Nat.reduceLT, Nat.reduceSub, Nat.reduceAdd, Int.reduceAdd, Int.reduceEq, Int.reduceLT, Int.reduceLE, arr_pos, arr_neg, tr_impl_TreesValid, C_impl_in]
 refine ⟨fun g => ?_, fun g => ⟨fun g2 => ?_, fun g2 => ?_⟩⟩
 ·rw [← hK, decide_eq_false fun h => g h.1]
 ·rw [← hK, decide_eq_false fun h => g2 (by have := h.2.1; omega)]
 ·refine lp_all (fun i => [⟨I, n⟩, ⟨L T4, l⟩, ⟨I, (l.length : Int)⟩, ⟨I, (i : Int)⟩]) (fun i => uO (l.getD i zT) i n) l.length _ rfl ?_ ?_
  ·intro i hi
   have hno : ¬ uO (l.getD i zT) i n → false = K := fun h => by rw [← hK, decide_eq_false fun g => h (g.2.2 i hi)]
   simp (contextual := true) (maxSteps := 1000000) (disch := omega) only [↓Sd, ↓So, ↓Sk, ↓den, ↓denA, Sa, Sb, Sc, Se, O1.d, O2.d, O3.d, cmI, arI, envOf, putN, ↓reduceIte, Nat.reduceLT, Nat.reduceSub, Nat.reduceAdd, Int.reduceAdd, Int.reduceEq, Int.reduceLT, Int.reduceLE, arr_pos, arr_neg, C_impl_in]
   refine mc.wp_join (fun us => us = [⟨I, n⟩, ⟨B, decide (uO (l.getD i zT) i n)⟩, ⟨L T4, l⟩, ⟨I, (l.length : Int)⟩, ⟨I, (i : Int)⟩]) ?_ ?_
   ·generalize hq : decide (uO (l.getD i zT) i n) = q
    obtain ⟨t, ht⟩ : ∃ t, l.getD i (0, 0, 0, 0) = t := ⟨_, rfl⟩
    have hq' : decide (uO t i n) = q := by rw [← ht]; exact hq
    clear hq hno
    simp (contextual := true) (maxSteps := 1000000) (disch := omega) only [↓Sd, ↓So, ↓Sk, ↓den, ↓denA, Sa, Sb, Sc, Se, O1.d, O2.d, O3.d, cmI, arI, envOf, putN, ↓reduceIte, Nat.reduceLT, Nat.reduceSub, Nat.reduceAdd, Int.reduceAdd, Int.reduceEq, Int.reduceLT, Int.reduceLE, arr_pos, arr_neg, C_impl_in, C_impl_treeParts, ht]
    clear ht
    obtain ⟨o, m, a, b⟩ := t
    have hq := hq'
    clear hq'
    simp only
    have e : ∀ {x y : Int}, (x == y) = decide (x = y) := fun {x y} => by rw [beq_dB, dB_eq]
    simp only [e]
    unfold uO at hq
    simp only at hq
    have hpt : ∀ {P : Prop} [Decidable P] {Q : Prop} [Decidable Q], (decide ((if P then (2 : Int) else if Q then 0 else 1) = 2)) = decide P := by
     intro P _ Q _
     by_cases hP : P
     ·rw [if_pos hP, decide_eq_true hP]; rfl
     ·rw [if_neg hP, decide_eq_false hP]; split <;> rfl
    simp only [hpt]
    cases q with
    | true =>
     have hp := of_decide_eq_true hq
     repeat' first | apply And.intro | intro _
     all_goals first
      | rfl
      | omega
      | (simp only [decide_true, Bool.true_and, Bool.and_eq_true, decide_eq_true_eq, Bool.not_eq_true', decide_eq_false_iff_not]; omega)
    | false =>
     have hp := of_decide_eq_false hq
     repeat' first | apply And.intro | intro _
     all_goals first
      | rfl
      | omega
      | (simp only [decide_true, Bool.true_and, Bool.and_eq_false_iff, decide_eq_false_iff_not, Bool.not_eq_false', decide_eq_true_eq]; omega)
   ·rintro us rfl
    simp (contextual := true) (maxSteps := 1000000) (disch := omega) only [↓Sd, ↓So, ↓Sk, ↓den, ↓denA, Sa, Sb, Sc, Se, O1.d, O2.d, O3.d, cmI, arI, envOf, putN, ↓reduceIte, Nat.reduceLT, Nat.reduceSub, Nat.reduceAdd, Int.reduceAdd, Int.reduceEq, Int.reduceLT, Int.reduceLE, arr_pos, arr_neg, ]
    exact hno
  ·intro h
   simp (contextual := true) (maxSteps := 1000000) (disch := omega) only [↓Sd, ↓So, ↓Sk, ↓den, ↓denA, Sa, Sb, Sc, Se, O1.d, O2.d, O3.d, cmI, arI, envOf, putN, ↓reduceIte, Nat.reduceLT, Nat.reduceSub, Nat.reduceAdd, Int.reduceAdd, Int.reduceEq, Int.reduceLT, Int.reduceLE, arr_pos, arr_neg, ]
   rw [← hK, decide_eq_true (p := uV l n) ⟨g, by omega, h⟩]
def uAsk (s : Sy) (F : List (List Tm)) (l : List Tm) : Prop := fOk s F ∧ uV l F.length
instance (s : Sy) (F : List (List Tm)) (l : List Tm) : Decidable (uAsk s F l) := by unfold uAsk; infer_instance
theorem C_spec_l24Asked (s : Sy) (F : List (List Tm)) (l : List Tm) (hs : FewSy s) (hF : FewSS F) (hl : Few l) (Q : List AV → Prop) : mc.C f_spec_l24Asked [⟨L V3, s.1⟩, ⟨L TR, s.2⟩, ⟨L (L T4), F⟩, ⟨L T4, l⟩] Q = Q [⟨B, decide (uAsk s F l)⟩] := by
 refine Mc.Ends.c (mc.ends F_spec_l24Asked ?_)
 generalize hK : decide (uAsk s F l) = K
 simp (contextual := true) (maxSteps := 1000000) (disch := omega) only [↓Sd, ↓So, ↓Sk, ↓den, ↓denA, Sa, Sb, Sc, Se, O1.d, O2.d, O3.d, cmI, arI, envOf, putN, ↓reduceIte, Nat.reduceLT, Nat.reduceSub, Nat.reduceAdd, Int.reduceAdd, Int.reduceEq, Int.reduceLT, Int.reduceLE, arr_pos, arr_neg, tr_spec_l24Asked, C_spec_l20Facts s F hs hF, C_spec_TreesValid l (F.length : Int) hl]
 refine ⟨fun g => ?_, fun g => ?_⟩
 ·rw [← hK]; exact decide_eq_decide.2 ⟨fun h => ⟨g, h⟩, fun h => h.2⟩
 ·rw [← hK, decide_eq_false fun h => g h.1]
theorem C_impl_askTree (s : Sy) (F : List (List Tm)) (l : List Tm) (hs : FewSy s) (hF : FewSS F) (hl : Few l) (Q : List AV → Prop) : mc.C f_impl_askTree [⟨L V3, s.1⟩, ⟨L TR, s.2⟩, ⟨L (L T4), F⟩, ⟨L T4, l⟩] Q = Q [⟨B, decide (uAsk s F l)⟩] := by
 refine Mc.Ends.c (mc.ends F_impl_askTree ?_)
 generalize hK : decide (uAsk s F l) = K
 simp (contextual := true) (maxSteps := 1000000) (disch := omega) only [↓Sd, ↓So, ↓Sk, ↓den, ↓denA, Sa, Sb, Sc, Se, O1.d, O2.d, O3.d, cmI, arI, envOf, putN, ↓reduceIte, Nat.reduceLT, Nat.reduceSub, Nat.reduceAdd, Int.reduceAdd, Int.reduceEq, Int.reduceLT, Int.reduceLE, arr_pos, arr_neg, tr_impl_askTree, C_impl_factsOk s F hs hF, C_impl_TreesValid l (F.length : Int) hl]
 refine ⟨fun g => ?_, fun g => ?_⟩
 ·rw [← hK]; exact decide_eq_decide.2 ⟨fun h => ⟨g, h⟩, fun h => h.2⟩
 ·rw [← hK, decide_eq_false fun h => g h.1]
set_option maxHeartbeats 2000000 in
theorem C_spec_l24Row (t : Tm) (T LT : List (List Int)) (P : Nat → Nat → Bool) (n F i : Nat) (hn : n ≤ 1048576) (ht : Tbl T n) (hLl : LT.length = n) (hLr : ∀ k, k < n → (LT.getD k []).length = F) (h : uO t (i : Int) (F : Int)) (Q : List AV → Prop) :
  mc.C f_spec_l24Row [⟨I, t.1⟩, ⟨I, t.2.1⟩, ⟨I, t.2.2.1⟩, ⟨I, t.2.2.2⟩, ⟨L (L B), tab (fun a => tab (P a) n) i⟩, ⟨L (L I), T⟩, ⟨L (L I), LT⟩] Q = Q [⟨L B, tab (trR T n LT t P) n⟩] := by
 have hT := ht.1
 refine Mc.Ends.c (mc.ends F_spec_l24Row ?_)
 obtain ⟨o, m, x, y⟩ := t
 unfold uO at h
 simp only at h ⊢
 rcases h with ⟨rfl, -⟩ | ⟨rfl, h1, h2, -⟩ | ⟨h1, h2, -, h3, h4, h5, h6, -⟩
 ·have e : tab (trR T n LT (0, m, x, y) P) n = tab (fun _ => true) n := tab_congr fun k _ => by simp [trR]
  rw [e]
  simp (contextual := true) (maxSteps := 1000000) (disch := omega) only [↓Sd, ↓So, ↓Sk, ↓den, ↓denA, Sa, Sb, Sc, Se, O1.d, O2.d, O3.d, cmI, arI, envOf, putN, ↓reduceIte, Nat.reduceLT, Nat.reduceSub, Nat.reduceAdd, Int.reduceAdd, Int.reduceEq, Int.reduceLT, Int.reduceLE, arr_pos, arr_neg, tr_spec_l24Row, hT]
  refine mc.lp_for (List Bool) (fun j o => [⟨L (L I), T⟩, ⟨L (L I), LT⟩, ⟨I, (j : Int)⟩, ⟨I, (0 : Int)⟩, ⟨I, m⟩, ⟨I, x⟩, ⟨I, y⟩, ⟨L B, o⟩]) (fun j o => o = tab (fun k => if k < j then true else false) n) n 0 (List.replicate n false) _ rfl (Nat.zero_le _) bld_0 ?_ ?_
  ·rintro j o hj rfl
   simp (contextual := true) (maxSteps := 1000000) (disch := omega) only [↓Sd, ↓So, ↓Sk, ↓den, ↓denA, Sa, Sb, Sc, Se, O1.d, O2.d, O3.d, cmI, arI, envOf, putN, ↓reduceIte, Nat.reduceLT, Nat.reduceSub, Nat.reduceAdd, Int.reduceAdd, Int.reduceEq, Int.reduceLT, Int.reduceLE, arr_pos, arr_neg, ↓wpJoin, hT, tab_len]
   exact bld_s (f := fun _ => true) rfl
  ·rintro o rfl
   simp (contextual := true) (maxSteps := 1000000) (disch := omega) only [↓Sd, ↓So, ↓Sk, ↓den, ↓denA, Sa, Sb, Sc, Se, O1.d, O2.d, O3.d, cmI, arI, envOf, putN, ↓reduceIte, Nat.reduceLT, Nat.reduceSub, Nat.reduceAdd, Int.reduceAdd, Int.reduceEq, Int.reduceLT, Int.reduceLE, arr_pos, arr_neg, hT]
   exact bld_n (f := fun _ => true)
 ·have e : tab (trR T n LT (1, m, x, y) P) n = tab (fun k => decide ((LT.getD k []).getD m.toNat 0 = 1)) n := tab_congr fun k _ => by simp [trR]
  rw [e]
  simp (contextual := true) (maxSteps := 1000000) (disch := omega) only [↓Sd, ↓So, ↓Sk, ↓den, ↓denA, Sa, Sb, Sc, Se, O1.d, O2.d, O3.d, cmI, arI, envOf, putN, ↓reduceIte, Nat.reduceLT, Nat.reduceSub, Nat.reduceAdd, Int.reduceAdd, Int.reduceEq, Int.reduceLT, Int.reduceLE, arr_pos, arr_neg, tr_spec_l24Row, hT]
  refine mc.lp_for (List Bool) (fun j o => [⟨L (L I), T⟩, ⟨L (L I), LT⟩, ⟨I, (j : Int)⟩, ⟨I, (1 : Int)⟩, ⟨I, m⟩, ⟨I, x⟩, ⟨I, y⟩, ⟨L B, o⟩]) (fun j o => o = tab (fun k => if k < j then decide ((LT.getD k []).getD m.toNat 0 = 1) else false) n) n 0 (List.replicate n false) _ rfl (Nat.zero_le _) bld_0 ?_ ?_
  ·rintro j o hj rfl
   have := hLr j hj
   simp (contextual := true) (maxSteps := 1000000) (disch := omega) only [↓Sd, ↓So, ↓Sk, ↓den, ↓denA, Sa, Sb, Sc, Se, O1.d, O2.d, O3.d, cmI, arI, envOf, putN, ↓reduceIte, Nat.reduceLT, Nat.reduceSub, Nat.reduceAdd, Int.reduceAdd, Int.reduceEq, Int.reduceLT, Int.reduceLE, arr_pos, arr_neg, ↓wpJoin, hT, tab_len, hLl]
   exact bld_s (f := fun k => decide ((LT.getD k []).getD m.toNat 0 = 1)) rfl
  ·rintro o rfl
   simp (contextual := true) (maxSteps := 1000000) (disch := omega) only [↓Sd, ↓So, ↓Sk, ↓den, ↓denA, Sa, Sb, Sc, Se, O1.d, O2.d, O3.d, cmI, arI, envOf, putN, ↓reduceIte, Nat.reduceLT, Nat.reduceSub, Nat.reduceAdd, Int.reduceAdd, Int.reduceEq, Int.reduceLT, Int.reduceLE, arr_pos, arr_neg, hT]
   exact bld_n (f := fun k => decide ((LT.getD k []).getD m.toNat 0 = 1))
 ·obtain ⟨a, rfl⟩ : ∃ a : Nat, x = a := ⟨x.toNat, by omega⟩
  obtain ⟨b, rfl⟩ : ∃ b : Nat, y = b := ⟨y.toNat, by omega⟩
  have ha : a < i := by omega
  have hb : b < i := by omega
  have ho : o = 2 ∨ o = 3 ∨ o = 4 ∨ o = 5 ∨ o = 6 ∨ o = 7 ∨ o = 8 ∨ o = 9 ∨ o = 10 := by omega
  rcases ho with rfl | rfl | rfl | rfl | rfl | rfl | rfl | rfl | rfl
  ·simp (contextual := true) (maxSteps := 1000000) (disch := omega) only [↓Sd, ↓So, ↓Sk, ↓den, ↓denA, Sa, Sb, Sc, Se, O1.d, O2.d, O3.d, cmI, arI, envOf, putN, ↓reduceIte, Nat.reduceLT, Nat.reduceSub, Nat.reduceAdd, Int.reduceAdd, Int.reduceEq, Int.reduceLT, Int.reduceLE, arr_pos, arr_neg, tr_spec_l24Row, tab_len, tab_get ha, tab_get hb, C_spec_l24Not (P a) n hn]
   exact tab_congr fun k _ => by simp [trR]
  ·simp (contextual := true) (maxSteps := 1000000) (disch := omega) only [↓Sd, ↓So, ↓Sk, ↓den, ↓denA, Sa, Sb, Sc, Se, O1.d, O2.d, O3.d, cmI, arI, envOf, putN, ↓reduceIte, Nat.reduceLT, Nat.reduceSub, Nat.reduceAdd, Int.reduceAdd, Int.reduceEq, Int.reduceLT, Int.reduceLE, arr_pos, arr_neg, tr_spec_l24Row, tab_len, tab_get ha, tab_get hb, C_spec_l24Both (P a) (P b) n hn]
   exact tab_congr fun k _ => by simp [trR]
  ·simp (contextual := true) (maxSteps := 1000000) (disch := omega) only [↓Sd, ↓So, ↓Sk, ↓den, ↓denA, Sa, Sb, Sc, Se, O1.d, O2.d, O3.d, cmI, arI, envOf, putN, ↓reduceIte, Nat.reduceLT, Nat.reduceSub, Nat.reduceAdd, Int.reduceAdd, Int.reduceEq, Int.reduceLT, Int.reduceLE, arr_pos, arr_neg, tr_spec_l24Row, tab_len, tab_get ha, tab_get hb, C_spec_l24Not (P a) n hn, C_spec_l24Not (P b) n hn, C_spec_l24Both (fun k => !P a k) (fun k => !P b k) n hn, C_spec_l24Not (fun k => !P a k && !P b k) n hn]
   exact tab_congr fun k _ => by simp [trR]
  ·simp (contextual := true) (maxSteps := 1000000) (disch := omega) only [↓Sd, ↓So, ↓Sk, ↓den, ↓denA, Sa, Sb, Sc, Se, O1.d, O2.d, O3.d, cmI, arI, envOf, putN, ↓reduceIte, Nat.reduceLT, Nat.reduceSub, Nat.reduceAdd, Int.reduceAdd, Int.reduceEq, Int.reduceLT, Int.reduceLE, arr_pos, arr_neg, tr_spec_l24Row, tab_len, tab_get ha, tab_get hb, C_l4Ahead_b T (P a) n hn ht]
   exact tab_congr fun k _ => by simp [trR]
  ·simp (contextual := true) (maxSteps := 1000000) (disch := omega) only [↓Sd, ↓So, ↓Sk, ↓den, ↓denA, Sa, Sb, Sc, Se, O1.d, O2.d, O3.d, cmI, arI, envOf, putN, ↓reduceIte, Nat.reduceLT, Nat.reduceSub, Nat.reduceAdd, Int.reduceAdd, Int.reduceEq, Int.reduceLT, Int.reduceLE, arr_pos, arr_neg, tr_spec_l24Row, tab_len, tab_get ha, tab_get hb, C_spec_l24Until T (P a) (P b) n hn ht]
   exact tab_congr fun k _ => by simp [trR]
  ·simp (contextual := true) (maxSteps := 1000000) (disch := omega) only [↓Sd, ↓So, ↓Sk, ↓den, ↓denA, Sa, Sb, Sc, Se, O1.d, O2.d, O3.d, cmI, arI, envOf, putN, ↓reduceIte, Nat.reduceLT, Nat.reduceSub, Nat.reduceAdd, Int.reduceAdd, Int.reduceEq, Int.reduceLT, Int.reduceLE, arr_pos, arr_neg, tr_spec_l24Row, tab_len, tab_get ha, tab_get hb, C_spec_l24Stay T (P a) n hn ht]
   exact tab_congr fun k _ => by simp [trR]
  ·simp (contextual := true) (maxSteps := 1000000) (disch := omega) only [↓Sd, ↓So, ↓Sk, ↓den, ↓denA, Sa, Sb, Sc, Se, O1.d, O2.d, O3.d, cmI, arI, envOf, putN, ↓reduceIte, Nat.reduceLT, Nat.reduceSub, Nat.reduceAdd, Int.reduceAdd, Int.reduceEq, Int.reduceLT, Int.reduceLE, arr_pos, arr_neg, tr_spec_l24Row, tab_len, tab_get ha, tab_get hb, C_spec_l24Not (P a) n hn, C_l4Ahead_b T (fun k => !P a k) n hn ht, C_spec_l24Not (aB T n fun k => !P a k) n hn]
   exact tab_congr fun k _ => by simp [trR]
  ·simp (contextual := true) (maxSteps := 1000000) (disch := omega) only [↓Sd, ↓So, ↓Sk, ↓den, ↓denA, Sa, Sb, Sc, Se, O1.d, O2.d, O3.d, cmI, arI, envOf, putN, ↓reduceIte, Nat.reduceLT, Nat.reduceSub, Nat.reduceAdd, Int.reduceAdd, Int.reduceEq, Int.reduceLT, Int.reduceLE, arr_pos, arr_neg, tr_spec_l24Row, tab_len, tab_get ha, tab_get hb, C_spec_l24All T (P a) (P b) n hn ht]
   exact tab_congr fun k _ => by simp [trR]
  ·simp (contextual := true) (maxSteps := 1000000) (disch := omega) only [↓Sd, ↓So, ↓Sk, ↓den, ↓denA, Sa, Sb, Sc, Se, O1.d, O2.d, O3.d, cmI, arI, envOf, putN, ↓reduceIte, Nat.reduceLT, Nat.reduceSub, Nat.reduceAdd, Int.reduceAdd, Int.reduceEq, Int.reduceLT, Int.reduceLE, arr_pos, arr_neg, tr_spec_l24Row, tab_len, tab_get ha, tab_get hb, hT]
   refine mc.lp_for (List Bool) (fun j o => [⟨L (L I), T⟩, ⟨L B, tab (P a) n⟩, ⟨I, (j : Int)⟩, ⟨L B, o⟩]) (fun j o => o = tab (fun k => if k < j then true else false) n) n 0 (List.replicate n false) _ rfl (Nat.zero_le _) bld_0 ?_ ?_
   ·rintro j o hj rfl
    simp (contextual := true) (maxSteps := 1000000) (disch := omega) only [↓Sd, ↓So, ↓Sk, ↓den, ↓denA, Sa, Sb, Sc, Se, O1.d, O2.d, O3.d, cmI, arI, envOf, putN, ↓reduceIte, Nat.reduceLT, Nat.reduceSub, Nat.reduceAdd, Int.reduceAdd, Int.reduceEq, Int.reduceLT, Int.reduceLE, arr_pos, arr_neg, hT, tab_len]
    exact bld_s (f := fun _ => true) rfl
   ·rintro o rfl
    rw [bld_n (f := fun _ => true)]
    simp (contextual := true) (maxSteps := 1000000) (disch := omega) only [↓Sd, ↓So, ↓Sk, ↓den, ↓denA, Sa, Sb, Sc, Se, O1.d, O2.d, O3.d, cmI, arI, envOf, putN, ↓reduceIte, Nat.reduceLT, Nat.reduceSub, Nat.reduceAdd, Int.reduceAdd, Int.reduceEq, Int.reduceLT, Int.reduceLE, arr_pos, arr_neg, hT, tab_len, C_spec_l24Not (P a) n hn, C_spec_l24Until T (fun _ => true) (fun k => !P a k) n hn ht, C_spec_l24Not (euI T n (fun _ => true) (fun k => !P a k) n) n hn]
    exact tab_congr fun k _ => by simp [trR]
theorem onw_tbl {s : Sy} (h : valid s) : Tbl (onw s) (szn s.1) := by
 have h8 := steps_tb8 h
 have hl0 : (steps s).length = szn s.1 := tab_len
 refine ⟨tab_len, fun r hr => ?_⟩
 obtain ⟨k, hk, rfl⟩ := List.mem_map.1 hr
 have hk := List.mem_range.1 hk
 split
 ·refine ⟨by simp, fun x hx => ?_⟩
  simp only [List.mem_singleton] at hx
  omega
 ·exact ⟨(h8.1.2 _ (getD_mem (by omega))).1, fun x hx => h8.1.row x hx⟩
theorem ltrs_row {s : Sy} {F : List (List Tm)} {k : Nat} (hk : k < szn s.1) : ((ltrs s F).getD k []).length = F.length := by
 rw [ltrs, tab_get hk, ltr, tab_len]
theorem trP_next {T LT : List (List Int)} {n i : Nat} {l : List Tm} : tab (fun a => tab (trP T n LT l i a) n) i ++ [tab (trR T n LT (l.getD i zT) (trP T n LT l i)) n] = tab (fun a => tab (trP T n LT l (i + 1) a) n) (i + 1) := by
 rw [← tab_next]
 congr 1
 ·exact tab_congr fun a ha => tab_congr fun k _ => by simp only [trP]; rw [if_neg (by omega)]
 ·congr 1
  exact tab_congr fun k _ => by simp only [trP]; rw [if_pos trivial]
theorem C_spec_l24Rows (s : Sy) (F : List (List Tm)) (l : List Tm) (hs : FewSy s) (h : fOk s F) (hl : uV l F.length) (Q : List AV → Prop) :
  mc.C f_spec_l24Rows [⟨L V3, s.1⟩, ⟨L TR, s.2⟩, ⟨L (L T4), F⟩, ⟨L T4, l⟩] Q = Q [⟨L (L B), tab (fun a => tab (trP (onw s) (szn s.1) (ltrs s F) l l.length a) (szn s.1)) l.length⟩] := by
 have hv := h.1
 have hz := szn_eq hv
 have ho : (onw s).length = szn s.1 := tab_len
 have hml := hl.2.1
 refine Mc.Ends.c (mc.ends F_spec_l24Rows ?_)
 simp (contextual := true) (maxSteps := 1000000) (disch := omega) only [↓Sd, ↓So, ↓Sk, ↓den, ↓denA, Sa, Sb, Sc, Se, O1.d, O2.d, O3.d, cmI, arI, envOf, putN, ↓reduceIte, Nat.reduceLT, Nat.reduceSub, Nat.reduceAdd, Int.reduceAdd, Int.reduceEq, Int.reduceLT, Int.reduceLE, arr_pos, arr_neg, tr_spec_l24Rows, C_spec_l22Onward s hs hv]
 refine mc.lp_for (List (List Int)) (fun i o => [⟨L (L T4), F⟩, ⟨L T4, l⟩, ⟨I, (i : Int)⟩, ⟨L V3, s.1⟩, ⟨L TR, s.2⟩, ⟨L (L I), onw s⟩, ⟨L (L I), o⟩]) (fun i o => o = tab (fun k => ltr F (stN s k)) i) (szn s.1) 0 [] _ rfl (Nat.zero_le _) rfl ?_ ?_
 ·rintro i o hi rfl
  have h1 := fOk_at h hi
  have hst : stAt s.1 (i : Int) = stN s i := rfl
  simp (contextual := true) (maxSteps := 1000000) (disch := omega) only [↓Sd, ↓So, ↓Sk, ↓den, ↓denA, Sa, Sb, Sc, Se, O1.d, O2.d, O3.d, cmI, arI, envOf, putN, ↓reduceIte, Nat.reduceLT, Nat.reduceSub, Nat.reduceAdd, Int.reduceAdd, Int.reduceEq, Int.reduceLT, Int.reduceLE, arr_pos, arr_neg, ho, tab_len, C_spec_l4State s (i : Int) hs hv (by omega), hst, C_spec_l20Of F (stN s i) h.2.1 h1.1 h1.2]
  exact tab_next
 ·rintro o rfl
  have eL : tab (fun k => ltr F (stN s k)) (szn s.1) = ltrs s F := rfl
  rw [eL]
  simp (contextual := true) (maxSteps := 1000000) (disch := omega) only [↓Sd, ↓So, ↓Sk, ↓den, ↓denA, Sa, Sb, Sc, Se, O1.d, O2.d, O3.d, cmI, arI, envOf, putN, ↓reduceIte, Nat.reduceLT, Nat.reduceSub, Nat.reduceAdd, Int.reduceAdd, Int.reduceEq, Int.reduceLT, Int.reduceLE, arr_pos, arr_neg, ho]
  refine mc.lp_for (List (List Bool)) (fun i o => [⟨L T4, l⟩, ⟨I, (i : Int)⟩, ⟨L (L I), onw s⟩, ⟨L (L I), ltrs s F⟩, ⟨L (L B), o⟩]) (fun i o => o = tab (fun a => tab (trP (onw s) (szn s.1) (ltrs s F) l i a) (szn s.1)) i) l.length 0 [] _ rfl (Nat.zero_le _) rfl ?_ ?_
  ·rintro i o hi rfl
   have h1 := hl.2.2 i hi
   simp (contextual := true) (maxSteps := 1000000) (disch := omega) only [↓Sd, ↓So, ↓Sk, ↓den, ↓denA, Sa, Sb, Sc, Se, O1.d, O2.d, O3.d, cmI, arI, envOf, putN, ↓reduceIte, Nat.reduceLT, Nat.reduceSub, Nat.reduceAdd, Int.reduceAdd, Int.reduceEq, Int.reduceLT, Int.reduceLE, arr_pos, arr_neg, tab_len, C_spec_l24Row (l.getD i (0, 0, 0, 0)) (onw s) (ltrs s F) (trP (onw s) (szn s.1) (ltrs s F) l i) (szn s.1) F.length i (by omega) (onw_tbl hv) tab_len (fun k hk => ltrs_row hk) h1]
   exact trP_next
  ·rintro o rfl
   simp (contextual := true) (maxSteps := 1000000) (disch := omega) only [↓Sd, ↓So, ↓Sk, ↓den, ↓denA, Sa, Sb, Sc, Se, O1.d, O2.d, O3.d, cmI, arI, envOf, putN, ↓reduceIte, Nat.reduceLT, Nat.reduceSub, Nat.reduceAdd, Int.reduceAdd, Int.reduceEq, Int.reduceLT, Int.reduceLE, arr_pos, arr_neg, ]
noncomputable def trO (T LT : List (List Int)) (n : Nat) (l : List Tm) (i : Nat) : List (List Bool) := tab (fun a => if a < i then tab (trP T n LT l i a) n else []) l.length
theorem trO_len {T LT : List (List Int)} {n : Nat} {l : List Tm} {i : Nat} : (trO T LT n l i).length = l.length := tab_len
theorem trO_0 {T LT : List (List Int)} {n : Nat} {l : List Tm} : List.replicate l.length ([] : List Bool) = trO T LT n l 0 := by
 rw [rep_tab]; exact tab_congr fun k _ => by rw [if_neg (Nat.not_lt_zero k)]
theorem trO_get {T LT : List (List Int)} {n : Nat} {l : List Tm} {i a : Nat} (ha : a < i) (hi : i ≤ l.length) : (trO T LT n l i).getD a [] = tab (trP T n LT l i a) n := by
 rw [trO, tab_get (by omega), if_pos ha]
theorem trO_set {T LT : List (List Int)} {n : Nat} {l : List Tm} {i : Nat} {row : List Bool} (hi : i < l.length) (h : row = tab (trR T n LT (l.getD i zT) (trP T n LT l i)) n) : (trO T LT n l i).set i row = trO T LT n l (i + 1) := by
 rw [trO, tab_set', h]
 refine tab_congr fun k _ => ?_
 by_cases e : k = i
 ·subst e
  rw [if_pos rfl, if_pos (by omega)]
  exact tab_congr fun j _ => by simp only [trP]; rw [if_pos trivial]
 ·rw [if_neg e]
  by_cases e2 : k < i
  ·rw [if_pos e2, if_pos (by omega)]
   exact tab_congr fun j _ => by simp only [trP]; rw [if_neg e]
  ·rw [if_neg e2, if_neg (by omega)]
theorem trO_n {T LT : List (List Int)} {n : Nat} {l : List Tm} : trO T LT n l l.length = tab (fun a => tab (trP T n LT l l.length a) n) l.length := tab_congr fun k hk => if_pos hk
end Go.Proofs.YtifkpliahhodoaaGreat
