/- What the trees come to: plain mathematics; no condition. -/
import Derived.Test.YtplibobhcjgcmaaGreatSmMath0
/- What the trees come to. -/
namespace Go.Proofs.YtplibobhcjgcmaaGreat
open Go Go.Sm Go.Sm.Q
set_option linter.unusedSimpArgs false
set_option linter.unusedVariables false
theorem C_impl_use (s : Sy) (st : List Int) (k : Nat) (h : valid s) (hst : inR s.1 st) (hk : k < s.2.length) (Q : List AV → Prop) : mc.C f_impl_use [⟨L V3, s.1⟩, ⟨L TR, s.2⟩, ⟨L I, st⟩, ⟨I, (k : Int)⟩] Q = Q [⟨L I, useM s.1 (s.2.getD k ([], [], [])) st⟩, ⟨B, decide (useM s.1 (s.2.getD k ([], [], [])) st ≠ [])⟩] := by
  obtain ⟨⟨g0, g1⟩, g2, g3, g4, g5⟩ := h
  have hb := hst.bds g3
  have hl := hst.1
  have hr := g4 _ (getD_mem (d := ([], [], [])) hk)
  refine Mc.Ends.c (mc.ends F_impl_use ?_)
  generalize hK : useM s.1 (s.2.getD k ([], [], [])) st = K
  generalize ht : s.2.getD k ([], [], []) = r at hK hr
  obtain ⟨e1, e2, e3⟩ := hr
  have hf := rOk_few e3
  simp (contextual := true) (maxSteps := 1000000) (disch := omega) only [↓Sd, ↓So, ↓Sk, ↓den, ↓denA, Sa, Sb, Sc, Se, O1.d, O2.d, O3.d, cmI, arI, envOf, putN, ↓reduceIte, Nat.reduceLT, Nat.reduceSub, Nat.reduceAdd, Int.reduceAdd, Int.reduceEq, Int.reduceLT, Int.reduceLE, arr_pos, arr_neg, tr_impl_use, ht, C_impl_eval r.1 st s.1.length (by omega) hb (by omega), C_impl_clone_int st (by omega)]
  refine ⟨fun g => by rw [← hK, useM, if_pos g]; simp, fun g => ?_⟩
  refine mc.lp_for (List Int) (fun i o => [⟨L I, st⟩, ⟨L I, r.2.1⟩, ⟨I, (r.2.1.length : Int)⟩, ⟨I, (i : Int)⟩, ⟨L V3, s.1⟩, ⟨L TR, s.2⟩, ⟨L T4, r.1⟩, ⟨L I, r.2.1⟩, ⟨L (L T4), r.2.2⟩, ⟨L I, o⟩]) (fun i o => o = upR r st i) r.2.1.length 0 st _ rfl (Nat.zero_le _) rfl ?_ ?_
  · rintro i o hi rfl
    obtain ⟨e4, e5, e6⟩ := e3 i hi
    have h1 : ((upR r st i).length : Int) = s.1.length := by rw [upR_len]; omega
    simp (contextual := true) (maxSteps := 1000000) (disch := omega) only [↓Sd, ↓So, ↓Sk, ↓den, ↓denA, Sa, Sb, Sc, Se, O1.d, O2.d, O3.d, cmI, arI, envOf, putN, ↓reduceIte, Nat.reduceLT, Nat.reduceSub, Nat.reduceAdd, Int.reduceAdd, Int.reduceEq, Int.reduceLT, Int.reduceLE, arr_pos, arr_neg, C_impl_eval (r.2.2.getD i []) st s.1.length (by omega) hb (by omega)]
    exact upR_next.symm
  rintro o rfl
  simp (contextual := true) (maxSteps := 1000000) (disch := omega) only [↓Sd, ↓So, ↓Sk, ↓den, ↓denA, Sa, Sb, Sc, Se, O1.d, O2.d, O3.d, cmI, arI, envOf, putN, ↓reduceIte, Nat.reduceLT, Nat.reduceSub, Nat.reduceAdd, Int.reduceAdd, Int.reduceEq, Int.reduceLT, Int.reduceLE, arr_pos, arr_neg, C_impl_inRange s (upR r st r.2.1.length) g1 (by rw [upR_len]; omega)]
  rw [← hK, useM, if_neg g]
  refine ⟨fun h => by rw [if_neg h]; simp, fun h => ?_⟩
  rw [if_pos h]
  have h1 : (upR r st r.2.1.length).length = st.length := upR_len
  refine ⟨rfl, ?_⟩
  rw [eq_comm, decide_eq_true]
  intro h2
  rw [h2] at h1
  simp at h1
  omega
def cmpL : List Int → List Int → Int
  | [], [] => 0
  | [], _ :: _ => -1
  | _ :: _, [] => 1
  | a :: l, b :: m => if a < b then -1 else if a > b then 1 else cmpL l m
theorem cmpL_self : ∀ l : List Int, cmpL l l = 0
  | [] => rfl
  | a :: l => by simp only [cmpL]; rw [if_neg (by omega), if_neg (by omega)]; exact cmpL_self l
theorem cmpL_eq : ∀ {l m : List Int}, cmpL l m = 0 → l = m
  | [], [], _ => rfl
  | [], _ :: _, h => by simp [cmpL] at h
  | _ :: _, [], h => by simp [cmpL] at h
  | a :: l, b :: m, h => by
    simp only [cmpL] at h
    split at h
    · omega
    · split at h
      · omega
      · rw [show a = b by omega, cmpL_eq h]
theorem cmpL_anti : ∀ {l m : List Int}, cmpL m l = - cmpL l m
  | [], [] => rfl
  | [], _ :: _ => rfl
  | _ :: _, [] => rfl
  | a :: l, b :: m => by
    simp only [cmpL]
    by_cases h1 : a < b
    · rw [if_pos h1, if_neg (by omega), if_pos h1]; rfl
    · by_cases h2 : a > b
      · have h3 : b < a := h2
        have h4 : ¬ b > a := h1
        simp only [h1, h2, h3, h4, if_true, if_false]
      · rw [if_neg h1, if_neg h2, if_neg (by omega), if_neg (by omega)]; exact cmpL_anti
theorem cmpL_trans : ∀ {l m k : List Int}, cmpL l m < 0 → cmpL m k < 0 → cmpL l k < 0
  | [], [], _, h, _ => by simp [cmpL] at h
  | [], _ :: _, [], _, h => by simp [cmpL] at h
  | [], _ :: _, _ :: _, _, _ => by simp [cmpL]
  | _ :: _, [], _, h, _ => by simp [cmpL] at h
  | _ :: _, _ :: _, [], _, h => by simp [cmpL] at h
  | a :: l, b :: m, c :: k, h1, h2 => by
    simp only [cmpL] at h1 h2 ⊢
    by_cases a1 : a < b
    · by_cases a2 : b < c
      · rw [if_pos (by omega)]; omega
      · by_cases a3 : b > c
        · rw [if_neg a2, if_pos a3] at h2; omega
        · rw [if_pos (by omega)]; omega
    · by_cases a0 : a > b
      · rw [if_neg a1, if_pos a0] at h1; omega
      · rw [if_neg a1, if_neg a0] at h1
        by_cases a2 : b < c
        · rw [if_pos (by omega)]; omega
        · by_cases a3 : b > c
          · rw [if_neg a2, if_pos a3] at h2; omega
          · rw [if_neg a2, if_neg a3] at h2
            rw [if_neg (by omega), if_neg (by omega)]; exact cmpL_trans h1 h2
theorem cmpL_vals : ∀ (l m : List Int), cmpL l m = -1 ∨ cmpL l m = 0 ∨ cmpL l m = 1
  | [], [] => .inr (.inl rfl)
  | [], _ :: _ => .inl rfl
  | _ :: _, [] => .inr (.inr rfl)
  | a :: l, b :: m => by
    simp only [cmpL]
    split
    · exact .inl rfl
    · split
      · exact .inr (.inr rfl)
      · exact cmpL_vals l m
theorem cmpL_drop {l m : List Int} {i : Nat} (h1 : i < l.length) (h2 : i < m.length) : cmpL (l.drop i) (m.drop i) = if l.getD i 0 < m.getD i 0 then -1 else if l.getD i 0 > m.getD i 0 then 1 else cmpL (l.drop (i + 1)) (m.drop (i + 1)) := by
  rw [drop_cons (d := 0) h1, drop_cons (d := 0) h2]; rfl
def putM (x : List Int) : List (List Int) → List (List Int)
  | [] => [x]
  | y :: l => if y = x then y :: l else if cmpL x y < 0 then x :: y :: l else y :: putM x l
theorem putM_len {x : List Int} : ∀ {l : List (List Int)}, (putM x l).length ≤ l.length + 1
  | [] => by simp [putM]
  | y :: l => by
    simp only [putM]
    split
    · simp
    · split
      · simp
      · simp only [List.length_cons]; have := @putM_len x l; omega
theorem putM_mem {x z : List Int} : ∀ {l : List (List Int)}, z ∈ putM x l → z = x ∨ z ∈ l
  | [], h => .inl (by simpa [putM] using h)
  | y :: l, h => by
    simp only [putM] at h
    split at h
    · exact .inr h
    · split at h
      · exact List.mem_cons.1 h
      · rcases List.mem_cons.1 h with rfl | h
        · exact .inr (List.mem_cons_self ..)
        · rcases putM_mem h with h | h
          · exact .inl h
          · exact .inr (List.mem_cons_of_mem _ h)
def Asc (l : List (List Int)) : Prop := l.Pairwise fun a b => cmpL a b < 0
theorem putM_asc {x : List Int} : ∀ {l : List (List Int)}, Asc l → Asc (putM x l)
  | [], _ => List.pairwise_singleton _ _
  | y :: l, h => by
    have h' := List.pairwise_cons.1 h
    simp only [putM]
    split
    · exact h
    · rename_i hne
      split
      · rename_i hlt
        refine List.pairwise_cons.2 ⟨fun z hz => ?_, h⟩
        rcases List.mem_cons.1 hz with rfl | hz
        · exact hlt
        · exact cmpL_trans hlt (h'.1 z hz)
      · rename_i hge
        refine List.pairwise_cons.2 ⟨fun z hz => ?_, putM_asc h'.2⟩
        rcases putM_mem hz with rfl | hz
        · have h1 := @cmpL_anti y z
          have h2 : cmpL y z ≠ 0 := fun h => hne (cmpL_eq h)
          omega
        · exact h'.1 z hz
/-- Where an element is put, by its place. -/
theorem putM_at {x : List Int} : ∀ {l : List (List Int)} {i : Nat}, i ≤ l.length → (∀ k, k < i → cmpL (l.getD k []) x < 0) → (∀ k, i ≤ k → k < l.length → 0 ≤ cmpL (l.getD k []) x) →
    putM x l = if i < l.length ∧ cmpL (l.getD i []) x = 0 then l else l.take i ++ [x] ++ l.drop i
  | [], i, hi, _, _ => by
    have : i = 0 := by simpa using hi
    subst this
    simp [putM]
  | y :: l, 0, _, _, h2 => by
    have h3 : 0 ≤ cmpL y x := h2 0 (Nat.le_refl _) (by simp)
    simp only [putM]
    by_cases h0 : cmpL y x = 0
    · rw [if_pos (cmpL_eq h0), if_pos ⟨by simp, h0⟩]
    · have h4 : ¬ y = x := fun h => h0 (by rw [h, cmpL_self])
      have h5 := @cmpL_anti y x
      rw [if_neg h4, if_pos (by omega), if_neg (fun h => h0 h.2)]
      simp
  | y :: l, i + 1, hi, h1, h2 => by
    have h3 : cmpL y x < 0 := h1 0 (by omega)
    have h4 : ¬ y = x := fun h => by rw [h, cmpL_self] at h3; omega
    have h5 := @cmpL_anti y x
    have ih := putM_at (x := x) (l := l) (i := i) (by simpa using hi) (fun k hk => h1 (k + 1) (by omega)) (fun k h6 h7 => h2 (k + 1) (by omega) (by simpa using h7))
    simp only [putM]
    rw [if_neg h4, if_neg (by omega), ih]
    simp only [List.length_cons, List.getD_cons_succ, Nat.add_lt_add_iff_right]
    split
    · rfl
    · simp
theorem C_spec_l2Same (a b : List Int) (ha : a.length ≤ 1048576) (hb : b.length ≤ 1048576) (Q : List AV → Prop) : mc.C f_spec_l2Same [⟨L I, a⟩, ⟨L I, b⟩] Q = Q [⟨B, decide (a = b)⟩] := by
  refine Mc.Ends.c (mc.ends F_spec_l2Same ?_)
  generalize hK : decide (a = b) = K
  simp (contextual := true) (maxSteps := 1000000) (disch := omega) only [↓Sd, ↓So, ↓Sk, ↓den, ↓denA, Sa, Sb, Sc, Se, O1.d, O2.d, O3.d, cmI, arI, envOf, putN, ↓reduceIte, Nat.reduceLT, Nat.reduceSub, Nat.reduceAdd, Int.reduceAdd, Int.reduceEq, Int.reduceLT, Int.reduceLE, arr_pos, arr_neg, tr_spec_l2Same]
  refine ⟨fun g => by rw [← hK, decide_eq_false]; exact fun h => g (by rw [h]), fun g => ?_⟩
  refine lp_all (fun i => [⟨L I, a⟩, ⟨L I, b⟩, ⟨I, (i : Int)⟩]) (fun i => a.getD i 0 = b.getD i 0) a.length _ rfl ?_ ?_
  · intro i hi
    have hno : ¬ a.getD i 0 = b.getD i 0 → false = K := fun h => by rw [← hK, decide_eq_false]; exact fun h1 => h (by rw [h1])
    simp (contextual := true) (maxSteps := 1000000) (disch := omega) only [↓Sd, ↓So, ↓Sk, ↓den, ↓denA, Sa, Sb, Sc, Se, O1.d, O2.d, O3.d, cmI, arI, envOf, putN, ↓reduceIte, Nat.reduceLT, Nat.reduceSub, Nat.reduceAdd, Int.reduceAdd, Int.reduceEq, Int.reduceLT, Int.reduceLE, arr_pos, arr_neg, ]
    exact hno
  · intro h
    simp (contextual := true) (maxSteps := 1000000) (disch := omega) only [↓Sd, ↓So, ↓Sk, ↓den, ↓denA, Sa, Sb, Sc, Se, O1.d, O2.d, O3.d, cmI, arI, envOf, putN, ↓reduceIte, Nat.reduceLT, Nat.reduceSub, Nat.reduceAdd, Int.reduceAdd, Int.reduceEq, Int.reduceLT, Int.reduceLE, arr_pos, arr_neg, ]
    rw [← hK, decide_eq_true]
    refine List.ext_getElem (by omega) fun i h1 h2 => ?_
    have := h i h1
    rwa [getD_lt h1, getD_lt h2] at this
theorem C_spec_l2Less (a b : List Int) (ha : a.length ≤ 1048576) (hb : b.length ≤ 1048576) (Q : List AV → Prop) : mc.C f_spec_l2Less [⟨L I, a⟩, ⟨L I, b⟩] Q = Q [⟨B, decide (cmpL a b < 0)⟩] := by
  refine Mc.Ends.c (mc.ends F_spec_l2Less ?_)
  generalize hK : decide (cmpL a b < 0) = K
  simp (contextual := true) (maxSteps := 1000000) (disch := omega) only [↓Sd, ↓So, ↓Sk, ↓den, ↓denA, Sa, Sb, Sc, Se, O1.d, O2.d, O3.d, cmI, arI, envOf, putN, ↓reduceIte, Nat.reduceLT, Nat.reduceSub, Nat.reduceAdd, Int.reduceAdd, Int.reduceEq, Int.reduceLT, Int.reduceLE, arr_pos, arr_neg, tr_spec_l2Less]
  refine mc.wp_join (fun us => us = [⟨L I, a⟩, ⟨L I, b⟩] ∧ K = decide (a.length < b.length)) ?_ ?_
  · simp (contextual := true) (maxSteps := 1000000) (disch := omega) only [↓Sd, ↓So, ↓Sk, ↓den, ↓denA, Sa, Sb, Sc, Se, O1.d, O2.d, O3.d, cmI, arI, envOf, putN, ↓reduceIte, Nat.reduceLT, Nat.reduceSub, Nat.reduceAdd, Int.reduceAdd, Int.reduceEq, Int.reduceLT, Int.reduceLE, arr_pos, arr_neg, ]
    refine mc.lp_for Unit (fun i _ => [⟨L I, a⟩, ⟨L I, b⟩, ⟨I, (i : Int)⟩]) (fun i _ => i ≤ b.length ∧ cmpL (a.drop i) (b.drop i) = cmpL a b) a.length 0 () _ rfl (Nat.zero_le _) ⟨Nat.zero_le _, rfl⟩ ?_ ?_
    · rintro i - hi ⟨h1, h2⟩
      simp (contextual := true) (maxSteps := 1000000) (disch := omega) only [↓Sd, ↓So, ↓Sk, ↓den, ↓denA, Sa, Sb, Sc, Se, O1.d, O2.d, O3.d, cmI, arI, envOf, putN, ↓reduceIte, Nat.reduceLT, Nat.reduceSub, Nat.reduceAdd, Int.reduceAdd, Int.reduceEq, Int.reduceLT, Int.reduceLE, arr_pos, arr_neg, ]
      refine ⟨fun h => ?_, fun h => ?_⟩
      · have h3 : i < b.length := by omega
        rw [cmpL_drop hi h3] at h2
        refine ⟨fun h4 => ?_, fun h4 => ⟨h3, ?_⟩⟩
        · rw [← hK, ← h2]
          by_cases h5 : a.getD i 0 < b.getD i 0
          · rw [if_pos h5, decide_eq_true h5]; rfl
          · rw [if_neg h5, if_pos (by omega), decide_eq_false h5]; rfl
        · rw [if_neg (by omega), if_neg (by omega)] at h2; exact h2
      · have h3 : i = b.length := by omega
        subst h3
        rw [List.drop_length, drop_cons (d := 0) hi] at h2
        rw [← hK, ← h2, decide_eq_false (by simp [cmpL]), decide_eq_false (by omega)]
    · rintro - ⟨h1, h2⟩
      rw [List.drop_length] at h2
      simp (contextual := true) (maxSteps := 1000000) (disch := omega) only [↓Sd, ↓So, ↓Sk, ↓den, ↓denA, Sa, Sb, Sc, Se, O1.d, O2.d, O3.d, cmI, arI, envOf, putN, ↓reduceIte, Nat.reduceLT, Nat.reduceSub, Nat.reduceAdd, Int.reduceAdd, Int.reduceEq, Int.reduceLT, Int.reduceLE, arr_pos, arr_neg, ]
      rw [← hK, ← h2]
      by_cases h3 : a.length < b.length
      · rw [decide_eq_true h3, drop_cons (d := 0) h3]; rfl
      · rw [decide_eq_false h3, List.drop_eq_nil_of_le (by omega)]; rfl
  · rintro _ ⟨rfl, h⟩
    simp (contextual := true) (maxSteps := 1000000) (disch := omega) only [↓Sd, ↓So, ↓Sk, ↓den, ↓denA, Sa, Sb, Sc, Se, O1.d, O2.d, O3.d, cmI, arI, envOf, putN, ↓reduceIte, Nat.reduceLT, Nat.reduceSub, Nat.reduceAdd, Int.reduceAdd, Int.reduceEq, Int.reduceLT, Int.reduceLE, arr_pos, arr_neg, ]
    rw [h]
    exact decide_eq_decide.2 Int.ofNat_lt
theorem C_cmp_isNaN_int (a : Int) (Q : List AV → Prop) : mc.C f_cmp_isNaN_int [⟨I, a⟩] Q = Q [⟨B, false⟩] := by
  refine Mc.Ends.c (mc.ends F_cmp_isNaN_int ?_)
  simp (contextual := true) (maxSteps := 1000000) (disch := omega) only [↓Sd, ↓So, ↓Sk, ↓den, ↓denA, Sa, Sb, Sc, Se, O1.d, O2.d, O3.d, cmI, arI, envOf, putN, ↓reduceIte, Nat.reduceLT, Nat.reduceSub, Nat.reduceAdd, Int.reduceAdd, Int.reduceEq, Int.reduceLT, Int.reduceLE, arr_pos, arr_neg, tr_cmp_isNaN_int]
  simp
theorem C_cmp_Compare_int (a b : Int) (Q : List AV → Prop) : mc.C f_cmp_Compare_int [⟨I, a⟩, ⟨I, b⟩] Q = Q [⟨I, if a < b then -1 else if a > b then 1 else 0⟩] := by
  refine Mc.Ends.c (mc.ends F_cmp_Compare_int ?_)
  generalize hK : (if a < b then -1 else if a > b then 1 else 0 : Int) = K
  simp (contextual := true) (maxSteps := 1000000) (disch := omega) only [↓Sd, ↓So, ↓Sk, ↓den, ↓denA, Sa, Sb, Sc, Se, O1.d, O2.d, O3.d, cmI, arI, envOf, putN, ↓reduceIte, Nat.reduceLT, Nat.reduceSub, Nat.reduceAdd, Int.reduceAdd, Int.reduceEq, Int.reduceLT, Int.reduceLE, arr_pos, arr_neg, tr_cmp_Compare_int, C_cmp_isNaN_int]
  grind
theorem C_slices_Compare (a b : List Int) (ha : a.length ≤ 1048576) (hb : b.length ≤ 1048576) (Q : List AV → Prop) : mc.C f_slices_Compare_Sint_int [⟨L I, a⟩, ⟨L I, b⟩] Q = Q [⟨I, cmpL a b⟩] := by
  refine Mc.Ends.c (mc.ends F_slices_Compare_Sint_int ?_)
  generalize hK : cmpL a b = K
  simp (contextual := true) (maxSteps := 1000000) (disch := omega) only [↓Sd, ↓So, ↓Sk, ↓den, ↓denA, Sa, Sb, Sc, Se, O1.d, O2.d, O3.d, cmI, arI, envOf, putN, ↓reduceIte, Nat.reduceLT, Nat.reduceSub, Nat.reduceAdd, Int.reduceAdd, Int.reduceEq, Int.reduceLT, Int.reduceLE, arr_pos, arr_neg, tr_slices_Compare_Sint_int]
  refine mc.lp_for Unit (fun i _ => [⟨L I, a⟩, ⟨L I, b⟩, ⟨L I, a⟩, ⟨I, (a.length : Int)⟩, ⟨I, (i : Int)⟩]) (fun i _ => i ≤ b.length ∧ cmpL (a.drop i) (b.drop i) = K) a.length 0 () _ rfl (Nat.zero_le _) ⟨Nat.zero_le _, hK⟩ ?_ ?_
  · rintro i - hi ⟨h1, h2⟩
    simp (contextual := true) (maxSteps := 1000000) (disch := omega) only [↓Sd, ↓So, ↓Sk, ↓den, ↓denA, Sa, Sb, Sc, Se, O1.d, O2.d, O3.d, cmI, arI, envOf, putN, ↓reduceIte, Nat.reduceLT, Nat.reduceSub, Nat.reduceAdd, Int.reduceAdd, Int.reduceEq, Int.reduceLT, Int.reduceLE, arr_pos, arr_neg, C_cmp_Compare_int]
    refine ⟨fun h => ?_, fun h => ?_⟩
    · have h3 : i = b.length := by omega
      subst h3
      rw [List.drop_length, drop_cons (d := 0) hi] at h2
      rw [← h2]; rfl
    · have h3 : i < b.length := by omega
      rw [cmpL_drop hi h3] at h2
      refine ⟨fun h4 => ?_, fun h4 => ⟨h3, ?_⟩⟩
      · rw [← h2]
        by_cases h5 : a.getD i 0 < b.getD i 0
        · rw [if_pos h5, if_pos h5]
        · by_cases h6 : a.getD i 0 > b.getD i 0
          · rw [if_neg h5, if_pos h6, if_neg h5, if_pos h6]
          · rw [if_neg h5, if_neg h6] at h4; exact absurd rfl h4
      · by_cases h5 : a.getD i 0 < b.getD i 0
        · rw [if_pos h5] at h4; omega
        · by_cases h6 : a.getD i 0 > b.getD i 0
          · rw [if_neg h5, if_pos h6] at h4; omega
          · rw [if_neg h5, if_neg h6] at h2; exact h2
  · rintro - ⟨h1, h2⟩
    rw [List.drop_length] at h2
    simp (contextual := true) (maxSteps := 1000000) (disch := omega) only [↓Sd, ↓So, ↓Sk, ↓den, ↓denA, Sa, Sb, Sc, Se, O1.d, O2.d, O3.d, cmI, arI, envOf, putN, ↓reduceIte, Nat.reduceLT, Nat.reduceSub, Nat.reduceAdd, Int.reduceAdd, Int.reduceEq, Int.reduceLT, Int.reduceLE, arr_pos, arr_neg, ]
    refine ⟨fun h => ?_, fun h => ?_⟩
    · rw [← h2, drop_cons (d := 0) (by omega)]; rfl
    · rw [← h2, List.drop_eq_nil_of_le (by omega)]; rfl
theorem C_spec_l2Put (l : List (List Int)) (x : List Int) (hl : l.length ≤ 1048576) (hx : x.length ≤ 1048576) (hs : ∀ y ∈ l, y.length ≤ 1048576) (Q : List AV → Prop) : mc.C f_spec_l2Put [⟨L (L I), l⟩, ⟨L I, x⟩] Q = Q [⟨L (L I), putM x l⟩] := by
  refine Mc.Ends.c (mc.ends F_spec_l2Put ?_)
  generalize hK : putM x l = K
  simp (contextual := true) (maxSteps := 1000000) (disch := omega) only [↓Sd, ↓So, ↓Sk, ↓den, ↓denA, Sa, Sb, Sc, Se, O1.d, O2.d, O3.d, cmI, arI, envOf, putN, ↓reduceIte, Nat.reduceLT, Nat.reduceSub, Nat.reduceAdd, Int.reduceAdd, Int.reduceEq, Int.reduceLT, Int.reduceLE, arr_pos, arr_neg, tr_spec_l2Put]
  refine mc.lp_for (Bool × List (List Int)) (fun i s => [⟨L (L I), l⟩, ⟨L I, x⟩, ⟨B, s.1⟩, ⟨I, (i : Int)⟩, ⟨L (L I), s.2⟩]) (fun i s => s.2.length ≤ i + s.1.toNat ∧ (s.1 = true → s.2 ++ l.drop i = K) ∧ (s.1 = false → s.2 ++ putM x (l.drop i) = K)) l.length 0 (false, []) _ rfl (Nat.zero_le _) ⟨by simp, by simp, fun _ => hK⟩ ?_ ?_
  · rintro i ⟨d, o⟩ hi ⟨h1, h2, h3⟩
    have hy := hs _ (getD_mem (d := []) hi)
    rw [drop_cons (d := []) hi] at h2 h3
    obtain ⟨y, hg⟩ : ∃ y, l.getD i [] = y := ⟨_, rfl⟩
    rw [hg] at h2 h3 hy
    simp only at h1 h2 h3
    have h4 : (o.length : Int) ≤ 1048577 := by cases d <;> simp at h1 <;> omega
    cases d with
    | true =>
      have h2 := h2 rfl
      simp (contextual := true) (maxSteps := 1000000) (disch := omega) only [↓Sd, ↓So, ↓Sk, ↓den, ↓denA, Sa, Sb, Sc, Se, O1.d, O2.d, O3.d, cmI, arI, envOf, putN, ↓reduceIte, Nat.reduceLT, Nat.reduceSub, Nat.reduceAdd, Int.reduceAdd, Int.reduceEq, Int.reduceLT, Int.reduceLE, arr_pos, arr_neg, ↓wpJoin, hg]
      exact ⟨(true, o ++ [y]), ⟨rfl, rfl⟩, by simp at h1 ⊢; omega, fun _ => by rw [← h2]; simp, fun h => by cases h⟩
    | false =>
      have h3 := h3 rfl
      simp only [putM] at h3
      simp (contextual := true) (maxSteps := 1000000) (disch := omega) only [↓Sd, ↓So, ↓Sk, ↓den, ↓denA, Sa, Sb, Sc, Se, O1.d, O2.d, O3.d, cmI, arI, envOf, putN, ↓reduceIte, Nat.reduceLT, Nat.reduceSub, Nat.reduceAdd, Int.reduceAdd, Int.reduceEq, Int.reduceLT, Int.reduceLE, arr_pos, arr_neg, ↓wpJoin, hg, C_spec_l2Same y x hy hx, C_spec_l2Less x y hx hy]
      refine ⟨fun h => ?_, fun h => ⟨fun h5 => ?_, fun h5 => ?_⟩⟩
      · rw [if_pos h] at h3
        exact ⟨(true, o ++ [x]), ⟨rfl, rfl⟩, by simp at h1 ⊢; omega, fun _ => by rw [← h3, ← h]; simp, fun h => by cases h⟩
      · rw [if_neg h, if_pos h5] at h3
        exact ⟨(true, o ++ [x] ++ [y]), ⟨rfl, rfl⟩, by simp at h1 ⊢; omega, fun _ => by rw [← h3]; simp, fun h => by cases h⟩
      · rw [if_neg h, if_neg h5] at h3
        exact ⟨(false, o ++ [y]), ⟨rfl, rfl⟩, by simp at h1 ⊢; omega, fun h => (nomatch h), fun _ => by rw [← h3]; simp⟩
  · rintro ⟨d, o⟩ ⟨h1, h2, h3⟩
    simp only [List.drop_length] at h1 h2 h3
    have h4 : (o.length : Int) ≤ 1048577 := by cases d <;> simp at h1 <;> omega
    cases d with
    | true => simp (contextual := true) (maxSteps := 1000000) (disch := omega) only [↓Sd, ↓So, ↓Sk, ↓den, ↓denA, Sa, Sb, Sc, Se, O1.d, O2.d, O3.d, cmI, arI, envOf, putN, ↓reduceIte, Nat.reduceLT, Nat.reduceSub, Nat.reduceAdd, Int.reduceAdd, Int.reduceEq, Int.reduceLT, Int.reduceLE, arr_pos, arr_neg, ↓wpJoin, ]; simpa using h2 rfl
    | false => simp (contextual := true) (maxSteps := 1000000) (disch := omega) only [↓Sd, ↓So, ↓Sk, ↓den, ↓denA, Sa, Sb, Sc, Se, O1.d, O2.d, O3.d, cmI, arI, envOf, putN, ↓reduceIte, Nat.reduceLT, Nat.reduceSub, Nat.reduceAdd, Int.reduceAdd, Int.reduceEq, Int.reduceLT, Int.reduceLE, arr_pos, arr_neg, ↓wpJoin, ]; simpa [putM] using h3 rfl
def nxtN (s : Sy) (st : List Int) : Nat → List (List Int)
  | 0 => []
  | k + 1 => if useM s.1 (s.2.getD k ([], [], [])) st = [] then nxtN s st k else putM (useM s.1 (s.2.getD k ([], [], [])) st) (nxtN s st k)
/-- The states behind a state. -/
def nxt (s : Sy) (st : List Int) : List (List Int) := nxtN s st s.2.length
theorem nxtN_len {s : Sy} {st : List Int} : ∀ {k : Nat}, (nxtN s st k).length ≤ k
  | 0 => Nat.le_refl _
  | k + 1 => by
    have := @nxtN_len s st k
    simp only [nxtN]
    split
    · omega
    · exact Nat.le_trans putM_len (by omega)
theorem nxtN_asc {s : Sy} {st : List Int} : ∀ {k : Nat}, Asc (nxtN s st k)
  | 0 => List.Pairwise.nil
  | k + 1 => by
    simp only [nxtN]
    split
    · exact nxtN_asc
    · exact putM_asc nxtN_asc
theorem nxtN_in {s : Sy} {st : List Int} : ∀ {k : Nat}, ∀ x ∈ nxtN s st k, inR s.1 x
  | 0, x, h => by simp [nxtN] at h
  | k + 1, x, h => by
    simp only [nxtN] at h
    split at h
    · exact nxtN_in x h
    · rename_i h1
      rcases putM_mem h with rfl | h
      · exact useM_in h1
      · exact nxtN_in x h
theorem C_spec_l2Next (s : Sy) (st : List Int) (h : valid s) (hst : inR s.1 st) (Q : List AV → Prop) : mc.C f_spec_l2Next [⟨L V3, s.1⟩, ⟨L TR, s.2⟩, ⟨L I, st⟩] Q = Q [⟨L (L I), nxt s st⟩] := by
  have h8 := h.2.1
  have h5 := h.1.2
  refine Mc.Ends.c (mc.ends F_spec_l2Next ?_)
  simp (contextual := true) (maxSteps := 1000000) (disch := omega) only [↓Sd, ↓So, ↓Sk, ↓den, ↓denA, Sa, Sb, Sc, Se, O1.d, O2.d, O3.d, cmI, arI, envOf, putN, ↓reduceIte, Nat.reduceLT, Nat.reduceSub, Nat.reduceAdd, Int.reduceAdd, Int.reduceEq, Int.reduceLT, Int.reduceLE, arr_pos, arr_neg, tr_spec_l2Next]
  refine mc.lp_for (List (List Int)) (fun i o => [⟨L I, st⟩, ⟨I, (i : Int)⟩, ⟨L V3, s.1⟩, ⟨L TR, s.2⟩, ⟨L (L I), o⟩]) (fun i o => o = nxtN s st i) s.2.length 0 [] _ rfl (Nat.zero_le _) rfl ?_ ?_
  · rintro i o hi rfl
    have h1 := @nxtN_len s st i
    have hin : ∀ x ∈ nxtN s st i, x.length ≤ 1048576 := fun x hx => by have := (nxtN_in x hx).1; omega
    have hu : (useM s.1 (s.2.getD i ([], [], [])) st).length ≤ 1048576 := by
      by_cases h0 : useM s.1 (s.2.getD i ([], [], [])) st = []
      · rw [h0]; simp
      · have := (useM_in h0).1; omega
    simp (contextual := true) (maxSteps := 1000000) (disch := omega) only [↓Sd, ↓So, ↓Sk, ↓den, ↓denA, Sa, Sb, Sc, Se, O1.d, O2.d, O3.d, cmI, arI, envOf, putN, ↓reduceIte, Nat.reduceLT, Nat.reduceSub, Nat.reduceAdd, Int.reduceAdd, Int.reduceEq, Int.reduceLT, Int.reduceLE, arr_pos, arr_neg, ↓wpJoin, C_spec_l2Use s st i h hst hi, C_spec_l2Put _ _ (Nat.le_trans h1 (by omega)) hu hin]
    simp only [nxtN]
    refine ⟨fun g => ?_, fun g => ?_⟩
    · rw [if_neg (fun h0 => by rw [h0] at g; simp at g)]
    · rw [if_pos (List.eq_nil_of_length_eq_zero (by omega))]
  · rintro o rfl
    simp (contextual := true) (maxSteps := 1000000) (disch := omega) only [↓Sd, ↓So, ↓Sk, ↓den, ↓denA, Sa, Sb, Sc, Se, O1.d, O2.d, O3.d, cmI, arI, envOf, putN, ↓reduceIte, Nat.reduceLT, Nat.reduceSub, Nat.reduceAdd, Int.reduceAdd, Int.reduceEq, Int.reduceLT, Int.reduceLE, arr_pos, arr_neg, ]
    rfl
theorem C_impl_clone_Sint (l : List (List Int)) (hl : l.length ≤ 1048576) (Q : List AV → Prop) : mc.C f_impl_clone_Sint [⟨L (L I), l⟩] Q = Q [⟨L (L I), l⟩] := by
  refine Mc.Ends.c (mc.ends F_impl_clone_Sint ?_)
  simp (contextual := true) (maxSteps := 1000000) (disch := omega) only [↓Sd, ↓So, ↓Sk, ↓den, ↓denA, Sa, Sb, Sc, Se, O1.d, O2.d, O3.d, cmI, arI, envOf, putN, ↓reduceIte, Nat.reduceLT, Nat.reduceSub, Nat.reduceAdd, Int.reduceAdd, Int.reduceEq, Int.reduceLT, Int.reduceLE, arr_pos, arr_neg, tr_impl_clone_Sint, overL_rep]
  intro h
  exact (List.eq_nil_of_length_eq_zero (by omega)).symm
theorem Asc.lt {l : List (List Int)} (h : Asc l) {i j : Nat} (hij : i < j) (hj : j < l.length) : cmpL (l.getD i []) (l.getD j []) < 0 := by
  rw [getD_lt (by omega), getD_lt hj]
  exact List.pairwise_iff_getElem.1 h i j (by omega) hj hij
theorem C_impl_nextStates (s : Sy) (st : List Int) (h : valid s) (hst : inR s.1 st) (Q : List AV → Prop) : mc.C f_impl_nextStates [⟨L V3, s.1⟩, ⟨L TR, s.2⟩, ⟨L I, st⟩] Q = Q [⟨L (L I), nxt s st⟩] := by
  have h8 := h.2.1
  have h5 := h.1.2
  refine Mc.Ends.c (mc.ends F_impl_nextStates ?_)
  simp (contextual := true) (maxSteps := 1000000) (disch := omega) only [↓Sd, ↓So, ↓Sk, ↓den, ↓denA, Sa, Sb, Sc, Se, O1.d, O2.d, O3.d, cmI, arI, envOf, putN, ↓reduceIte, Nat.reduceLT, Nat.reduceSub, Nat.reduceAdd, Int.reduceAdd, Int.reduceEq, Int.reduceLT, Int.reduceLE, arr_pos, arr_neg, tr_impl_nextStates]
  refine mc.lp_for (List (List Int)) (fun i o => [⟨L I, st⟩, ⟨I, (s.2.length : Int)⟩, ⟨I, (i : Int)⟩, ⟨L V3, s.1⟩, ⟨L TR, s.2⟩, ⟨L (L I), o⟩]) (fun i o => o = nxtN s st i) s.2.length 0 [] _ rfl (Nat.zero_le _) rfl ?_ ?_
  · rintro i o hi rfl
    have h1 := @nxtN_len s st i
    have hin : ∀ x ∈ nxtN s st i, x.length ≤ 1048576 := fun x hx => by have := (nxtN_in x hx).1; omega
    have hasc := @nxtN_asc s st i
    simp (contextual := true) (maxSteps := 1000000) (disch := omega) only [↓Sd, ↓So, ↓Sk, ↓den, ↓denA, Sa, Sb, Sc, Se, O1.d, O2.d, O3.d, cmI, arI, envOf, putN, ↓reduceIte, Nat.reduceLT, Nat.reduceSub, Nat.reduceAdd, Int.reduceAdd, Int.reduceEq, Int.reduceLT, Int.reduceLE, arr_pos, arr_neg, ]
    refine mc.wp_join (fun us => us = [⟨L I, st⟩, ⟨I, (s.2.length : Int)⟩, ⟨I, (i : Int)⟩, ⟨L V3, s.1⟩, ⟨L TR, s.2⟩, ⟨L (L I), nxtN s st (i + 1)⟩]) ?_ ?_
    · simp (contextual := true) (maxSteps := 1000000) (disch := omega) only [↓Sd, ↓So, ↓Sk, ↓den, ↓denA, Sa, Sb, Sc, Se, O1.d, O2.d, O3.d, cmI, arI, envOf, putN, ↓reduceIte, Nat.reduceLT, Nat.reduceSub, Nat.reduceAdd, Int.reduceAdd, Int.reduceEq, Int.reduceLT, Int.reduceLE, arr_pos, arr_neg, C_impl_use s st i h hst hi]
      simp only [nxtN]
      refine ⟨fun g => ?_, fun g => ?_⟩
      · rw [if_neg g]
        have hu : (useM s.1 (s.2.getD i ([], [], [])) st).length ≤ 1048576 := by have := (useM_in g).1; omega
        generalize useM s.1 (s.2.getD i ([], [], [])) st = x at *
        generalize nxtN s st i = l at *
        refine mc.wp_join (fun us => ∃ at' : Nat, at' ≤ l.length ∧ (∀ k, k < at' → cmpL (l.getD k []) x < 0) ∧ (∀ k, at' ≤ k → k < l.length → 0 ≤ cmpL (l.getD k []) x) ∧
          us = [⟨L I, st⟩, ⟨I, (at' : Int)⟩, ⟨B, decide (at' < l.length ∧ cmpL (l.getD at' []) x = 0)⟩, ⟨I, (s.2.length : Int)⟩, ⟨I, (i : Int)⟩, ⟨L V3, s.1⟩, ⟨L TR, s.2⟩, ⟨L (L I), l⟩, ⟨L I, x⟩]) ?_ ?_
        · simp (contextual := true) (maxSteps := 1000000) (disch := omega) only [↓Sd, ↓So, ↓Sk, ↓den, ↓denA, Sa, Sb, Sc, Se, O1.d, O2.d, O3.d, cmI, arI, envOf, putN, ↓reduceIte, Nat.reduceLT, Nat.reduceSub, Nat.reduceAdd, Int.reduceAdd, Int.reduceEq, Int.reduceLT, Int.reduceLE, arr_pos, arr_neg, ]
          refine mc.lp_inv (fun k us => ∃ lo hi : Nat, k = hi - lo ∧ lo ≤ hi ∧ hi ≤ l.length ∧ (∀ k, k < lo → cmpL (l.getD k []) x < 0) ∧ (∀ k, hi ≤ k → k < l.length → 0 ≤ cmpL (l.getD k []) x) ∧
            us = [⟨I, (l.length : Int)⟩, ⟨I, (lo : Int)⟩, ⟨I, (hi : Int)⟩, ⟨L I, st⟩, ⟨I, (s.2.length : Int)⟩, ⟨I, (i : Int)⟩, ⟨L (L I), l⟩, ⟨L I, x⟩, ⟨L V3, s.1⟩, ⟨L TR, s.2⟩]) l.length _ ⟨0, l.length, rfl, Nat.zero_le _, Nat.le_refl _, fun k hk => absurd hk (Nat.not_lt_zero _), fun k h1 h2 => absurd h1 (by omega), rfl⟩ ?_
          rintro k us ⟨lo, hi, rfl, a1, a2, a3, a4, rfl⟩
          obtain ⟨m, hm⟩ : ∃ m : Nat, ((lo : Int) + hi) / 2 = m := ⟨((lo + hi) / 2), by omega⟩
          have hc : ∀ n, n < l.length → ∀ Q, mc.C f_slices_Compare_Sint_int [⟨L I, l.getD n []⟩, ⟨L I, x⟩] Q = Q [⟨I, cmpL (l.getD n []) x⟩] := fun n hn Q => C_slices_Compare _ _ (hin _ (getD_mem hn)) hu Q
          simp (contextual := true) (maxSteps := 1000000) (disch := omega) only [↓Sd, ↓So, ↓Sk, ↓den, ↓denA, Sa, Sb, Sc, Se, O1.d, O2.d, O3.d, cmI, arI, envOf, putN, ↓reduceIte, Nat.reduceLT, Nat.reduceSub, Nat.reduceAdd, Int.reduceAdd, Int.reduceEq, Int.reduceLT, Int.reduceLE, arr_pos, arr_neg, hm]
          refine ⟨fun g1 => ?_, fun g1 => ⟨fun g2 => ?_, fun g2 => ?_⟩⟩
          · rw [hc m (by omega)]
            simp (contextual := true) (maxSteps := 1000000) (disch := omega) only [↓Sd, ↓So, ↓Sk, ↓den, ↓denA, Sa, Sb, Sc, Se, O1.d, O2.d, O3.d, cmI, arI, envOf, putN, ↓reduceIte, Nat.reduceLT, Nat.reduceSub, Nat.reduceAdd, Int.reduceAdd, Int.reduceEq, Int.reduceLT, Int.reduceLE, arr_pos, arr_neg, hm]
            refine ⟨fun g2 => ⟨hi - (m + 1), by omega, m + 1, hi, rfl, by omega, a2, fun k hk => ?_, a4, rfl, rfl⟩, fun g2 => ⟨m - lo, by omega, lo, m, rfl, by omega, by omega, a3, fun k hk1 hk2 => ?_, rfl, rfl⟩⟩
            · rcases Nat.lt_succ_iff_lt_or_eq.1 hk with h3 | rfl
              · exact cmpL_trans (hasc.lt h3 (by omega)) g2
              · exact g2
            · rcases Nat.lt_or_eq_of_le hk1 with h3 | rfl
              · exact Classical.byContradiction fun h4 => g2 (cmpL_trans (hasc.lt h3 hk2) (by omega))
              · omega
          · rw [hc lo (by omega)]
            simp (contextual := true) (maxSteps := 1000000) (disch := omega) only [↓Sd, ↓So, ↓Sk, ↓den, ↓denA, Sa, Sb, Sc, Se, O1.d, O2.d, O3.d, cmI, arI, envOf, putN, ↓reduceIte, Nat.reduceLT, Nat.reduceSub, Nat.reduceAdd, Int.reduceAdd, Int.reduceEq, Int.reduceLT, Int.reduceLE, arr_pos, arr_neg, ]
            refine ⟨lo, by omega, a3, fun k hk1 hk2 => a4 k (by omega) hk2, rfl, ?_⟩
            have : lo < l.length := by omega
            simp [this]
            rfl
          · refine ⟨lo, by omega, a3, fun k hk1 hk2 => a4 k (by omega) hk2, rfl, ?_⟩
            have : ¬ lo < l.length := by omega
            simp [this]
        · rintro _ ⟨at', b1, b2, b3, rfl⟩
          simp (contextual := true) (maxSteps := 1000000) (disch := omega) only [↓Sd, ↓So, ↓Sk, ↓den, ↓denA, Sa, Sb, Sc, Se, O1.d, O2.d, O3.d, cmI, arI, envOf, putN, ↓reduceIte, Nat.reduceLT, Nat.reduceSub, Nat.reduceAdd, Int.reduceAdd, Int.reduceEq, Int.reduceLT, Int.reduceLE, arr_pos, arr_neg, ]
          rw [putM_at b1 b2 b3]
          refine ⟨fun g1 => by rw [if_neg g1], fun g1 => by rw [if_pos g1]⟩
      · rw [if_pos (by simpa using g)]
    · rintro _ rfl
      simp (contextual := true) (maxSteps := 1000000) (disch := omega) only [↓Sd, ↓So, ↓Sk, ↓den, ↓denA, Sa, Sb, Sc, Se, O1.d, O2.d, O3.d, cmI, arI, envOf, putN, ↓reduceIte, Nat.reduceLT, Nat.reduceSub, Nat.reduceAdd, Int.reduceAdd, Int.reduceEq, Int.reduceLT, Int.reduceLE, arr_pos, arr_neg, ]
  · rintro o rfl
    simp (contextual := true) (maxSteps := 1000000) (disch := omega) only [↓Sd, ↓So, ↓Sk, ↓den, ↓denA, Sa, Sb, Sc, Se, O1.d, O2.d, O3.d, cmI, arI, envOf, putN, ↓reduceIte, Nat.reduceLT, Nat.reduceSub, Nat.reduceAdd, Int.reduceAdd, Int.reduceEq, Int.reduceLT, Int.reduceLE, arr_pos, arr_neg, C_impl_clone_Sint (nxtN s st s.2.length) (Nat.le_trans nxtN_len (by omega))]
    rfl
/-- The first state. -/
def fst0 (l : List Vr) : List Int := l.map (·.2.2)
theorem fst0_in {l : List Vr} (hv : ∀ v ∈ l, vOk v) : inR l (fst0 l) := by
  refine ⟨by simp [fst0], fun i hi => ?_⟩
  have h := hv _ (getD_mem (d := (0, 0, 0)) hi)
  have e : (fst0 l).getD i 0 = (l.getD i (0, 0, 0)).2.2 := by simp [fst0, hi]
  rw [e]
  unfold vOk at h
  omega
theorem fst0_next {l : List Vr} {i : Nat} (hi : i < l.length) : fst0 (l.take i) ++ [(l.getD i (0, 0, 0)).2.2] = fst0 (l.take (i + 1)) := by
  rw [← take_next (d := (0, 0, 0)) hi]; simp [fst0]
theorem C_impl_first (s : Sy) (h : s.1.length ≤ 5) (Q : List AV → Prop) : mc.C f_impl_first [⟨L V3, s.1⟩, ⟨L TR, s.2⟩] Q = Q [⟨L I, fst0 s.1⟩] := by
  refine Mc.Ends.c (mc.ends F_impl_first ?_)
  simp (contextual := true) (maxSteps := 1000000) (disch := omega) only [↓Sd, ↓So, ↓Sk, ↓den, ↓denA, Sa, Sb, Sc, Se, O1.d, O2.d, O3.d, cmI, arI, envOf, putN, ↓reduceIte, Nat.reduceLT, Nat.reduceSub, Nat.reduceAdd, Int.reduceAdd, Int.reduceEq, Int.reduceLT, Int.reduceLE, arr_pos, arr_neg, tr_impl_first]
  refine mc.lp_for (List Int) (fun i o => [⟨L V3, s.1⟩, ⟨I, (s.1.length : Int)⟩, ⟨I, (i : Int)⟩, ⟨L I, o⟩]) (fun i o => o = fst0 (s.1.take i)) s.1.length 0 [] _ rfl (Nat.zero_le _) rfl ?_ ?_
  · rintro i o hi rfl
    have h1 : ((fst0 (s.1.take i)).length : Int) ≤ 5 := by simp [fst0]; omega
    simp (contextual := true) (maxSteps := 1000000) (disch := omega) only [↓Sd, ↓So, ↓Sk, ↓den, ↓denA, Sa, Sb, Sc, Se, O1.d, O2.d, O3.d, cmI, arI, envOf, putN, ↓reduceIte, Nat.reduceLT, Nat.reduceSub, Nat.reduceAdd, Int.reduceAdd, Int.reduceEq, Int.reduceLT, Int.reduceLE, arr_pos, arr_neg, ]
    exact fst0_next hi
  · rintro o rfl
    rw [List.take_length]
    have h1 : (fst0 s.1).length ≤ 5 := by simp [fst0]; omega
    simp (contextual := true) (maxSteps := 1000000) (disch := omega) only [↓Sd, ↓So, ↓Sk, ↓den, ↓denA, Sa, Sb, Sc, Se, O1.d, O2.d, O3.d, cmI, arI, envOf, putN, ↓reduceIte, Nat.reduceLT, Nat.reduceSub, Nat.reduceAdd, Int.reduceAdd, Int.reduceEq, Int.reduceLT, Int.reduceLE, arr_pos, arr_neg, C_impl_clone_int (fst0 s.1) (by omega)]
theorem C_spec_FirstState (s : Sy) (hs : FewSy s) (hv : valid s) (Q : List AV → Prop) : mc.C f_spec_FirstState [⟨L V3, s.1⟩, ⟨L TR, s.2⟩] Q = Q [⟨L I, fst0 s.1⟩] := by
  have h := hv.1.2
  refine Mc.Ends.c (mc.ends F_spec_FirstState ?_)
  simp (contextual := true) (maxSteps := 1000000) (disch := omega) only [↓Sd, ↓So, ↓Sk, ↓den, ↓denA, Sa, Sb, Sc, Se, O1.d, O2.d, O3.d, cmI, arI, envOf, putN, ↓reduceIte, Nat.reduceLT, Nat.reduceSub, Nat.reduceAdd, Int.reduceAdd, Int.reduceEq, Int.reduceLT, Int.reduceLE, arr_pos, arr_neg, tr_spec_FirstState]
  refine mc.wp_join (fun us => us = [⟨L I, fst0 s.1⟩]) ?_ (by rintro _ rfl; simp (contextual := true) (maxSteps := 1000000) (disch := omega) only [↓Sd, ↓So, ↓Sk, ↓den, ↓denA, Sa, Sb, Sc, Se, O1.d, O2.d, O3.d, cmI, arI, envOf, putN, ↓reduceIte, Nat.reduceLT, Nat.reduceSub, Nat.reduceAdd, Int.reduceAdd, Int.reduceEq, Int.reduceLT, Int.reduceLE, arr_pos, arr_neg, ])
  simp (contextual := true) (maxSteps := 1000000) (disch := omega) only [↓Sd, ↓So, ↓Sk, ↓den, ↓denA, Sa, Sb, Sc, Se, O1.d, O2.d, O3.d, cmI, arI, envOf, putN, ↓reduceIte, Nat.reduceLT, Nat.reduceSub, Nat.reduceAdd, Int.reduceAdd, Int.reduceEq, Int.reduceLT, Int.reduceLE, arr_pos, arr_neg, ]
  refine mc.lp_for (List Int) (fun i o => [⟨I, (i : Int)⟩, ⟨L V3, s.1⟩, ⟨L TR, s.2⟩, ⟨L I, o⟩]) (fun i o => o = fst0 (s.1.take i)) s.1.length 0 [] _ rfl (Nat.zero_le _) rfl ?_ ?_
  · rintro i o hi rfl
    have h1 : ((fst0 (s.1.take i)).length : Int) ≤ 5 := by simp [fst0]; omega
    simp (contextual := true) (maxSteps := 1000000) (disch := omega) only [↓Sd, ↓So, ↓Sk, ↓den, ↓denA, Sa, Sb, Sc, Se, O1.d, O2.d, O3.d, cmI, arI, envOf, putN, ↓reduceIte, Nat.reduceLT, Nat.reduceSub, Nat.reduceAdd, Int.reduceAdd, Int.reduceEq, Int.reduceLT, Int.reduceLE, arr_pos, arr_neg, C_spec_SystemValid s hs, hv]
    exact fst0_next hi
  · rintro o rfl
    simp (contextual := true) (maxSteps := 1000000) (disch := omega) only [↓Sd, ↓So, ↓Sk, ↓den, ↓denA, Sa, Sb, Sc, Se, O1.d, O2.d, O3.d, cmI, arI, envOf, putN, ↓reduceIte, Nat.reduceLT, Nat.reduceSub, Nat.reduceAdd, Int.reduceAdd, Int.reduceEq, Int.reduceLT, Int.reduceLE, arr_pos, arr_neg, ]
    rw [List.take_length]
theorem C_spec_l3Copy (l : List Int) (hl : l.length ≤ 1048576) (Q : List AV → Prop) : mc.C f_spec_l3Copy [⟨L I, l⟩] Q = Q [⟨L I, l⟩] := by
  refine Mc.Ends.c (mc.ends F_spec_l3Copy ?_)
  simp (contextual := true) (maxSteps := 1000000) (disch := omega) only [↓Sd, ↓So, ↓Sk, ↓den, ↓denA, Sa, Sb, Sc, Se, O1.d, O2.d, O3.d, cmI, arI, envOf, putN, ↓reduceIte, Nat.reduceLT, Nat.reduceSub, Nat.reduceAdd, Int.reduceAdd, Int.reduceEq, Int.reduceLT, Int.reduceLE, arr_pos, arr_neg, tr_spec_l3Copy]
  refine mc.lp_for (List Int) (fun i o => [⟨L I, l⟩, ⟨I, (i : Int)⟩, ⟨L I, o⟩]) (fun i o => o = l.take i) l.length 0 [] _ rfl (Nat.zero_le _) rfl ?_ ?_
  · rintro i o hi rfl
    have h1 : ((l.take i).length : Int) ≤ 1048576 := by rw [List.length_take]; omega
    simp (contextual := true) (maxSteps := 1000000) (disch := omega) only [↓Sd, ↓So, ↓Sk, ↓den, ↓denA, Sa, Sb, Sc, Se, O1.d, O2.d, O3.d, cmI, arI, envOf, putN, ↓reduceIte, Nat.reduceLT, Nat.reduceSub, Nat.reduceAdd, Int.reduceAdd, Int.reduceEq, Int.reduceLT, Int.reduceLE, arr_pos, arr_neg, ]
    exact take_next hi
  · rintro o rfl
    simp (contextual := true) (maxSteps := 1000000) (disch := omega) only [↓Sd, ↓So, ↓Sk, ↓den, ↓denA, Sa, Sb, Sc, Se, O1.d, O2.d, O3.d, cmI, arI, envOf, putN, ↓reduceIte, Nat.reduceLT, Nat.reduceSub, Nat.reduceAdd, Int.reduceAdd, Int.reduceEq, Int.reduceLT, Int.reduceLE, arr_pos, arr_neg, ]
    rw [List.take_length]
/-- The number of a state, up to a place. -/
def numN (l : List Vr) (st : List Int) : Nat → Int
  | 0 => 0
  | i + 1 => numN l st i * wd (l.getD i (0, 0, 0)) + st.getD i 0 - (l.getD i (0, 0, 0)).1
def num (l : List Vr) (st : List Int) : Int := numN l st l.length
theorem numN_bd {l : List Vr} {st : List Int} (hv : ∀ v ∈ l, vOk v) (hst : inR l st) : ∀ {i : Nat}, i ≤ l.length → 0 ≤ numN l st i ∧ numN l st i < sz (l.take i)
  | 0, _ => by simp [numN, sz]
  | i + 1, hi => by
    have ih := numN_bd hv hst (i := i) (by omega)
    have h1 := hst.2 i (by omega)
    have h2 := hv _ (getD_mem (d := (0, 0, 0)) (show i < l.length by omega))
    have h3 := wd_ok h2
    rw [sz_next (d := (0, 0, 0)) (by omega)]
    simp only [numN]
    have h4 : 0 ≤ numN l st i * wd (l.getD i (0, 0, 0)) := Int.mul_nonneg ih.1 (by omega)
    have h5 : (numN l st i + 1) * wd (l.getD i (0, 0, 0)) ≤ sz (l.take i) * wd (l.getD i (0, 0, 0)) := Int.mul_le_mul_of_nonneg_right (by omega) (by omega)
    rw [Int.add_mul, Int.one_mul] at h5
    have h6 : wd (l.getD i (0, 0, 0)) = (l.getD i (0, 0, 0)).2.1 - (l.getD i (0, 0, 0)).1 + 1 := rfl
    omega
theorem num_bd {l : List Vr} {st : List Int} (hv : ∀ v ∈ l, vOk v) (hst : inR l st) : 0 ≤ num l st ∧ num l st < sz l := by
  have := numN_bd hv hst (Nat.le_refl l.length)
  rwa [List.take_length] at this
theorem C_spec_l4Number (s : Sy) (st : List Int) (h5 : s.1.length ≤ 5) (hv : ∀ v ∈ s.1, vOk v) (hst : inR s.1 st) (Q : List AV → Prop) : mc.C f_spec_l4Number [⟨L V3, s.1⟩, ⟨L TR, s.2⟩, ⟨L I, st⟩] Q = Q [⟨I, num s.1 st⟩] := by
  have hl := hst.1
  refine Mc.Ends.c (mc.ends F_spec_l4Number ?_)
  simp (contextual := true) (maxSteps := 1000000) (disch := omega) only [↓Sd, ↓So, ↓Sk, ↓den, ↓denA, Sa, Sb, Sc, Se, O1.d, O2.d, O3.d, cmI, arI, envOf, putN, ↓reduceIte, Nat.reduceLT, Nat.reduceSub, Nat.reduceAdd, Int.reduceAdd, Int.reduceEq, Int.reduceLT, Int.reduceLE, arr_pos, arr_neg, tr_spec_l4Number]
  refine mc.lp_for Int (fun i n => [⟨L I, st⟩, ⟨I, n⟩, ⟨I, (i : Int)⟩, ⟨L V3, s.1⟩, ⟨L TR, s.2⟩]) (fun i n => n = numN s.1 st i) st.length 0 0 _ rfl (Nat.zero_le _) rfl ?_ ?_
  · rintro i n hi rfl
    have h1 := numN_bd hv hst (i := i) (by omega)
    have h2 := sz_get (l := s.1) h5 (show i ≤ s.1.length by omega) fun j hj => hv _ (getD_mem (by omega))
    have h3 := hv _ (getD_mem (d := (0, 0, 0)) (show i < s.1.length by omega))
    have h4 := hst.2 i (by omega)
    have h6 : 0 ≤ numN s.1 st i * wd (s.1.getD i (0, 0, 0)) ∧ numN s.1 st i * wd (s.1.getD i (0, 0, 0)) ≤ 64000000 := by
      have a := wd_ok h3
      refine ⟨Int.mul_nonneg h1.1 (by omega), ?_⟩
      have := Int.mul_le_mul (show numN s.1 st i ≤ 3200000 by omega) a.2 (by omega) (by omega)
      omega
    unfold vOk at h3
    unfold wd at h6
    simp (contextual := true) (maxSteps := 1000000) (disch := omega) only [↓Sd, ↓So, ↓Sk, ↓den, ↓denA, Sa, Sb, Sc, Se, O1.d, O2.d, O3.d, cmI, arI, envOf, putN, ↓reduceIte, Nat.reduceLT, Nat.reduceSub, Nat.reduceAdd, Int.reduceAdd, Int.reduceEq, Int.reduceLT, Int.reduceLE, arr_pos, arr_neg, ]
    rfl
  · rintro n rfl
    simp (contextual := true) (maxSteps := 1000000) (disch := omega) only [↓Sd, ↓So, ↓Sk, ↓den, ↓denA, Sa, Sb, Sc, Se, O1.d, O2.d, O3.d, cmI, arI, envOf, putN, ↓reduceIte, Nat.reduceLT, Nat.reduceSub, Nat.reduceAdd, Int.reduceAdd, Int.reduceEq, Int.reduceLT, Int.reduceLE, arr_pos, arr_neg, ]
    rw [hl]; rfl
theorem C_impl_number (s : Sy) (st : List Int) (h5 : s.1.length ≤ 5) (hv : ∀ v ∈ s.1, vOk v) (hst : inR s.1 st) (Q : List AV → Prop) : mc.C f_impl_number [⟨L V3, s.1⟩, ⟨L TR, s.2⟩, ⟨L I, st⟩] Q = Q [⟨I, num s.1 st⟩] := by
  have hl := hst.1
  refine Mc.Ends.c (mc.ends F_impl_number ?_)
  simp (contextual := true) (maxSteps := 1000000) (disch := omega) only [↓Sd, ↓So, ↓Sk, ↓den, ↓denA, Sa, Sb, Sc, Se, O1.d, O2.d, O3.d, cmI, arI, envOf, putN, ↓reduceIte, Nat.reduceLT, Nat.reduceSub, Nat.reduceAdd, Int.reduceAdd, Int.reduceEq, Int.reduceLT, Int.reduceLE, arr_pos, arr_neg, tr_impl_number]
  refine mc.lp_for Int (fun i n => [⟨L I, st⟩, ⟨I, n⟩, ⟨L V3, s.1⟩, ⟨I, (s.1.length : Int)⟩, ⟨I, (i : Int)⟩]) (fun i n => n = numN s.1 st i) s.1.length 0 0 _ rfl (Nat.zero_le _) rfl ?_ ?_
  · rintro i n hi rfl
    have h1 := numN_bd hv hst (i := i) (by omega)
    have h2 := sz_get (l := s.1) h5 (show i ≤ s.1.length by omega) fun j hj => hv _ (getD_mem (by omega))
    have h3 := hv _ (getD_mem (d := (0, 0, 0)) (show i < s.1.length by omega))
    have h4 := hst.2 i (by omega)
    have h6 : 0 ≤ numN s.1 st i * wd (s.1.getD i (0, 0, 0)) ∧ numN s.1 st i * wd (s.1.getD i (0, 0, 0)) ≤ 64000000 := by
      have a := wd_ok h3
      refine ⟨Int.mul_nonneg h1.1 (by omega), ?_⟩
      have := Int.mul_le_mul (show numN s.1 st i ≤ 3200000 by omega) a.2 (by omega) (by omega)
      omega
    unfold vOk at h3
    unfold wd at h6
    simp (contextual := true) (maxSteps := 1000000) (disch := omega) only [↓Sd, ↓So, ↓Sk, ↓den, ↓denA, Sa, Sb, Sc, Se, O1.d, O2.d, O3.d, cmI, arI, envOf, putN, ↓reduceIte, Nat.reduceLT, Nat.reduceSub, Nat.reduceAdd, Int.reduceAdd, Int.reduceEq, Int.reduceLT, Int.reduceLE, arr_pos, arr_neg, ]
    rfl
  · rintro n rfl
    simp (contextual := true) (maxSteps := 1000000) (disch := omega) only [↓Sd, ↓So, ↓Sk, ↓den, ↓denA, Sa, Sb, Sc, Se, O1.d, O2.d, O3.d, cmI, arI, envOf, putN, ↓reduceIte, Nat.reduceLT, Nat.reduceSub, Nat.reduceAdd, Int.reduceAdd, Int.reduceEq, Int.reduceLT, Int.reduceLE, arr_pos, arr_neg, ]
    rfl
/-- The digits of a number. -/
def dg : List Vr → Int → Int × List Int
  | [], n => (n, [])
  | v :: l, n => ((dg l n).1 / wd v, (v.1 + (dg l n).1 % wd v) :: (dg l n).2)
def stAt (l : List Vr) (n : Int) : List Int := (dg l n).2
theorem dg_len : ∀ {l : List Vr} {n : Int}, (dg l n).2.length = l.length
  | [], n => rfl
  | v :: l, n => by simp [dg, dg_len]
theorem dg_bd {l : List Vr} {n : Int} (hv : ∀ v ∈ l, vOk v) (hn : 0 ≤ n ∧ n ≤ 3200000) : 0 ≤ (dg l n).1 ∧ (dg l n).1 ≤ 3200000 := by
  induction l with
  | nil => exact hn
  | cons v l ih =>
    have h := ih fun v hv' => hv v (List.mem_cons_of_mem _ hv')
    have h1 := wd_ok (hv v (List.mem_cons_self ..))
    simp only [dg]
    exact ⟨Int.ediv_nonneg h.1 (by omega), Int.le_trans (Int.ediv_le_self _ h.1) h.2⟩
theorem stAt_in {l : List Vr} {n : Int} (hv : ∀ v ∈ l, vOk v) (hn : 0 ≤ n ∧ n ≤ 3200000) : inR l (stAt l n) := by
  induction l with
  | nil => exact ⟨rfl, fun i hi => absurd hi (Nat.not_lt_zero _)⟩
  | cons v l ih =>
    have h := ih fun v hv' => hv v (List.mem_cons_of_mem _ hv')
    have h1 := hv v (List.mem_cons_self ..)
    have h2 := wd_ok h1
    refine ⟨by simp [stAt, dg_len], fun i hi => ?_⟩
    cases i with
    | succ i => exact h.2 i (by simpa using hi)
    | zero =>
      have a1 := Int.emod_nonneg (dg l n).1 (show wd v ≠ 0 by omega)
      have a2 := Int.emod_lt_of_pos (dg l n).1 (show 0 < wd v by omega)
      have a3 : wd v = v.2.1 - v.1 + 1 := rfl
      simp only [stAt, dg, List.getD_cons_zero]
      omega
theorem set_down {pre D : List Int} {k : Nat} {x : Int} (h : k < pre.length) : (pre.take (k + 1) ++ D).set k x = pre.take k ++ x :: D := by
  rw [← take_next (d := 0) h, List.append_assoc, List.set_append_right _ _ (by rw [List.length_take]; omega)]
  have : k - (pre.take k).length = 0 := by rw [List.length_take]; omega
  rw [this]; rfl
/-- What the loop over the digits holds. -/
theorem dg_next {l : List Vr} {n : Int} {k : Nat} (h : k < l.length) : dg (l.drop k) n = ((dg (l.drop (k + 1)) n).1 / wd (l.getD k (0, 0, 0)), ((l.getD k (0, 0, 0)).1 + (dg (l.drop (k + 1)) n).1 % wd (l.getD k (0, 0, 0))) :: (dg (l.drop (k + 1)) n).2) := by
  rw [drop_cons (d := (0, 0, 0)) h]; rfl
theorem C_impl_stateAt (s : Sy) (n : Int) (h5 : s.1.length ≤ 5) (hv : ∀ v ∈ s.1, vOk v) (hn : 0 ≤ n ∧ n ≤ 3200000) (Q : List AV → Prop) : mc.C f_impl_stateAt [⟨L V3, s.1⟩, ⟨L TR, s.2⟩, ⟨I, n⟩] Q = Q [⟨L I, stAt s.1 n⟩] := by
  refine Mc.Ends.c (mc.ends F_impl_stateAt ?_)
  simp (contextual := true) (maxSteps := 1000000) (disch := omega) only [↓Sd, ↓So, ↓Sk, ↓den, ↓denA, Sa, Sb, Sc, Se, O1.d, O2.d, O3.d, cmI, arI, envOf, putN, ↓reduceIte, Nat.reduceLT, Nat.reduceSub, Nat.reduceAdd, Int.reduceAdd, Int.reduceEq, Int.reduceLT, Int.reduceLE, arr_pos, arr_neg, tr_impl_stateAt, List.length_replicate]
  refine mc.lp_down (Int × List Int) (fun k x => [⟨I, x.1⟩, ⟨I, (k : Int) - 1⟩, ⟨L V3, s.1⟩, ⟨L TR, s.2⟩, ⟨L I, x.2⟩]) (fun k x => k ≤ s.1.length ∧ x.1 = (dg (s.1.drop k) n).1 ∧ x.2 = (List.replicate s.1.length (0 : Int)).take k ++ (dg (s.1.drop k) n).2) s.1.length (n, List.replicate s.1.length 0) _ rfl ⟨Nat.le_refl _, by simp [dg], by simp [dg]⟩ ?_ ?_
  · rintro k ⟨m, o⟩ ⟨hk, rfl, rfl⟩
    have hv' : ∀ k, ∀ v ∈ s.1.drop k, vOk v := fun k v hv1 => hv v (List.mem_of_mem_drop hv1)
    have h1 := dg_bd (hv' (k + 1)) hn
    have h2 := dg_bd (hv' k) hn
    have h3 := hv _ (getD_mem (d := (0, 0, 0)) (show k < s.1.length by omega))
    have h4 := wd_ok h3
    have h6 := Int.emod_nonneg (dg (s.1.drop (k + 1)) n).1 (show wd (s.1.getD k (0, 0, 0)) ≠ 0 by omega)
    have h7 := Int.emod_lt_of_pos (dg (s.1.drop (k + 1)) n).1 (show 0 < wd (s.1.getD k (0, 0, 0)) by omega)
    have hlen : ((List.replicate s.1.length (0 : Int)).take (k + 1) ++ (dg (s.1.drop (k + 1)) n).2).length = s.1.length := by simp [dg_len]; omega
    have hset : ∀ x : Int, ((List.replicate s.1.length (0 : Int)).take (k + 1) ++ (dg (s.1.drop (k + 1)) n).2).set k x = (List.replicate s.1.length (0 : Int)).take k ++ x :: (dg (s.1.drop (k + 1)) n).2 := fun x => set_down (by rw [List.length_replicate]; omega)
    have e := dg_next (l := s.1) (n := n) (k := k) (by omega)
    rw [e] at h2 ⊢
    clear e
    generalize dg (s.1.drop (k + 1)) n = D at *
    generalize (List.replicate s.1.length (0 : Int)).take (k + 1) ++ D.2 = O at *
    generalize (List.replicate s.1.length (0 : Int)).take k = P at *
    simp only [wd] at h2 h4 h6 h7 ⊢
    unfold vOk at h3
    simp (contextual := true) (maxSteps := 1000000) (disch := omega) only [↓Sd, ↓So, ↓Sk, ↓den, ↓denA, Sa, Sb, Sc, Se, O1.d, O2.d, O3.d, cmI, arI, envOf, putN, ↓reduceIte, Nat.reduceLT, Nat.reduceSub, Nat.reduceAdd, Int.reduceAdd, Int.reduceEq, Int.reduceLT, Int.reduceLE, arr_pos, arr_neg, hset]
    exact ⟨(_, _), ⟨rfl, rfl⟩, by omega, rfl, rfl⟩
  · rintro ⟨m, o⟩ ⟨hk, rfl, rfl⟩
    simp (contextual := true) (maxSteps := 1000000) (disch := omega) only [↓Sd, ↓So, ↓Sk, ↓den, ↓denA, Sa, Sb, Sc, Se, O1.d, O2.d, O3.d, cmI, arI, envOf, putN, ↓reduceIte, Nat.reduceLT, Nat.reduceSub, Nat.reduceAdd, Int.reduceAdd, Int.reduceEq, Int.reduceLT, Int.reduceLE, arr_pos, arr_neg, List.take_zero, List.nil_append, List.drop_zero]
    rfl
theorem C_spec_l4State (s : Sy) (n : Int) (hs : FewSy s) (hV : valid s) (hn : 0 ≤ n ∧ n ≤ 3200000) (Q : List AV → Prop) : mc.C f_spec_l4State [⟨L V3, s.1⟩, ⟨L TR, s.2⟩, ⟨I, n⟩] Q = Q [⟨L I, stAt s.1 n⟩] := by
  have h5 := hV.1.2
  have hv := hV.2.2.1
  have hf : (fst0 s.1).length = s.1.length := by simp [fst0]
  refine Mc.Ends.c (mc.ends F_spec_l4State ?_)
  simp (contextual := true) (maxSteps := 1000000) (disch := omega) only [↓Sd, ↓So, ↓Sk, ↓den, ↓denA, Sa, Sb, Sc, Se, O1.d, O2.d, O3.d, cmI, arI, envOf, putN, ↓reduceIte, Nat.reduceLT, Nat.reduceSub, Nat.reduceAdd, Int.reduceAdd, Int.reduceEq, Int.reduceLT, Int.reduceLE, arr_pos, arr_neg, tr_spec_l4State, C_spec_FirstState s hs hV, C_spec_l3Copy (fst0 s.1) (by omega)]
  generalize fst0 s.1 = pre at *
  refine mc.lp_down (Int × List Int) (fun k x => [⟨I, x.1⟩, ⟨I, (k : Int) - 1⟩, ⟨L V3, s.1⟩, ⟨L TR, s.2⟩, ⟨L I, x.2⟩]) (fun k x => k ≤ s.1.length ∧ x.1 = (dg (s.1.drop k) n).1 ∧ x.2 = pre.take k ++ (dg (s.1.drop k) n).2) s.1.length (n, pre) _ rfl ⟨Nat.le_refl _, by simp [dg], by rw [List.drop_length, ← hf, List.take_length]; simp [dg]⟩ ?_ ?_
  · rintro k ⟨m, o⟩ ⟨hk, rfl, rfl⟩
    have hv' : ∀ k, ∀ v ∈ s.1.drop k, vOk v := fun k v hv1 => hv v (List.mem_of_mem_drop hv1)
    have h1 := dg_bd (hv' (k + 1)) hn
    have h2 := dg_bd (hv' k) hn
    have h3 := hv _ (getD_mem (d := (0, 0, 0)) (show k < s.1.length by omega))
    have h4 := wd_ok h3
    have h6 := Int.emod_nonneg (dg (s.1.drop (k + 1)) n).1 (show wd (s.1.getD k (0, 0, 0)) ≠ 0 by omega)
    have h7 := Int.emod_lt_of_pos (dg (s.1.drop (k + 1)) n).1 (show 0 < wd (s.1.getD k (0, 0, 0)) by omega)
    have hlen : (pre.take (k + 1) ++ (dg (s.1.drop (k + 1)) n).2).length = s.1.length := by simp [dg_len, hf]; omega
    have hset : ∀ x : Int, (pre.take (k + 1) ++ (dg (s.1.drop (k + 1)) n).2).set k x = pre.take k ++ x :: (dg (s.1.drop (k + 1)) n).2 := fun x => set_down (by omega)
    have e := dg_next (l := s.1) (n := n) (k := k) (by omega)
    rw [e] at h2 ⊢
    clear e
    generalize dg (s.1.drop (k + 1)) n = D at *
    generalize pre.take (k + 1) ++ D.2 = O at *
    generalize pre.take k = P at *
    simp only [wd] at h2 h4 h6 h7 ⊢
    unfold vOk at h3
    simp (contextual := true) (maxSteps := 1000000) (disch := omega) only [↓Sd, ↓So, ↓Sk, ↓den, ↓denA, Sa, Sb, Sc, Se, O1.d, O2.d, O3.d, cmI, arI, envOf, putN, ↓reduceIte, Nat.reduceLT, Nat.reduceSub, Nat.reduceAdd, Int.reduceAdd, Int.reduceEq, Int.reduceLT, Int.reduceLE, arr_pos, arr_neg, hset]
    exact ⟨(_, _), ⟨rfl, rfl⟩, by omega, rfl, rfl⟩
  · rintro ⟨m, o⟩ ⟨hk, rfl, rfl⟩
    simp (contextual := true) (maxSteps := 1000000) (disch := omega) only [↓Sd, ↓So, ↓Sk, ↓den, ↓denA, Sa, Sb, Sc, Se, O1.d, O2.d, O3.d, cmI, arI, envOf, putN, ↓reduceIte, Nat.reduceLT, Nat.reduceSub, Nat.reduceAdd, Int.reduceAdd, Int.reduceEq, Int.reduceLT, Int.reduceLE, arr_pos, arr_neg, List.take_zero, List.nil_append, List.drop_zero]
    rfl
/-- A table. -/
def tab {α : Type} (f : Nat → α) (n : Nat) : List α := (List.range n).map f
theorem tab_len {α : Type} {f : Nat → α} {n : Nat} : (tab f n).length = n := by simp [tab]
theorem tab_next {α : Type} {f : Nat → α} {n : Nat} : tab f n ++ [f n] = tab f (n + 1) := by simp [tab, List.range_succ]
theorem tab_get {α : Type} {f : Nat → α} {n i : Nat} {d : α} (h : i < n) : (tab f n).getD i d = f i := by simp [tab, h]
theorem tab_set {α : Type} {f : Nat → α} {N i : Nat} {z x : α} (h : i < N) (hx : x = f i) : (tab f i ++ List.replicate (N - i) z).set i x = tab f (i + 1) ++ List.replicate (N - (i + 1)) z := by
  have e := set_pad (l := tab f i) (k := N - (i + 1)) (x := x) (z := z)
  rw [tab_len] at e
  rw [sub_split h, e, hx, tab_next]
theorem tab_setr {α : Type} {f : Nat → α} {N i : Nat} {z x y : α} : (tab f i ++ y :: List.replicate N z).set i x = tab f i ++ x :: List.replicate N z := by
  rw [List.set_append_right _ _ (by rw [tab_len]; exact Nat.le_refl _), tab_len, Nat.sub_self]; rfl
theorem tab_getr {α : Type} {f : Nat → α} {i : Nat} {d y : α} {r : List α} : (tab f i ++ y :: r).getD i d = y := by
  rw [List.getD_eq_getElem?_getD, List.getElem?_append_right (by rw [tab_len]; exact Nat.le_refl _), tab_len, Nat.sub_self]; rfl
/-- How many states, as a count. -/
def szn (l : List Vr) : Nat := (sz l).toNat
theorem szn_eq {s : Sy} (h : valid s) : ((szn s.1 : Nat) : Int) = sz s.1 ∧ 1 ≤ szn s.1 ∧ szn s.1 ≤ 400 := by
  have h1 := sz_pos s.1 h.2.2.1 s.1.length (Nat.le_refl _)
  rw [List.take_length] at h1
  have h2 := h.2.2.2.2
  unfold szn
  omega
/-- The state with a number. -/
def stN (s : Sy) (n : Nat) : List Int := stAt s.1 n
theorem stN_in {s : Sy} (h : valid s) {n : Nat} (hn : n < szn s.1) : inR s.1 (stN s n) := stAt_in h.2.2.1 (by have := szn_eq h; omega)
def stepR (s : Sy) (n : Nat) : List Int := (nxt s (stN s n)).map (num s.1)
/-- The numbers behind each state. -/
def steps (s : Sy) : List (List Int) := tab (stepR s) (szn s.1)
theorem nxt_len {s : Sy} {st : List Int} (h : valid s) : (nxt s st).length ≤ 8 := Nat.le_trans nxtN_len h.2.1
theorem nxt_in {s : Sy} {st : List Int} : ∀ x ∈ nxt s st, inR s.1 x := nxtN_in
/-- A row mapped place by place. -/
theorem map_next {α β : Type} {l : List α} {g : α → β} {j : Nat} {d : α} (h : j < l.length) : (l.take j).map g ++ [g (l.getD j d)] = (l.take (j + 1)).map g := by
  rw [← take_next (d := d) h]; simp
theorem C_spec_l4Steps (s : Sy) (hs : FewSy s) (h : valid s) (Q : List AV → Prop) : mc.C f_spec_l4Steps [⟨L V3, s.1⟩, ⟨L TR, s.2⟩] Q = Q [⟨L (L I), steps s⟩] := by
  have hz := szn_eq h
  have h5 := h.1.2
  have hv := h.2.2.1
  refine Mc.Ends.c (mc.ends F_spec_l4Steps ?_)
  simp (contextual := true) (maxSteps := 1000000) (disch := omega) only [↓Sd, ↓So, ↓Sk, ↓den, ↓denA, Sa, Sb, Sc, Se, O1.d, O2.d, O3.d, cmI, arI, envOf, putN, ↓reduceIte, Nat.reduceLT, Nat.reduceSub, Nat.reduceAdd, Int.reduceAdd, Int.reduceEq, Int.reduceLT, Int.reduceLE, arr_pos, arr_neg, tr_spec_l4Steps]
  refine mc.lp_for (List (List Int)) (fun i o => [⟨I, (i : Int)⟩, ⟨L V3, s.1⟩, ⟨L TR, s.2⟩, ⟨L (L I), o⟩]) (fun i o => o = tab (stepR s) i) (szn s.1) 0 [] _ rfl (Nat.zero_le _) rfl ?_ ?_
  · rintro i o hi rfl
    have hin := stN_in h hi
    have hst : stAt s.1 (i : Int) = stN s i := rfl
    have hl := @nxt_len s (stN s i) h
    have htl : (tab (stepR s) i).length = i := tab_len
    simp (contextual := true) (maxSteps := 1000000) (disch := omega) only [↓Sd, ↓So, ↓Sk, ↓den, ↓denA, Sa, Sb, Sc, Se, O1.d, O2.d, O3.d, cmI, arI, envOf, putN, ↓reduceIte, Nat.reduceLT, Nat.reduceSub, Nat.reduceAdd, Int.reduceAdd, Int.reduceEq, Int.reduceLT, Int.reduceLE, arr_pos, arr_neg, C_spec_SizeOf s hs, h, C_spec_l4State s i hs h (by omega), hst, C_spec_l2Next s (stN s i) h hin]
    refine mc.lp_for (List Int) (fun j o => [⟨I, (i : Int)⟩, ⟨I, (j : Int)⟩, ⟨L V3, s.1⟩, ⟨L TR, s.2⟩, ⟨L (L I), tab (stepR s) i⟩, ⟨L (L I), nxt s (stN s i)⟩, ⟨L I, o⟩]) (fun j o => o = ((nxt s (stN s i)).take j).map (num s.1)) (nxt s (stN s i)).length 0 [] _ rfl (Nat.zero_le _) rfl ?_ ?_
    · rintro j o hj rfl
      have hx := nxt_in _ (getD_mem (d := []) hj)
      have hol : (((nxt s (stN s i)).take j).map (num s.1)).length ≤ 8 := by simp; omega
      simp (contextual := true) (maxSteps := 1000000) (disch := omega) only [↓Sd, ↓So, ↓Sk, ↓den, ↓denA, Sa, Sb, Sc, Se, O1.d, O2.d, O3.d, cmI, arI, envOf, putN, ↓reduceIte, Nat.reduceLT, Nat.reduceSub, Nat.reduceAdd, Int.reduceAdd, Int.reduceEq, Int.reduceLT, Int.reduceLE, arr_pos, arr_neg, C_spec_l4Number s _ h5 hv hx]
      exact map_next hj
    · rintro o rfl
      rw [List.take_length]
      simp (contextual := true) (maxSteps := 1000000) (disch := omega) only [↓Sd, ↓So, ↓Sk, ↓den, ↓denA, Sa, Sb, Sc, Se, O1.d, O2.d, O3.d, cmI, arI, envOf, putN, ↓reduceIte, Nat.reduceLT, Nat.reduceSub, Nat.reduceAdd, Int.reduceAdd, Int.reduceEq, Int.reduceLT, Int.reduceLE, arr_pos, arr_neg, ]
      exact tab_next
  · rintro o rfl
    simp (contextual := true) (maxSteps := 1000000) (disch := omega) only [↓Sd, ↓So, ↓Sk, ↓den, ↓denA, Sa, Sb, Sc, Se, O1.d, O2.d, O3.d, cmI, arI, envOf, putN, ↓reduceIte, Nat.reduceLT, Nat.reduceSub, Nat.reduceAdd, Int.reduceAdd, Int.reduceEq, Int.reduceLT, Int.reduceLE, arr_pos, arr_neg, C_spec_SizeOf s hs, h]
    rfl
theorem C_impl_nexts (s : Sy) (h : valid s) (Q : List AV → Prop) : mc.C f_impl_nexts [⟨L V3, s.1⟩, ⟨L TR, s.2⟩] Q = Q [⟨L (L I), steps s⟩] := by
  have hz := szn_eq h
  have h5 := h.1.2
  have hv := h.2.2.1
  refine Mc.Ends.c (mc.ends F_impl_nexts ?_)
  simp (contextual := true) (maxSteps := 1000000) (disch := omega) only [↓Sd, ↓So, ↓Sk, ↓den, ↓denA, Sa, Sb, Sc, Se, O1.d, O2.d, O3.d, cmI, arI, envOf, putN, ↓reduceIte, Nat.reduceLT, Nat.reduceSub, Nat.reduceAdd, Int.reduceAdd, Int.reduceEq, Int.reduceLT, Int.reduceLE, arr_pos, arr_neg, tr_impl_nexts, C_impl_size s.1 h5 hv, ← hz.1, List.length_replicate]
  refine mc.lp_for (List (List Int)) (fun i o => [⟨I, (szn s.1 : Int)⟩, ⟨I, (i : Int)⟩, ⟨L V3, s.1⟩, ⟨L TR, s.2⟩, ⟨L (L I), o⟩]) (fun i o => o = tab (stepR s) i ++ List.replicate (szn s.1 - i) []) (szn s.1) 0 (List.replicate (szn s.1) []) _ rfl (Nat.zero_le _) rfl ?_ ?_
  · rintro i o hi rfl
    have hin := stN_in h hi
    have hst : stAt s.1 (i : Int) = stN s i := rfl
    have hl := @nxt_len s (stN s i) h
    simp (contextual := true) (maxSteps := 1000000) (disch := omega) only [↓Sd, ↓So, ↓Sk, ↓den, ↓denA, Sa, Sb, Sc, Se, O1.d, O2.d, O3.d, cmI, arI, envOf, putN, ↓reduceIte, Nat.reduceLT, Nat.reduceSub, Nat.reduceAdd, Int.reduceAdd, Int.reduceEq, Int.reduceLT, Int.reduceLE, arr_pos, arr_neg, C_impl_stateAt s i h5 hv (by omega), hst, C_impl_nextStates s (stN s i) h hin]
    rw [sub_split hi, List.replicate_succ]
    refine mc.lp_for (List Int) (fun j o => [⟨I, (i : Int)⟩, ⟨I, (szn s.1 : Int)⟩, ⟨I, (i : Int)⟩, ⟨I, ((nxt s (stN s i)).length : Int)⟩, ⟨I, (j : Int)⟩, ⟨L V3, s.1⟩, ⟨L TR, s.2⟩, ⟨L (L I), tab (stepR s) i ++ o :: List.replicate (szn s.1 - (i + 1)) []⟩, ⟨L (L I), nxt s (stN s i)⟩]) (fun j o => o = ((nxt s (stN s i)).take j).map (num s.1)) (nxt s (stN s i)).length 0 [] _ rfl (Nat.zero_le _) rfl ?_ ?_
    · rintro j o hj rfl
      have hx := nxt_in _ (getD_mem (d := []) hj)
      have hol : (((nxt s (stN s i)).take j).map (num s.1)).length ≤ 8 := by simp; omega
      have hlen : (tab (stepR s) i ++ ((nxt s (stN s i)).take j).map (num s.1) :: List.replicate (szn s.1 - (i + 1)) []).length = szn s.1 := by simp [tab_len]; omega
      simp (contextual := true) (maxSteps := 1000000) (disch := omega) only [↓Sd, ↓So, ↓Sk, ↓den, ↓denA, Sa, Sb, Sc, Se, O1.d, O2.d, O3.d, cmI, arI, envOf, putN, ↓reduceIte, Nat.reduceLT, Nat.reduceSub, Nat.reduceAdd, Int.reduceAdd, Int.reduceEq, Int.reduceLT, Int.reduceLE, arr_pos, arr_neg, C_impl_number s _ h5 hv hx, tab_getr, tab_setr, tab_len, List.length_replicate]
      exact ⟨_, rfl, map_next hj⟩
    · rintro o rfl
      rw [List.take_length]
      simp (contextual := true) (maxSteps := 1000000) (disch := omega) only [↓Sd, ↓So, ↓Sk, ↓den, ↓denA, Sa, Sb, Sc, Se, O1.d, O2.d, O3.d, cmI, arI, envOf, putN, ↓reduceIte, Nat.reduceLT, Nat.reduceSub, Nat.reduceAdd, Int.reduceAdd, Int.reduceEq, Int.reduceLT, Int.reduceLE, arr_pos, arr_neg, ]
      rw [← tab_next, List.append_assoc]; rfl
  · rintro o rfl
    simp (contextual := true) (maxSteps := 1000000) (disch := omega) only [↓Sd, ↓So, ↓Sk, ↓den, ↓denA, Sa, Sb, Sc, Se, O1.d, O2.d, O3.d, cmI, arI, envOf, putN, ↓reduceIte, Nat.reduceLT, Nat.reduceSub, Nat.reduceAdd, Int.reduceAdd, Int.reduceEq, Int.reduceLT, Int.reduceLE, arr_pos, arr_neg, ]
    simp [steps]
/-- The places up to n that hold. -/
def upTo (p : Nat → Bool) : Nat → List Int
  | 0 => []
  | n + 1 => if p n = true then upTo p n ++ [(n : Int)] else upTo p n
theorem upTo_s {p : Nat → Bool} {n : Nat} (h : p n = true) : upTo p (n + 1) = upTo p n ++ [(n : Int)] := by rw [upTo, if_pos h]
theorem upTo_n {p : Nat → Bool} {n : Nat} (h : ¬ p n = true) : upTo p (n + 1) = upTo p n := by rw [upTo, if_neg h]
theorem upTo_len {p : Nat → Bool} : ∀ {n : Nat}, (upTo p n).length ≤ n
  | 0 => Nat.le_refl _
  | n + 1 => by
    have := @upTo_len p n
    simp only [upTo]
    split
    · simp; omega
    · omega
theorem upTo_mem {p : Nat → Bool} {x : Int} : ∀ {n : Nat}, x ∈ upTo p n ↔ ∃ k, k < n ∧ x = (k : Int) ∧ p k = true
  | 0 => by simp [upTo]
  | n + 1 => by
    have ih := @upTo_mem p x n
    simp only [upTo]
    constructor
    · intro h
      split at h
      · rename_i hp
        rcases List.mem_append.1 h with h | h
        · obtain ⟨k, h1, h2⟩ := ih.1 h; exact ⟨k, by omega, h2⟩
        · exact ⟨n, by omega, by simpa using h, hp⟩
      · obtain ⟨k, h1, h2⟩ := ih.1 h; exact ⟨k, by omega, h2⟩
    · rintro ⟨k, h1, h2, h3⟩
      rcases Nat.lt_succ_iff_lt_or_eq.1 h1 with h4 | rfl
      · have h5 := ih.2 ⟨k, h4, h2, h3⟩
        split
        · exact List.mem_append_left _ h5
        · exact h5
      · rw [if_pos h3, h2]; simp
theorem upTo_congr {p q : Nat → Bool} : ∀ {n : Nat}, (∀ k, k < n → p k = q k) → upTo p n = upTo q n
  | 0, _ => rfl
  | n + 1, h => by simp only [upTo]; rw [h n (by omega), upTo_congr fun k hk => h k (by omega)]
def bn (n : Int) : Int := if n ≤ 1 then 0 else if n ≤ 2 then 1 else if n ≤ 4 then 2 else if n ≤ 8 then 3 else if n ≤ 16 then 4 else 5
theorem bn_bd (n : Int) : 0 ≤ bn n ∧ bn n ≤ 5 := by unfold bn; grind
theorem shl0 : shI true .i64 1 0 = 1 := by decide
theorem shl1 : shI true .i64 1 1 = 2 := by decide
theorem shl2 : shI true .i64 1 2 = 4 := by decide
theorem shl3 : shI true .i64 1 3 = 8 := by decide
theorem shl4 : shI true .i64 1 4 = 16 := by decide
theorem shl5 : shI true .i64 1 5 = 32 := by decide
theorem C_impl_bitsFor (n : Int) (h : 1 ≤ n ∧ n ≤ 20) (Q : List AV → Prop) : mc.C f_impl_bitsFor [⟨I, n⟩] Q = Q [⟨I, bn n⟩] := by
  refine Mc.Ends.c (mc.ends F_impl_bitsFor ?_)
  generalize hK : bn n = K
  unfold bn at hK
  simp (contextual := true) (maxSteps := 1000000) (disch := omega) only [↓Sd, ↓So, ↓Sk, ↓den, ↓denA, Sa, Sb, Sc, Se, O1.d, O2.d, O3.d, cmI, arI, envOf, putN, ↓reduceIte, Nat.reduceLT, Nat.reduceSub, Nat.reduceAdd, Int.reduceAdd, Int.reduceEq, Int.reduceLT, Int.reduceLE, arr_pos, arr_neg, tr_impl_bitsFor]
  refine mc.lp_step ?_
  simp (contextual := true) (maxSteps := 1000000) (disch := omega) only [↓Sd, ↓So, ↓Sk, ↓den, ↓denA, Sa, Sb, Sc, Se, O1.d, O2.d, O3.d, cmI, arI, envOf, putN, ↓reduceIte, Nat.reduceLT, Nat.reduceSub, Nat.reduceAdd, Int.reduceAdd, Int.reduceEq, Int.reduceLT, Int.reduceLE, arr_pos, arr_neg, shl0, shl1, shl2, shl3, shl4, shl5]
  refine ⟨fun h1 => ?_, fun h1 => by grind⟩
  refine mc.lp_step ?_
  simp (contextual := true) (maxSteps := 1000000) (disch := omega) only [↓Sd, ↓So, ↓Sk, ↓den, ↓denA, Sa, Sb, Sc, Se, O1.d, O2.d, O3.d, cmI, arI, envOf, putN, ↓reduceIte, Nat.reduceLT, Nat.reduceSub, Nat.reduceAdd, Int.reduceAdd, Int.reduceEq, Int.reduceLT, Int.reduceLE, arr_pos, arr_neg, shl0, shl1, shl2, shl3, shl4, shl5]
  refine ⟨fun h1 => ?_, fun h1 => by grind⟩
  refine mc.lp_step ?_
  simp (contextual := true) (maxSteps := 1000000) (disch := omega) only [↓Sd, ↓So, ↓Sk, ↓den, ↓denA, Sa, Sb, Sc, Se, O1.d, O2.d, O3.d, cmI, arI, envOf, putN, ↓reduceIte, Nat.reduceLT, Nat.reduceSub, Nat.reduceAdd, Int.reduceAdd, Int.reduceEq, Int.reduceLT, Int.reduceLE, arr_pos, arr_neg, shl0, shl1, shl2, shl3, shl4, shl5]
  refine ⟨fun h1 => ?_, fun h1 => by grind⟩
  refine mc.lp_step ?_
  simp (contextual := true) (maxSteps := 1000000) (disch := omega) only [↓Sd, ↓So, ↓Sk, ↓den, ↓denA, Sa, Sb, Sc, Se, O1.d, O2.d, O3.d, cmI, arI, envOf, putN, ↓reduceIte, Nat.reduceLT, Nat.reduceSub, Nat.reduceAdd, Int.reduceAdd, Int.reduceEq, Int.reduceLT, Int.reduceLE, arr_pos, arr_neg, shl0, shl1, shl2, shl3, shl4, shl5]
  refine ⟨fun h1 => ?_, fun h1 => by grind⟩
  refine mc.lp_step ?_
  simp (contextual := true) (maxSteps := 1000000) (disch := omega) only [↓Sd, ↓So, ↓Sk, ↓den, ↓denA, Sa, Sb, Sc, Se, O1.d, O2.d, O3.d, cmI, arI, envOf, putN, ↓reduceIte, Nat.reduceLT, Nat.reduceSub, Nat.reduceAdd, Int.reduceAdd, Int.reduceEq, Int.reduceLT, Int.reduceLE, arr_pos, arr_neg, shl0, shl1, shl2, shl3, shl4, shl5]
  refine ⟨fun h1 => ?_, fun h1 => by grind⟩
  refine mc.lp_step ?_
  simp (contextual := true) (maxSteps := 1000000) (disch := omega) only [↓Sd, ↓So, ↓Sk, ↓den, ↓denA, Sa, Sb, Sc, Se, O1.d, O2.d, O3.d, cmI, arI, envOf, putN, ↓reduceIte, Nat.reduceLT, Nat.reduceSub, Nat.reduceAdd, Int.reduceAdd, Int.reduceEq, Int.reduceLT, Int.reduceLE, arr_pos, arr_neg, shl0, shl1, shl2, shl3, shl4, shl5]
  grind
theorem C_spec_l6Many (n : Int) (h : 1 ≤ n ∧ n ≤ 20) (Q : List AV → Prop) : mc.C f_spec_l6Many [⟨I, n⟩] Q = Q [⟨I, bn n⟩] := by
  refine Mc.Ends.c (mc.ends F_spec_l6Many ?_)
  generalize hK : bn n = K
  unfold bn at hK
  simp (contextual := true) (maxSteps := 1000000) (disch := omega) only [↓Sd, ↓So, ↓Sk, ↓den, ↓denA, Sa, Sb, Sc, Se, O1.d, O2.d, O3.d, cmI, arI, envOf, putN, ↓reduceIte, Nat.reduceLT, Nat.reduceSub, Nat.reduceAdd, Int.reduceAdd, Int.reduceEq, Int.reduceLT, Int.reduceLE, arr_pos, arr_neg, tr_spec_l6Many]
  refine mc.lp_step ?_
  simp (contextual := true) (maxSteps := 1000000) (disch := omega) only [↓Sd, ↓So, ↓Sk, ↓den, ↓denA, Sa, Sb, Sc, Se, O1.d, O2.d, O3.d, cmI, arI, envOf, putN, ↓reduceIte, Nat.reduceLT, Nat.reduceSub, Nat.reduceAdd, Int.reduceAdd, Int.reduceEq, Int.reduceLT, Int.reduceLE, arr_pos, arr_neg, Int.reduceMul]
  refine ⟨fun h1 => ?_, fun h1 => by grind⟩
  refine mc.lp_step ?_
  simp (contextual := true) (maxSteps := 1000000) (disch := omega) only [↓Sd, ↓So, ↓Sk, ↓den, ↓denA, Sa, Sb, Sc, Se, O1.d, O2.d, O3.d, cmI, arI, envOf, putN, ↓reduceIte, Nat.reduceLT, Nat.reduceSub, Nat.reduceAdd, Int.reduceAdd, Int.reduceEq, Int.reduceLT, Int.reduceLE, arr_pos, arr_neg, Int.reduceMul]
  refine ⟨fun h1 => ?_, fun h1 => by grind⟩
  refine mc.lp_step ?_
  simp (contextual := true) (maxSteps := 1000000) (disch := omega) only [↓Sd, ↓So, ↓Sk, ↓den, ↓denA, Sa, Sb, Sc, Se, O1.d, O2.d, O3.d, cmI, arI, envOf, putN, ↓reduceIte, Nat.reduceLT, Nat.reduceSub, Nat.reduceAdd, Int.reduceAdd, Int.reduceEq, Int.reduceLT, Int.reduceLE, arr_pos, arr_neg, Int.reduceMul]
  refine ⟨fun h1 => ?_, fun h1 => by grind⟩
  refine mc.lp_step ?_
  simp (contextual := true) (maxSteps := 1000000) (disch := omega) only [↓Sd, ↓So, ↓Sk, ↓den, ↓denA, Sa, Sb, Sc, Se, O1.d, O2.d, O3.d, cmI, arI, envOf, putN, ↓reduceIte, Nat.reduceLT, Nat.reduceSub, Nat.reduceAdd, Int.reduceAdd, Int.reduceEq, Int.reduceLT, Int.reduceLE, arr_pos, arr_neg, Int.reduceMul]
  refine ⟨fun h1 => ?_, fun h1 => by grind⟩
  refine mc.lp_step ?_
  simp (contextual := true) (maxSteps := 1000000) (disch := omega) only [↓Sd, ↓So, ↓Sk, ↓den, ↓denA, Sa, Sb, Sc, Se, O1.d, O2.d, O3.d, cmI, arI, envOf, putN, ↓reduceIte, Nat.reduceLT, Nat.reduceSub, Nat.reduceAdd, Int.reduceAdd, Int.reduceEq, Int.reduceLT, Int.reduceLE, arr_pos, arr_neg, Int.reduceMul]
  refine ⟨fun h1 => ?_, fun h1 => by grind⟩
  refine mc.lp_step ?_
  simp (contextual := true) (maxSteps := 1000000) (disch := omega) only [↓Sd, ↓So, ↓Sk, ↓den, ↓denA, Sa, Sb, Sc, Se, O1.d, O2.d, O3.d, cmI, arI, envOf, putN, ↓reduceIte, Nat.reduceLT, Nat.reduceSub, Nat.reduceAdd, Int.reduceAdd, Int.reduceEq, Int.reduceLT, Int.reduceLE, arr_pos, arr_neg, Int.reduceMul]
  grind
def sumN (f : Nat → Int) : Nat → Int
  | 0 => 0
  | k + 1 => sumN f k + f k
/-- How many bits the states have. -/
def bw (l : List Vr) (i : Nat) : Int := bn (wd (l.getD i (0, 0, 0)))
def bc (l : List Vr) : Int := sumN (bw l) l.length
theorem sumN_bd {f : Nat → Int} (h : ∀ i, 0 ≤ f i ∧ f i ≤ 5) : ∀ n : Nat, 0 ≤ sumN f n ∧ sumN f n ≤ 5 * (n : Int)
  | 0 => by simp [sumN]
  | n + 1 => by have h1 := sumN_bd h n; have h2 := h n; simp only [sumN]; omega
def nar (s : Sy) : Prop := valid s ∧ 2 * bc s.1 ≤ 12
instance (s : Sy) : Decidable (nar s) := by unfold nar; infer_instance
theorem C_impl_bitsOf (s : Sy) (h : valid s) (Q : List AV → Prop) : mc.C f_impl_bitsOf [⟨L V3, s.1⟩, ⟨L TR, s.2⟩] Q = Q [⟨L I, tab (bw s.1) s.1.length⟩] := by
  have h5 := h.1.2
  have hv := h.2.2.1
  refine Mc.Ends.c (mc.ends F_impl_bitsOf ?_)
  simp (contextual := true) (maxSteps := 1000000) (disch := omega) only [↓Sd, ↓So, ↓Sk, ↓den, ↓denA, Sa, Sb, Sc, Se, O1.d, O2.d, O3.d, cmI, arI, envOf, putN, ↓reduceIte, Nat.reduceLT, Nat.reduceSub, Nat.reduceAdd, Int.reduceAdd, Int.reduceEq, Int.reduceLT, Int.reduceLE, arr_pos, arr_neg, tr_impl_bitsOf]
  refine mc.lp_for (List Int) (fun i o => [⟨L V3, s.1⟩, ⟨I, (s.1.length : Int)⟩, ⟨I, (i : Int)⟩, ⟨L I, o⟩]) (fun i o => o = tab (bw s.1) i) s.1.length 0 [] _ rfl (Nat.zero_le _) rfl ?_ ?_
  · rintro i o hi rfl
    have h3 := hv _ (getD_mem (d := (0, 0, 0)) hi)
    have h4 := wd_ok h3
    have e : (s.1.getD i (0, 0, 0)).2.1 - (s.1.getD i (0, 0, 0)).1 + 1 = wd (s.1.getD i (0, 0, 0)) := rfl
    unfold vOk at h3
    simp (contextual := true) (maxSteps := 1000000) (disch := omega) only [↓Sd, ↓So, ↓Sk, ↓den, ↓denA, Sa, Sb, Sc, Se, O1.d, O2.d, O3.d, cmI, arI, envOf, putN, ↓reduceIte, Nat.reduceLT, Nat.reduceSub, Nat.reduceAdd, Int.reduceAdd, Int.reduceEq, Int.reduceLT, Int.reduceLE, arr_pos, arr_neg, e, C_impl_bitsFor _ h4, tab_len]
    exact tab_next
  · rintro o rfl
    simp (contextual := true) (maxSteps := 1000000) (disch := omega) only [↓Sd, ↓So, ↓Sk, ↓den, ↓denA, Sa, Sb, Sc, Se, O1.d, O2.d, O3.d, cmI, arI, envOf, putN, ↓reduceIte, Nat.reduceLT, Nat.reduceSub, Nat.reduceAdd, Int.reduceAdd, Int.reduceEq, Int.reduceLT, Int.reduceLE, arr_pos, arr_neg, C_impl_clone_int (tab (bw s.1) s.1.length) (by rw [tab_len]; omega)]
theorem C_impl_bitCount (s : Sy) (h : valid s) (Q : List AV → Prop) : mc.C f_impl_bitCount [⟨L V3, s.1⟩, ⟨L TR, s.2⟩] Q = Q [⟨I, bc s.1⟩] := by
  have h5 := h.1.2
  refine Mc.Ends.c (mc.ends F_impl_bitCount ?_)
  simp (contextual := true) (maxSteps := 1000000) (disch := omega) only [↓Sd, ↓So, ↓Sk, ↓den, ↓denA, Sa, Sb, Sc, Se, O1.d, O2.d, O3.d, cmI, arI, envOf, putN, ↓reduceIte, Nat.reduceLT, Nat.reduceSub, Nat.reduceAdd, Int.reduceAdd, Int.reduceEq, Int.reduceLT, Int.reduceLE, arr_pos, arr_neg, tr_impl_bitCount, C_impl_bitsOf s h, tab_len]
  refine mc.lp_for Int (fun i n => [⟨I, n⟩, ⟨I, (s.1.length : Int)⟩, ⟨I, (i : Int)⟩, ⟨L I, tab (bw s.1) s.1.length⟩]) (fun i n => n = sumN (bw s.1) i) s.1.length 0 0 _ rfl (Nat.zero_le _) rfl ?_ ?_
  · rintro i n hi rfl
    have h1 := sumN_bd (f := bw s.1) (fun i => bn_bd _) i
    have h2 : 0 ≤ bw s.1 i ∧ bw s.1 i ≤ 5 := bn_bd _
    simp (contextual := true) (maxSteps := 1000000) (disch := omega) only [↓Sd, ↓So, ↓Sk, ↓den, ↓denA, Sa, Sb, Sc, Se, O1.d, O2.d, O3.d, cmI, arI, envOf, putN, ↓reduceIte, Nat.reduceLT, Nat.reduceSub, Nat.reduceAdd, Int.reduceAdd, Int.reduceEq, Int.reduceLT, Int.reduceLE, arr_pos, arr_neg, tab_len, tab_get hi]
    rfl
  · rintro n rfl
    simp (contextual := true) (maxSteps := 1000000) (disch := omega) only [↓Sd, ↓So, ↓Sk, ↓den, ↓denA, Sa, Sb, Sc, Se, O1.d, O2.d, O3.d, cmI, arI, envOf, putN, ↓reduceIte, Nat.reduceLT, Nat.reduceSub, Nat.reduceAdd, Int.reduceAdd, Int.reduceEq, Int.reduceLT, Int.reduceLE, arr_pos, arr_neg, ]
    rfl
theorem C_impl_halfNarrow (s : Sy) (hs : FewSy s) (Q : List AV → Prop) : mc.C f_impl_halfNarrow [⟨L V3, s.1⟩, ⟨L TR, s.2⟩] Q = Q [⟨B, decide (nar s)⟩] := by
  refine Mc.Ends.c (mc.ends F_impl_halfNarrow ?_)
  simp (contextual := true) (maxSteps := 1000000) (disch := omega) only [↓Sd, ↓So, ↓Sk, ↓den, ↓denA, Sa, Sb, Sc, Se, O1.d, O2.d, O3.d, cmI, arI, envOf, putN, ↓reduceIte, Nat.reduceLT, Nat.reduceSub, Nat.reduceAdd, Int.reduceAdd, Int.reduceEq, Int.reduceLT, Int.reduceLE, arr_pos, arr_neg, tr_impl_halfNarrow, C_impl_SystemValid s hs]
  refine ⟨fun h => ?_, fun h => ?_⟩
  · have h1 := sumN_bd (f := bw s.1) (fun i => bn_bd _) s.1.length
    have h5 := h.1.2
    have h2 : 0 ≤ bc s.1 ∧ bc s.1 ≤ 25 := by unfold bc; omega
    simp (contextual := true) (maxSteps := 1000000) (disch := omega) only [↓Sd, ↓So, ↓Sk, ↓den, ↓denA, Sa, Sb, Sc, Se, O1.d, O2.d, O3.d, cmI, arI, envOf, putN, ↓reduceIte, Nat.reduceLT, Nat.reduceSub, Nat.reduceAdd, Int.reduceAdd, Int.reduceEq, Int.reduceLT, Int.reduceLE, arr_pos, arr_neg, C_impl_bitCount s h]
    exact decide_eq_decide.2 ⟨fun g => ⟨h, g⟩, fun g => g.2⟩
  · exact (decide_eq_false fun g => h g.1).symm
theorem C_spec_l6Widths (s : Sy) (h : valid s) (Q : List AV → Prop) : mc.C f_spec_l6Widths [⟨L V3, s.1⟩, ⟨L TR, s.2⟩] Q = Q [⟨L I, tab (bw s.1) s.1.length⟩] := by
  have h5 := h.1.2
  have hv := h.2.2.1
  refine Mc.Ends.c (mc.ends F_spec_l6Widths ?_)
  simp (contextual := true) (maxSteps := 1000000) (disch := omega) only [↓Sd, ↓So, ↓Sk, ↓den, ↓denA, Sa, Sb, Sc, Se, O1.d, O2.d, O3.d, cmI, arI, envOf, putN, ↓reduceIte, Nat.reduceLT, Nat.reduceSub, Nat.reduceAdd, Int.reduceAdd, Int.reduceEq, Int.reduceLT, Int.reduceLE, arr_pos, arr_neg, tr_spec_l6Widths]
  refine mc.lp_for (List Int) (fun i o => [⟨I, (i : Int)⟩, ⟨L V3, s.1⟩, ⟨L TR, s.2⟩, ⟨L I, o⟩]) (fun i o => o = tab (bw s.1) i) s.1.length 0 [] _ rfl (Nat.zero_le _) rfl ?_ ?_
  · rintro i o hi rfl
    have h3 := hv _ (getD_mem (d := (0, 0, 0)) hi)
    have h4 := wd_ok h3
    have e : (s.1.getD i (0, 0, 0)).2.1 - (s.1.getD i (0, 0, 0)).1 + 1 = wd (s.1.getD i (0, 0, 0)) := rfl
    unfold vOk at h3
    simp (contextual := true) (maxSteps := 1000000) (disch := omega) only [↓Sd, ↓So, ↓Sk, ↓den, ↓denA, Sa, Sb, Sc, Se, O1.d, O2.d, O3.d, cmI, arI, envOf, putN, ↓reduceIte, Nat.reduceLT, Nat.reduceSub, Nat.reduceAdd, Int.reduceAdd, Int.reduceEq, Int.reduceLT, Int.reduceLE, arr_pos, arr_neg, e, C_spec_l6Many _ h4, tab_len]
    exact tab_next
  · rintro o rfl
    simp (contextual := true) (maxSteps := 1000000) (disch := omega) only [↓Sd, ↓So, ↓Sk, ↓den, ↓denA, Sa, Sb, Sc, Se, O1.d, O2.d, O3.d, cmI, arI, envOf, putN, ↓reduceIte, Nat.reduceLT, Nat.reduceSub, Nat.reduceAdd, Int.reduceAdd, Int.reduceEq, Int.reduceLT, Int.reduceLE, arr_pos, arr_neg, ]
theorem C_spec_l6Sum (f : Nat → Int) (k : Nat) (hk : k ≤ 5) (hf : ∀ i, 0 ≤ f i ∧ f i ≤ 5) (Q : List AV → Prop) : mc.C f_spec_l6Sum [⟨L I, tab f k⟩] Q = Q [⟨I, sumN f k⟩] := by
  refine Mc.Ends.c (mc.ends F_spec_l6Sum ?_)
  simp (contextual := true) (maxSteps := 1000000) (disch := omega) only [↓Sd, ↓So, ↓Sk, ↓den, ↓denA, Sa, Sb, Sc, Se, O1.d, O2.d, O3.d, cmI, arI, envOf, putN, ↓reduceIte, Nat.reduceLT, Nat.reduceSub, Nat.reduceAdd, Int.reduceAdd, Int.reduceEq, Int.reduceLT, Int.reduceLE, arr_pos, arr_neg, tr_spec_l6Sum]
  refine mc.lp_for Int (fun i n => [⟨L I, tab f k⟩, ⟨I, n⟩, ⟨I, (i : Int)⟩]) (fun i n => n = sumN f i) k 0 0 _ rfl (Nat.zero_le _) rfl ?_ ?_
  · rintro i n hi rfl
    have h1 := sumN_bd hf i
    have h2 := hf i
    simp (contextual := true) (maxSteps := 1000000) (disch := omega) only [↓Sd, ↓So, ↓Sk, ↓den, ↓denA, Sa, Sb, Sc, Se, O1.d, O2.d, O3.d, cmI, arI, envOf, putN, ↓reduceIte, Nat.reduceLT, Nat.reduceSub, Nat.reduceAdd, Int.reduceAdd, Int.reduceEq, Int.reduceLT, Int.reduceLE, arr_pos, arr_neg, tab_len, tab_get hi]
    rfl
  · rintro n rfl
    simp (contextual := true) (maxSteps := 1000000) (disch := omega) only [↓Sd, ↓So, ↓Sk, ↓den, ↓denA, Sa, Sb, Sc, Se, O1.d, O2.d, O3.d, cmI, arI, envOf, putN, ↓reduceIte, Nat.reduceLT, Nat.reduceSub, Nat.reduceAdd, Int.reduceAdd, Int.reduceEq, Int.reduceLT, Int.reduceLE, arr_pos, arr_neg, tab_len]
theorem C_spec_l10Wide (s : Sy) (hs : FewSy s) (Q : List AV → Prop) : mc.C f_spec_l10Wide [⟨L V3, s.1⟩, ⟨L TR, s.2⟩] Q = Q [⟨I, if nar s then bc s.1 else -1⟩] := by
  refine Mc.Ends.c (mc.ends F_spec_l10Wide ?_)
  simp (contextual := true) (maxSteps := 1000000) (disch := omega) only [↓Sd, ↓So, ↓Sk, ↓den, ↓denA, Sa, Sb, Sc, Se, O1.d, O2.d, O3.d, cmI, arI, envOf, putN, ↓reduceIte, Nat.reduceLT, Nat.reduceSub, Nat.reduceAdd, Int.reduceAdd, Int.reduceEq, Int.reduceLT, Int.reduceLE, arr_pos, arr_neg, tr_spec_l10Wide, C_spec_SystemValid s hs]
  refine ⟨fun h => ?_, fun h => ?_⟩
  · rw [if_neg fun g => h g.1]
  · have h1 := sumN_bd (f := bw s.1) (fun i => bn_bd _) s.1.length
    have h5 := h.1.2
    have h2 : 0 ≤ bc s.1 ∧ bc s.1 ≤ 25 := by unfold bc; omega
    have e : sumN (bw s.1) s.1.length = bc s.1 := rfl
    simp (contextual := true) (maxSteps := 1000000) (disch := omega) only [↓Sd, ↓So, ↓Sk, ↓den, ↓denA, Sa, Sb, Sc, Se, O1.d, O2.d, O3.d, cmI, arI, envOf, putN, ↓reduceIte, Nat.reduceLT, Nat.reduceSub, Nat.reduceAdd, Int.reduceAdd, Int.reduceEq, Int.reduceLT, Int.reduceLE, arr_pos, arr_neg, C_spec_l6Widths s h, C_spec_l6Sum (bw s.1) s.1.length h5 (fun i => bn_bd _), e]
    exact ⟨fun g => by rw [if_neg fun h3 => by have := h3.2; omega], fun g => by rw [if_pos ⟨h, by omega⟩]⟩
noncomputable def dB (p : Prop) : Bool := @decide p (Classical.propDecidable p)
theorem dB_iff {p : Prop} : dB p = true ↔ p := @decide_eq_true_iff p (Classical.propDecidable p)
theorem dB_t {p : Prop} (h : p) : dB p = true := dB_iff.2 h
theorem dB_f {p : Prop} (h : ¬ p) : dB p = false := by cases h1 : dB p with | false => rfl | true => exact absurd (dB_iff.1 h1) h
theorem dB_congr {p q : Prop} (h : p ↔ q) : dB p = dB q := by rw [propext h]
theorem dB_eq {p : Prop} [Decidable p] : dB p = decide p := by by_cases h : p <;> simp [h, dB]
theorem tab_congr {α : Type} {f g : Nat → α} {n : Nat} (h : ∀ k, k < n → f k = g k) : tab f n = tab g n := by
  unfold tab
  exact List.map_congr_left fun k hk => h k (List.mem_range.1 hk)
theorem tab_set' {α : Type} {f : Nat → α} {n j : Nat} {x : α} : (tab f n).set j x = tab (fun k => if k = j then x else f k) n := by
  apply List.ext_getElem
  · simp [tab]
  · intro i h1 h2
    simp only [tab, List.length_set, List.length_map, List.length_range] at h1 h2
    rw [List.getElem_set]
    simp only [tab, List.getElem_map, List.getElem_range]
    by_cases h : j = i
    · rw [if_pos h, if_pos h.symm]
    · rw [if_neg h, if_neg (fun e => h e.symm)]
theorem rep_tab {α : Type} {z : α} {n : Nat} : List.replicate n z = tab (fun _ => z) n := by
  apply List.ext_getElem <;> simp [tab]
/-- Numbers that go up, from nought on and below a bound. -/
def lset (l : List Int) (n : Int) : Prop := ∀ i, i < l.length → (0 ≤ l.getD i 0 ∧ l.getD i 0 ≤ n - 1) ∧ (0 < i → l.getD (i - 1) 0 < l.getD i 0)
instance (l : List Int) (n : Int) : Decidable (lset l n) := by unfold lset; infer_instance
theorem lset_mem {l : List Int} {n : Int} (h : lset l n) : ∀ x ∈ l, 0 ≤ x ∧ x < n := by
  intro x hx
  obtain ⟨i, hi, rfl⟩ := List.getElem_of_mem hx
  have := (h i hi).1
  rw [getD_lt hi] at this
  omega
theorem lset_ge {l : List Int} {n : Int} (h : lset l n) : ∀ i, i < l.length → (i : Int) ≤ l.getD i 0 := by
  intro i
  induction i with
  | zero => intro hi; exact (h 0 hi).1.1
  | succ i ih =>
    intro hi
    have h1 := ih (by omega)
    have h2 := (h (i + 1) hi).2 (by omega)
    simp only [Nat.add_sub_cancel] at h2
    omega
theorem lset_len {l : List Int} {n : Int} (h : lset l n) (hn : 0 ≤ n) : (l.length : Int) ≤ n := by
  rcases Nat.eq_zero_or_pos l.length with h0 | h0
  · omega
  · have h1 := lset_ge h (l.length - 1) (by omega)
    have h2 := (h (l.length - 1) (by omega)).1.2
    omega
theorem lset_snoc {l : List Int} {n x : Int} (h : lset l n) (hx : 0 ≤ x ∧ x < n) (hl : ∀ y ∈ l, y < x) : lset (l ++ [x]) n := by
  intro i hi
  simp only [List.length_append, List.length_cons, List.length_nil, Nat.zero_add] at hi
  rw [getD_snoc, getD_snoc]
  by_cases h1 : i < l.length
  · rw [if_pos h1, if_pos (by omega)]; exact h i h1
  · have h2 : i = l.length := by omega
    rw [if_neg h1, if_pos h2]
    refine ⟨by omega, fun h3 => ?_⟩
    rw [if_pos (by omega)]
    exact hl _ (getD_mem (by omega))
theorem upTo_lt {p : Nat → Bool} {n : Nat} : ∀ x ∈ upTo p n, x < n := fun x hx => by obtain ⟨k, h1, h2, _⟩ := upTo_mem.1 hx; omega
theorem upTo_lset {p : Nat → Bool} {m : Nat} : ∀ {n : Nat}, n ≤ m → lset (upTo p n) m
  | 0, _ => fun i hi => absurd hi (Nat.not_lt_zero _)
  | n + 1, h => by
    simp only [upTo]
    split
    · exact lset_snoc (upTo_lset (by omega)) (by omega) upTo_lt
    · exact upTo_lset (by omega)
theorem lset_take {l : List Int} {n : Int} (h : lset l n) (k : Nat) : lset (l.take k) n := by
  intro i hi
  rw [List.length_take] at hi
  have := h i (by omega)
  have e : ∀ j, j ≤ i → (l.take k).getD j 0 = l.getD j 0 := fun j hj => by
    simp only [List.getD_eq_getElem?_getD, List.getElem?_take]
    rw [if_pos (by omega)]
  rw [e i (Nat.le_refl _), e (i - 1) (by omega)]
  exact this
theorem mem_take_next {l : List Int} {i : Nat} {x : Int} (h : i < l.length) : x ∈ l.take (i + 1) ↔ x ∈ l.take i ∨ x = l.getD i 0 := by
  rw [← take_next (d := 0) h]; simp
theorem C_spec_l4Marks (l : List Int) (n : Nat) (hn : n ≤ 1048576) (hl : l.length ≤ 1048576) (h : ∀ x ∈ l, 0 ≤ x ∧ x < n) (Q : List AV → Prop) : mc.C f_spec_l4Marks [⟨L I, l⟩, ⟨I, (n : Int)⟩] Q = Q [⟨L B, tab (fun k => dB ((k : Int) ∈ l)) n⟩] := by
  refine Mc.Ends.c (mc.ends F_spec_l4Marks ?_)
  simp (contextual := true) (maxSteps := 1000000) (disch := omega) only [↓Sd, ↓So, ↓Sk, ↓den, ↓denA, Sa, Sb, Sc, Se, O1.d, O2.d, O3.d, cmI, arI, envOf, putN, ↓reduceIte, Nat.reduceLT, Nat.reduceSub, Nat.reduceAdd, Int.reduceAdd, Int.reduceEq, Int.reduceLT, Int.reduceLE, arr_pos, arr_neg, tr_spec_l4Marks]
  refine mc.lp_for (List Bool) (fun i o => [⟨L I, l⟩, ⟨I, (i : Int)⟩, ⟨L B, o⟩]) (fun i o => o = tab (fun k => dB ((k : Int) ∈ l.take i)) n) l.length 0 (List.replicate n false) _ rfl (Nat.zero_le _) ?_ ?_ ?_
  · rw [rep_tab]; exact tab_congr fun k _ => (dB_f (by simp)).symm
  · rintro i o hi rfl
    have hx := h _ (getD_mem (d := 0) hi)
    simp (contextual := true) (maxSteps := 1000000) (disch := omega) only [↓Sd, ↓So, ↓Sk, ↓den, ↓denA, Sa, Sb, Sc, Se, O1.d, O2.d, O3.d, cmI, arI, envOf, putN, ↓reduceIte, Nat.reduceLT, Nat.reduceSub, Nat.reduceAdd, Int.reduceAdd, Int.reduceEq, Int.reduceLT, Int.reduceLE, arr_pos, arr_neg, tab_len, tab_set']
    refine tab_congr fun k hk => ?_
    by_cases hk2 : k = (l.getD i 0).toNat
    · rw [if_pos hk2, dB_t]; exact (mem_take_next hi).2 (.inr (by omega))
    · rw [if_neg hk2]; refine dB_congr ?_
      rw [mem_take_next hi]
      exact ⟨.inl, fun h => h.elim id fun h => absurd h (by omega)⟩
  · rintro o rfl
    rw [List.take_length]
    simp (contextual := true) (maxSteps := 1000000) (disch := omega) only [↓Sd, ↓So, ↓Sk, ↓den, ↓denA, Sa, Sb, Sc, Se, O1.d, O2.d, O3.d, cmI, arI, envOf, putN, ↓reduceIte, Nat.reduceLT, Nat.reduceSub, Nat.reduceAdd, Int.reduceAdd, Int.reduceEq, Int.reduceLT, Int.reduceLE, arr_pos, arr_neg, ]
theorem C_spec_l4Marks_i (l : List Int) (m : Int) (n : Nat) (e : m = n) (hn : n ≤ 1048576) (hl : l.length ≤ 1048576) (h : ∀ x ∈ l, 0 ≤ x ∧ x < n) (Q : List AV → Prop) : mc.C f_spec_l4Marks [⟨L I, l⟩, ⟨I, m⟩] Q = Q [⟨L B, tab (fun k => dB ((k : Int) ∈ l)) n⟩] := e ▸ C_spec_l4Marks l n hn hl h Q
theorem C_spec_l4List (l : List Bool) (hl : l.length ≤ 1048576) (Q : List AV → Prop) : mc.C f_spec_l4List [⟨L B, l⟩] Q = Q [⟨L I, upTo (fun k => l.getD k false) l.length⟩] := by
  refine Mc.Ends.c (mc.ends F_spec_l4List ?_)
  simp (contextual := true) (maxSteps := 1000000) (disch := omega) only [↓Sd, ↓So, ↓Sk, ↓den, ↓denA, Sa, Sb, Sc, Se, O1.d, O2.d, O3.d, cmI, arI, envOf, putN, ↓reduceIte, Nat.reduceLT, Nat.reduceSub, Nat.reduceAdd, Int.reduceAdd, Int.reduceEq, Int.reduceLT, Int.reduceLE, arr_pos, arr_neg, tr_spec_l4List]
  refine mc.lp_for (List Int) (fun i o => [⟨L B, l⟩, ⟨I, (i : Int)⟩, ⟨L I, o⟩]) (fun i o => o = upTo (fun k => l.getD k false) i) l.length 0 [] _ rfl (Nat.zero_le _) rfl ?_ ?_
  · rintro i o hi rfl
    have h1 := @upTo_len (fun k => l.getD k false) i
    simp (contextual := true) (maxSteps := 1000000) (disch := omega) only [↓Sd, ↓So, ↓Sk, ↓den, ↓denA, Sa, Sb, Sc, Se, O1.d, O2.d, O3.d, cmI, arI, envOf, putN, ↓reduceIte, Nat.reduceLT, Nat.reduceSub, Nat.reduceAdd, Int.reduceAdd, Int.reduceEq, Int.reduceLT, Int.reduceLE, arr_pos, arr_neg, ↓wpJoin, ]
    exact ⟨fun g => (upTo_s g).symm, fun g => (upTo_n g).symm⟩
  · rintro o rfl
    simp (contextual := true) (maxSteps := 1000000) (disch := omega) only [↓Sd, ↓So, ↓Sk, ↓den, ↓denA, Sa, Sb, Sc, Se, O1.d, O2.d, O3.d, cmI, arI, envOf, putN, ↓reduceIte, Nat.reduceLT, Nat.reduceSub, Nat.reduceAdd, Int.reduceAdd, Int.reduceEq, Int.reduceLT, Int.reduceLE, arr_pos, arr_neg, ]
theorem C_spec_l4List_tab (p : Nat → Bool) (n : Nat) (hn : n ≤ 1048576) (Q : List AV → Prop) : mc.C f_spec_l4List [⟨L B, tab p n⟩] Q = Q [⟨L I, upTo p n⟩] := by
  rw [C_spec_l4List _ (by rw [tab_len]; exact hn), tab_len, upTo_congr fun k hk => tab_get hk]
/-- Which numbers are behind marked ones. -/
def behind (T : List (List Int)) (p : Nat → Bool) (n : Nat) (k : Nat) : Prop := ∃ a, a < n ∧ p a = true ∧ (k : Int) ∈ T.getD a []
theorem C_spec_l4Behind (T : List (List Int)) (p : Nat → Bool) (n : Nat) (hn : n ≤ 1048576) (hT : T.length = n) (hr : ∀ r ∈ T, r.length ≤ 1048576 ∧ ∀ x ∈ r, 0 ≤ x ∧ x < n) (Q : List AV → Prop) : mc.C f_spec_l4Behind [⟨L (L I), T⟩, ⟨L B, tab p n⟩] Q = Q [⟨L B, tab (fun k => dB (behind T p n k)) n⟩] := by
  refine Mc.Ends.c (mc.ends F_spec_l4Behind ?_)
  simp (contextual := true) (maxSteps := 1000000) (disch := omega) only [↓Sd, ↓So, ↓Sk, ↓den, ↓denA, Sa, Sb, Sc, Se, O1.d, O2.d, O3.d, cmI, arI, envOf, putN, ↓reduceIte, Nat.reduceLT, Nat.reduceSub, Nat.reduceAdd, Int.reduceAdd, Int.reduceEq, Int.reduceLT, Int.reduceLE, arr_pos, arr_neg, tr_spec_l4Behind, hT]
  refine mc.lp_for (List Bool) (fun i o => [⟨L (L I), T⟩, ⟨L B, tab p n⟩, ⟨I, (i : Int)⟩, ⟨L B, o⟩]) (fun i o => o = tab (fun k => dB (behind T p i k)) n) n 0 (List.replicate n false) _ rfl (Nat.zero_le _) ?_ ?_ ?_
  · rw [rep_tab]; exact tab_congr fun k _ => (dB_f (by rintro ⟨a, h, _⟩; omega)).symm
  · rintro i o hi rfl
    have hrow := hr _ (getD_mem (d := []) (by omega : i < T.length))
    simp (contextual := true) (maxSteps := 1000000) (disch := omega) only [↓Sd, ↓So, ↓Sk, ↓den, ↓denA, Sa, Sb, Sc, Se, O1.d, O2.d, O3.d, cmI, arI, envOf, putN, ↓reduceIte, Nat.reduceLT, Nat.reduceSub, Nat.reduceAdd, Int.reduceAdd, Int.reduceEq, Int.reduceLT, Int.reduceLE, arr_pos, arr_neg, hT]
    refine mc.lp_for (List Bool) (fun j o => [⟨L (L I), T⟩, ⟨L B, tab p n⟩, ⟨I, (i : Int)⟩, ⟨I, (j : Int)⟩, ⟨L B, o⟩]) (fun j o => o = tab (fun k => dB (behind T p i k ∨ p i = true ∧ (k : Int) ∈ (T.getD i []).take j)) n) (T.getD i []).length 0 _ _ rfl (Nat.zero_le _) ?_ ?_ ?_
    · exact tab_congr fun k _ => dB_congr (by simp)
    · rintro j o hj rfl
      have hx := hrow.2 _ (getD_mem (d := 0) hj)
      simp (contextual := true) (maxSteps := 1000000) (disch := omega) only [↓Sd, ↓So, ↓Sk, ↓den, ↓denA, Sa, Sb, Sc, Se, O1.d, O2.d, O3.d, cmI, arI, envOf, putN, ↓reduceIte, Nat.reduceLT, Nat.reduceSub, Nat.reduceAdd, Int.reduceAdd, Int.reduceEq, Int.reduceLT, Int.reduceLE, arr_pos, arr_neg, ↓wpJoin, hT, tab_len, tab_get hi, tab_set']
      refine fun g => tab_congr fun k hk => ?_
      by_cases hk2 : k = ((T.getD i []).getD j 0).toNat
      · rw [if_pos hk2, dB_t]; exact .inr ((mem_take_next hj).2 (.inr (by omega)))
      · rw [if_neg hk2]; refine dB_congr ?_
        rw [mem_take_next hj]
        exact ⟨fun h => h.elim .inl fun h => .inr (.inl h), fun h => h.elim .inl fun h => .inr (h.elim id fun h => absurd h (by omega))⟩
    · rintro o rfl
      rw [List.take_length]
      simp (contextual := true) (maxSteps := 1000000) (disch := omega) only [↓Sd, ↓So, ↓Sk, ↓den, ↓denA, Sa, Sb, Sc, Se, O1.d, O2.d, O3.d, cmI, arI, envOf, putN, ↓reduceIte, Nat.reduceLT, Nat.reduceSub, Nat.reduceAdd, Int.reduceAdd, Int.reduceEq, Int.reduceLT, Int.reduceLE, arr_pos, arr_neg, hT]
      refine tab_congr fun k hk => dB_congr ⟨?_, ?_⟩
      · rintro (⟨a, h1, h2⟩ | h)
        · exact ⟨a, by omega, h2⟩
        · exact ⟨i, by omega, h⟩
      · rintro ⟨a, h1, h2⟩
        rcases Nat.lt_succ_iff_lt_or_eq.1 h1 with h | rfl
        · exact .inl ⟨a, h, h2⟩
        · exact .inr h2
  · rintro o rfl
    simp (contextual := true) (maxSteps := 1000000) (disch := omega) only [↓Sd, ↓So, ↓Sk, ↓den, ↓denA, Sa, Sb, Sc, Se, O1.d, O2.d, O3.d, cmI, arI, envOf, putN, ↓reduceIte, Nat.reduceLT, Nat.reduceSub, Nat.reduceAdd, Int.reduceAdd, Int.reduceEq, Int.reduceLT, Int.reduceLE, arr_pos, arr_neg, hT]
theorem C_spec_l4Set (l : List Int) (hl : l.length ≤ 1048576) (Q : List AV → Prop) : mc.C f_spec_l4Set [⟨L I, l⟩] Q = Q [⟨B, decide (lset l 400)⟩] := by
  refine Mc.Ends.c (mc.ends F_spec_l4Set ?_)
  generalize hK : decide (lset l 400) = K
  simp (contextual := true) (maxSteps := 1000000) (disch := omega) only [↓Sd, ↓So, ↓Sk, ↓den, ↓denA, Sa, Sb, Sc, Se, O1.d, O2.d, O3.d, cmI, arI, envOf, putN, ↓reduceIte, Nat.reduceLT, Nat.reduceSub, Nat.reduceAdd, Int.reduceAdd, Int.reduceEq, Int.reduceLT, Int.reduceLE, arr_pos, arr_neg, tr_spec_l4Set]
  refine lp_all (fun i => [⟨L I, l⟩, ⟨I, (i : Int)⟩]) (fun i => (0 ≤ l.getD i 0 ∧ l.getD i 0 ≤ 400 - 1) ∧ (0 < i → l.getD (i - 1) 0 < l.getD i 0)) l.length _ rfl ?_ ?_
  · intro i hi
    have hno : ¬ ((0 ≤ l.getD i 0 ∧ l.getD i 0 ≤ 400 - 1) ∧ (0 < i → l.getD (i - 1) 0 < l.getD i 0)) → false = K := fun h => by rw [← hK, decide_eq_false]; exact fun h1 => h (h1 i hi)
    simp (contextual := true) (maxSteps := 1000000) (disch := omega) only [↓Sd, ↓So, ↓Sk, ↓den, ↓denA, Sa, Sb, Sc, Se, O1.d, O2.d, O3.d, cmI, arI, envOf, putN, ↓reduceIte, Nat.reduceLT, Nat.reduceSub, Nat.reduceAdd, Int.reduceAdd, Int.reduceEq, Int.reduceLT, Int.reduceLE, arr_pos, arr_neg, ↓wpJoin, C_spec_l1In]
    grind
  · intro h
    simp (contextual := true) (maxSteps := 1000000) (disch := omega) only [↓Sd, ↓So, ↓Sk, ↓den, ↓denA, Sa, Sb, Sc, Se, O1.d, O2.d, O3.d, cmI, arI, envOf, putN, ↓reduceIte, Nat.reduceLT, Nat.reduceSub, Nat.reduceAdd, Int.reduceAdd, Int.reduceEq, Int.reduceLT, Int.reduceLE, arr_pos, arr_neg, ]
    rw [← hK, decide_eq_true]; exact h
theorem upTo_shrink {p q : Nat → Bool} {N M : Nat} (h : N ≤ M) (h1 : ∀ k, k < N → p k = q k) (h2 : ∀ k, N ≤ k → k < M → p k = false) : upTo p M = upTo q N := by
  induction M with
  | zero => have : N = 0 := by omega
            subst this; rfl
  | succ M ih =>
    rcases Nat.lt_or_eq_of_le h with h3 | rfl
    · rw [upTo_n (by rw [h2 M (by omega) (by omega)]; simp)]
      exact ih (by omega) fun k h4 h5 => h2 k h4 (by omega)
    · exact upTo_congr h1
theorem dB_upTo {p : Nat → Bool} {n k : Nat} : dB ((k : Int) ∈ upTo p n) = (decide (k < n) && p k) := by
  by_cases h : k < n ∧ p k = true
  · rw [dB_t (upTo_mem.2 ⟨k, h.1, rfl, h.2⟩)]; simp [h]
  · rw [dB_f]
    · by_cases h1 : k < n
      · have : p k = false := by cases h2 : p k with | false => rfl | true => exact absurd ⟨h1, h2⟩ h
        simp [this]
      · simp [h1]
    · intro h1
      obtain ⟨j, h2, h3, h4⟩ := upTo_mem.1 h1
      have : k = j := by omega
      subst this
      exact h ⟨h2, h4⟩
theorem upTo_mono {p q : Nat → Bool} : ∀ {n : Nat}, (∀ k, k < n → p k = true → q k = true) → (upTo p n).length ≤ (upTo q n).length ∧ ((upTo q n).length ≤ (upTo p n).length → ∀ k, k < n → q k = true → p k = true)
  | 0, _ => ⟨Nat.le_refl _, fun _ k hk => absurd hk (Nat.not_lt_zero _)⟩
  | n + 1, h => by
    obtain ⟨h1, h2⟩ := upTo_mono (n := n) fun k hk => h k (by omega)
    by_cases hp : p n = true
    · have hq := h n (by omega) hp
      rw [upTo_s hp, upTo_s hq]
      simp only [List.length_append, List.length_cons, List.length_nil]
      refine ⟨by omega, fun h3 k hk hqk => ?_⟩
      rcases Nat.lt_succ_iff_lt_or_eq.1 hk with h4 | rfl
      · exact h2 (by omega) k h4 hqk
      · exact hp
    · rw [upTo_n hp]
      by_cases hq : q n = true
      · rw [upTo_s hq]
        simp only [List.length_append, List.length_cons, List.length_nil]
        exact ⟨by omega, fun h3 => absurd h3 (by omega)⟩
      · rw [upTo_n hq]
        refine ⟨h1, fun h3 k hk hqk => ?_⟩
        rcases Nat.lt_succ_iff_lt_or_eq.1 hk with h4 | rfl
        · exact h2 h3 k h4 hqk
        · exact absurd hqk hq
theorem C_spec_l4Mix1 (a b : List Int) (N : Nat) (hN : N = 400) (ha : lset a 400) (hb : lset b 400) (Q : List AV → Prop) : mc.C f_spec_l4Mix [⟨L I, a⟩, ⟨L I, b⟩, ⟨I, 1⟩] Q = Q [⟨L I, upTo (fun k => dB ((k : Int) ∈ a) || dB ((k : Int) ∈ b)) N⟩] := by
  have la := lset_len ha (by omega)
  have lb := lset_len hb (by omega)
  have ma := lset_mem ha
  have mb := lset_mem hb
  refine Mc.Ends.c (mc.ends F_spec_l4Mix ?_)
  simp (contextual := true) (maxSteps := 1000000) (disch := omega) only [↓Sd, ↓So, ↓Sk, ↓den, ↓denA, Sa, Sb, Sc, Se, O1.d, O2.d, O3.d, cmI, arI, envOf, putN, ↓reduceIte, Nat.reduceLT, Nat.reduceSub, Nat.reduceAdd, Int.reduceAdd, Int.reduceEq, Int.reduceLT, Int.reduceLE, arr_pos, arr_neg, tr_spec_l4Mix, C_spec_l4Set a (by omega), C_spec_l4Set b (by omega), ha, hb, C_spec_l4Marks_i a 400 N (by omega) (by omega) (by omega) (fun x hx => by have := ma x hx; omega), C_spec_l4Marks_i b 400 N (by omega) (by omega) (by omega) (fun x hx => by have := mb x hx; omega)]
  refine mc.lp_for (List Int) (fun i o => [⟨I, 1⟩, ⟨I, (i : Int)⟩, ⟨L I, o⟩, ⟨L B, tab (fun k => dB ((k : Int) ∈ a)) N⟩, ⟨L B, tab (fun k => dB ((k : Int) ∈ b)) N⟩]) (fun i o => o = upTo (fun k => dB ((k : Int) ∈ a) || dB ((k : Int) ∈ b)) i) N 0 [] _ rfl (Nat.zero_le _) rfl ?_ ?_
  · rintro i o hi rfl
    have hl := @upTo_len (fun k => dB ((k : Int) ∈ a) || dB ((k : Int) ∈ b)) i
    simp (contextual := true) (maxSteps := 1000000) (disch := omega) only [↓Sd, ↓So, ↓Sk, ↓den, ↓denA, Sa, Sb, Sc, Se, O1.d, O2.d, O3.d, cmI, arI, envOf, putN, ↓reduceIte, Nat.reduceLT, Nat.reduceSub, Nat.reduceAdd, Int.reduceAdd, Int.reduceEq, Int.reduceLT, Int.reduceLE, arr_pos, arr_neg, ]
    refine mc.wp_join (fun us => us = [⟨I, 1⟩, ⟨I, (i : Int)⟩, ⟨L I, upTo (fun k => dB ((k : Int) ∈ a) || dB ((k : Int) ∈ b)) (i + 1)⟩, ⟨L B, tab (fun k => dB ((k : Int) ∈ a)) N⟩, ⟨L B, tab (fun k => dB ((k : Int) ∈ b)) N⟩]) ?_ (by rintro _ rfl; simp (contextual := true) (maxSteps := 1000000) (disch := omega) only [↓Sd, ↓So, ↓Sk, ↓den, ↓denA, Sa, Sb, Sc, Se, O1.d, O2.d, O3.d, cmI, arI, envOf, putN, ↓reduceIte, Nat.reduceLT, Nat.reduceSub, Nat.reduceAdd, Int.reduceAdd, Int.reduceEq, Int.reduceLT, Int.reduceLE, arr_pos, arr_neg, ])
    simp only [upTo]
    simp (contextual := true) (maxSteps := 1000000) (disch := omega) only [↓Sd, ↓So, ↓Sk, ↓den, ↓denA, Sa, Sb, Sc, Se, O1.d, O2.d, O3.d, cmI, arI, envOf, putN, ↓reduceIte, Nat.reduceLT, Nat.reduceSub, Nat.reduceAdd, Int.reduceAdd, Int.reduceEq, Int.reduceLT, Int.reduceLE, arr_pos, arr_neg, tab_len, tab_get hi, Bool.true_or, Bool.or_true, Bool.or_self]
  · rintro o rfl
    simp (contextual := true) (maxSteps := 1000000) (disch := omega) only [↓Sd, ↓So, ↓Sk, ↓den, ↓denA, Sa, Sb, Sc, Se, O1.d, O2.d, O3.d, cmI, arI, envOf, putN, ↓reduceIte, Nat.reduceLT, Nat.reduceSub, Nat.reduceAdd, Int.reduceAdd, Int.reduceEq, Int.reduceLT, Int.reduceLE, arr_pos, arr_neg, ]
end Go.Proofs.YtplibobhcjgcmaaGreat
/- What the trees come to. -/
namespace Go.Proofs.YtplibobhcjgcmaaGreat
open Go Go.Sm Go.Sm.Q
set_option linter.unusedSimpArgs false
set_option linter.unusedVariables false
theorem C_spec_SetEither (a b : List Int) (ha : lset a 400) (hb : lset b 400) (Q : List AV → Prop) : mc.C f_spec_SetEither [⟨L I, a⟩, ⟨L I, b⟩] Q = Q [⟨L I, upTo (fun k => dB ((k : Int) ∈ a) || dB ((k : Int) ∈ b)) 400⟩] := by
  refine Mc.Ends.c (mc.ends F_spec_SetEither ?_)
  obtain ⟨N, hN⟩ : ∃ N : Nat, N = 400 := ⟨_, rfl⟩
  rw [← hN]
  simp (contextual := true) (maxSteps := 1000000) (disch := omega) only [↓Sd, ↓So, ↓Sk, ↓den, ↓denA, Sa, Sb, Sc, Se, O1.d, O2.d, O3.d, cmI, arI, envOf, putN, ↓reduceIte, Nat.reduceLT, Nat.reduceSub, Nat.reduceAdd, Int.reduceAdd, Int.reduceEq, Int.reduceLT, Int.reduceLE, arr_pos, arr_neg, tr_spec_SetEither, C_spec_l4Mix1 a b N hN ha hb]
theorem either_upTo {p q : Nat → Bool} {n : Nat} (h : n ≤ 400) : upTo (fun k => dB ((k : Int) ∈ upTo p n) || dB ((k : Int) ∈ upTo q n)) 400 = upTo (fun k => p k || q k) n :=
  upTo_shrink h (fun k hk => by simp [dB_upTo, hk]) fun k h1 _ => by have : ¬ k < n := by omega
                                                                     simp [dB_upTo, this]
theorem without_upTo {p q : Nat → Bool} {n : Nat} (h : n ≤ 400) : upTo (fun k => dB ((k : Int) ∈ upTo p n) && !dB ((k : Int) ∈ upTo q n)) 400 = upTo (fun k => p k && !q k) n :=
  upTo_shrink h (fun k hk => by simp [dB_upTo, hk]) fun k h1 _ => by have : ¬ k < n := by omega
                                                                     simp [dB_upTo, this]
/-- What is reached from some numbers. -/
inductive Rch (T : List (List Int)) (F : List Int) : Nat → Prop
  | base {k : Nat} : (k : Int) ∈ F → Rch T F k
  | step {a k : Nat} : Rch T F a → (k : Int) ∈ T.getD a [] → Rch T F k
/-- A table of steps: rows of numbers of states. -/
def Tbl (T : List (List Int)) (n : Nat) : Prop := T.length = n ∧ ∀ r ∈ T, r.length ≤ 1048576 ∧ ∀ x ∈ r, 0 ≤ x ∧ x < n
theorem Tbl.row {T : List (List Int)} {n i : Nat} (h : Tbl T n) : ∀ x ∈ T.getD i [], 0 ≤ x ∧ x < n := by
  intro x hx
  by_cases hi : i < T.length
  · exact (h.2 _ (getD_mem hi)).2 x hx
  · rw [List.getD_eq_getElem?_getD, List.getElem?_eq_none (by omega)] at hx
    cases hx
theorem Rch.lt {T : List (List Int)} {F : List Int} {n k : Nat} (h : Tbl T n) (hF : ∀ x ∈ F, x < n) (hk : Rch T F k) : k < n := by
  induction hk with
  | base h1 => have := hF _ h1; omega
  | step _ h1 => have := h.row _ h1; omega
theorem steps_tbl {s : Sy} (h : valid s) : Tbl (steps s) (szn s.1) := by
  have hz := szn_eq h
  refine ⟨tab_len, fun r hr => ?_⟩
  simp only [steps, tab, List.mem_map, List.mem_range] at hr
  obtain ⟨i, hi, rfl⟩ := hr
  refine ⟨by simp only [stepR, List.length_map]; exact Nat.le_trans (nxt_len h) (by omega), fun x hx => ?_⟩
  simp only [stepR, List.mem_map] at hx
  obtain ⟨y, hy, rfl⟩ := hx
  have := num_bd h.2.2.1 (nxt_in y hy)
  omega
/-- The set that is reached, told by what is closed. -/
theorem rch_of_closed {T : List (List Int)} {F : List Int} {n : Nat} {p : Nat → Bool} (h : Tbl T n) (hF : ∀ x ∈ F, 0 ≤ x ∧ x < n) (h1 : ∀ k, k < n → (k : Int) ∈ F → p k = true) (h2 : ∀ k, k < n → p k = true → Rch T F k)
    (h3 : ∀ a, a < n → p a = true → ∀ k : Nat, (k : Int) ∈ T.getD a [] → p k = true) : ∀ k, k < n → p k = dB (Rch T F k) := by
  have key : ∀ k, Rch T F k → k < n ∧ p k = true := by
    intro k hk
    induction hk with
    | base h4 => have := hF _ h4; exact ⟨by omega, h1 _ (by omega) h4⟩
    | step _ h4 ih => have := h.row _ h4; exact ⟨by omega, h3 _ ih.1 ih.2 _ h4⟩
  intro k hk
  by_cases h4 : p k = true
  · rw [h4, dB_t (h2 k hk h4)]
  · rw [dB_f fun h5 => h4 (key k h5).2]; simpa using h4
theorem upTo_one {m : Nat} : ∀ {n : Nat}, upTo (fun k => k == m) n = if m < n then [(m : Int)] else []
  | 0 => by simp [upTo]
  | n + 1 => by
    by_cases h : n = m
    · subst h
      rw [upTo_s (by simp), upTo_one, if_neg (by omega), if_pos (by omega)]; rfl
    · rw [upTo_n (by simpa using h), upTo_one]
      by_cases h2 : m < n
      · rw [if_pos h2, if_pos (by omega)]
      · rw [if_neg h2, if_neg (by omega)]
/-- The numbers of the states that are reached. -/
noncomputable def rset (s : Sy) : List Int := upTo (fun k => dB (Rch (steps s) [num s.1 (fst0 s.1)] k)) (szn s.1)
theorem C_spec_ReachBy (s : Sy) (hs : FewSy s) (h : nar s) {Q : List AV → Prop} (hQ : ∀ k : Int, Q [⟨L I, rset s⟩, ⟨I, k⟩]) : mc.C f_spec_ReachBy [⟨L V3, s.1⟩, ⟨L TR, s.2⟩] Q := by
  have hv := h.1
  have hz := szn_eq hv
  have hb := h.2
  have hfi := fst0_in hv.2.2.1
  have hn := num_bd hv.2.2.1 hfi
  have ht := steps_tbl hv
  have hb0 : 0 ≤ bc s.1 := (sumN_bd (f := bw s.1) (fun i => bn_bd _) s.1.length).1
  refine mc.c_of F_spec_ReachBy ?_
  simp (contextual := true) (maxSteps := 1000000) (disch := omega) only [↓Sd, ↓So, ↓Sk, ↓den, ↓denA, Sa, Sb, Sc, Se, O1.d, O2.d, O3.d, cmI, arI, envOf, putN, ↓reduceIte, Nat.reduceLT, Nat.reduceSub, Nat.reduceAdd, Int.reduceAdd, Int.reduceEq, Int.reduceLT, Int.reduceLE, arr_pos, arr_neg, tr_spec_ReachBy, C_spec_l10Wide s hs, if_pos h, C_spec_l4Steps s hs hv, C_spec_FirstState s hs hv, C_spec_l4Number s _ hv.1.2 hv.2.2.1 hfi]
  obtain ⟨m, hm⟩ : ∃ m : Nat, num s.1 (fst0 s.1) = m := ⟨(num s.1 (fst0 s.1)).toNat, by omega⟩
  have hmn : m < szn s.1 := by omega
  have hrs : rset s = upTo (fun k => dB (Rch (steps s) [(m : Int)] k)) (szn s.1) := by rw [rset, hm]
  rw [hm]
  rw [hrs] at hQ
  generalize steps s = T at *
  generalize szn s.1 = n at *
  clear hrs hm hn hb hb0 hfi
  have hF : ∀ x ∈ [(m : Int)], 0 ≤ x ∧ x < n := by intro x hx; simp only [List.mem_singleton] at hx; omega
  refine mc.lp_inv (fun j us => ∃ (p : Nat → Bool) (rd : Int) (ag : Bool), us = [⟨I, rd⟩, ⟨B, ag⟩, ⟨L (L I), T⟩, ⟨L I, upTo p n⟩] ∧ p m = true ∧ (∀ k, k < n → p k = true → Rch T [(m : Int)] k) ∧
    (ag = false → ∀ a, a < n → p a = true → ∀ k : Nat, (k : Int) ∈ T.getD a [] → p k = true) ∧ (0 ≤ rd ∧ rd ≤ 500) ∧ (ag = true → rd ≤ (upTo p n).length) ∧ j = if ag = true then n + 1 - (upTo p n).length else 0) (n + 1 - (upTo (fun k => k == m) n).length) _
    ⟨fun k => k == m, 0, true, ?_, ?_, ?_, ?_, ⟨by omega, by omega⟩, fun _ => by omega, by simp⟩ ?_
  · rw [upTo_one, if_pos hmn]
  · simp
  · intro k hk hp; simp only [beq_iff_eq] at hp; subst hp; exact .base (by simp)
  · intro h; cases h
  rintro j us ⟨p, rd, ag, rfl, i1, i2, i3, i4, i5, rfl⟩
  have hlen := @upTo_len p n
  cases ag with
  | false =>
    simp (contextual := true) (maxSteps := 1000000) (disch := omega) only [↓Sd, ↓So, ↓Sk, ↓den, ↓denA, Sa, Sb, Sc, Se, O1.d, O2.d, O3.d, cmI, arI, envOf, putN, ↓reduceIte, Nat.reduceLT, Nat.reduceSub, Nat.reduceAdd, Int.reduceAdd, Int.reduceEq, Int.reduceLT, Int.reduceLE, arr_pos, arr_neg, ]
    have := upTo_congr (rch_of_closed ht hF (fun k hk hk2 => by simp only [List.mem_singleton] at hk2; rw [show k = m by omega]; exact i1) i2 (i3 rfl))
    rw [this]
    exact hQ _
  | true =>
    have i5 := i5 rfl
    have hset : upTo p n = upTo p n := rfl
    simp (contextual := true) (maxSteps := 1000000) (disch := omega) only [↓Sd, ↓So, ↓Sk, ↓den, ↓denA, Sa, Sb, Sc, Se, O1.d, O2.d, O3.d, cmI, arI, envOf, putN, ↓reduceIte, Nat.reduceLT, Nat.reduceSub, Nat.reduceAdd, Int.reduceAdd, Int.reduceEq, Int.reduceLT, Int.reduceLE, arr_pos, arr_neg, ht.1, C_spec_l4Marks (upTo p n) n (by omega) (by omega) (fun x hx => by have h1 := lset_mem (upTo_lset (Nat.le_refl n)) x hx; exact h1)]
    rw [tab_congr (g := p) (n := n) fun k hk => by rw [dB_upTo]; simp [hk]]
    rw [C_spec_l4Behind T p n (by omega) ht.1 ht.2]
    simp (contextual := true) (maxSteps := 1000000) (disch := omega) only [↓Sd, ↓So, ↓Sk, ↓den, ↓denA, Sa, Sb, Sc, Se, O1.d, O2.d, O3.d, cmI, arI, envOf, putN, ↓reduceIte, Nat.reduceLT, Nat.reduceSub, Nat.reduceAdd, Int.reduceAdd, Int.reduceEq, Int.reduceLT, Int.reduceLE, arr_pos, arr_neg, C_spec_l4List_tab _ n (by omega : n ≤ 1048576), C_spec_SetEither _ _ (upTo_lset (p := p) (m := 400) (n := n) (by omega)) (upTo_lset (p := fun k => dB (behind T p n k)) (m := 400) (n := n) (by omega)), either_upTo (by omega : n ≤ 400)]
    have hmono := upTo_mono (p := p) (q := fun k => p k || dB (behind T p n k)) (n := n) fun k _ hk => by simp [hk]
    have hlen2 := @upTo_len (fun k => p k || dB (behind T p n k)) n
    refine ⟨_, ?_, fun k => p k || dB (behind T p n k), rd + 1, _, ⟨rfl, rfl, rfl⟩, by simp [i1], ?_, ?_, ⟨by omega, by omega⟩, ?_, rfl⟩
    · split
      · rename_i hg; have := of_decide_eq_true hg; omega
      · omega
    · intro k hk hp
      simp only [Bool.or_eq_true] at hp
      rcases hp with hp | hp
      · exact i2 k hk hp
      · obtain ⟨a, h1, h2, h3⟩ := dB_iff.1 hp
        exact .step (i2 a h1 h2) h3
    · intro hg a ha hpa k hk
      have hg := of_decide_eq_false hg
      have hpa := hmono.2 (by omega) a ha hpa
      have : dB (behind T p n k) = true := dB_t ⟨a, ha, hpa, hk⟩
      simp [this]
    · intro hg; have := of_decide_eq_true hg; omega
theorem mk_or {c : Prop} [Decidable c] {b : Bool} (h : b = true) : (if c then true else b) = true := by
  split
  · rfl
  · exact h
/-- How many numbers are not marked. -/
def cntF (p : Nat → Bool) (n : Nat) : Nat := (upTo (fun k => !p k) n).length
theorem cntF_le {p : Nat → Bool} {n : Nat} : cntF p n ≤ n := upTo_len
theorem cntF_set {p : Nat → Bool} {j : Nat} (hp : p j = false) : ∀ {n : Nat}, j < n → cntF (fun k => if k = j then true else p k) n + 1 = cntF p n
  | 0, h => absurd h (Nat.not_lt_zero _)
  | n + 1, h => by
    unfold cntF
    by_cases hj : n = j
    · subst hj
      rw [upTo_n (by simp), upTo_s (by simp [hp]), upTo_congr (q := fun k => !p k) fun k hk => by
        have : ¬ k = n := by omega
        simp [this]]
      simp
    · have ih : (upTo (fun k => !(if k = j then true else p k)) n).length + 1 = (upTo (fun k => !p k) n).length := cntF_set hp (by omega)
      by_cases hq : p n = true
      · rw [upTo_n (by simp [hj, hq]), upTo_n (by simp [hq])]; exact ih
      · rw [upTo_s (by simp [hj, hq]), upTo_s (by simp [hq])]
        simp only [List.length_append, List.length_cons, List.length_nil]
        omega
theorem C_slices_Clone_int (l : List Int) (hl : l.length ≤ 1048576) (h0 : l ≠ []) (Q : List AV → Prop) : mc.C f_slices_Clone_Sint_int [⟨L I, l⟩] Q = Q [⟨L I, l⟩] := by
  refine Mc.Ends.c (mc.ends F_slices_Clone_Sint_int ?_)
  simp (contextual := true) (maxSteps := 1000000) (disch := omega) only [↓Sd, ↓So, ↓Sk, ↓den, ↓denA, Sa, Sb, Sc, Se, O1.d, O2.d, O3.d, cmI, arI, envOf, putN, ↓reduceIte, Nat.reduceLT, Nat.reduceSub, Nat.reduceAdd, Int.reduceAdd, Int.reduceEq, Int.reduceLT, Int.reduceLE, arr_pos, arr_neg, tr_slices_Clone_Sint_int, List.isEmpty_eq_false_iff, h0, List.nil_append]
theorem C_impl_reach (T : List (List Int)) (F : List Int) (n : Nat) (h0 : F ≠ []) (hn : n ≤ 1000) (ht : Tbl T n) (hF : ∀ x ∈ F, 0 ≤ x ∧ x < n) (hFl : F.length ≤ 1000) (Q : List AV → Prop) : mc.C f_impl_reach [⟨L (L I), T⟩, ⟨L I, F⟩] Q = Q [⟨L B, tab (fun k => dB (Rch T F k)) n⟩] := by
  have hl := ht.1
  refine Mc.Ends.c (mc.ends F_impl_reach ?_)
  simp (contextual := true) (maxSteps := 1000000) (disch := omega) only [↓Sd, ↓So, ↓Sk, ↓den, ↓denA, Sa, Sb, Sc, Se, O1.d, O2.d, O3.d, cmI, arI, envOf, putN, ↓reduceIte, Nat.reduceLT, Nat.reduceSub, Nat.reduceAdd, Int.reduceAdd, Int.reduceEq, Int.reduceLT, Int.reduceLE, arr_pos, arr_neg, tr_impl_reach, hl, C_slices_Clone_int F (by omega) h0]
  refine mc.lp_for (List Bool) (fun i o => [⟨L (L I), T⟩, ⟨L I, F⟩, ⟨I, (F.length : Int)⟩, ⟨I, (i : Int)⟩, ⟨L B, o⟩, ⟨L I, F⟩]) (fun i o => o = tab (fun k => dB ((k : Int) ∈ F.take i)) n) F.length 0 (List.replicate n false) _ rfl (Nat.zero_le _) ?_ ?_ ?_
  · rw [rep_tab]; exact tab_congr fun k _ => (dB_f (by simp)).symm
  · rintro i o hi rfl
    have hx := hF _ (getD_mem (d := 0) hi)
    simp (contextual := true) (maxSteps := 1000000) (disch := omega) only [↓Sd, ↓So, ↓Sk, ↓den, ↓denA, Sa, Sb, Sc, Se, O1.d, O2.d, O3.d, cmI, arI, envOf, putN, ↓reduceIte, Nat.reduceLT, Nat.reduceSub, Nat.reduceAdd, Int.reduceAdd, Int.reduceEq, Int.reduceLT, Int.reduceLE, arr_pos, arr_neg, tab_len, tab_set']
    refine tab_congr fun k hk => ?_
    by_cases hk2 : k = (F.getD i 0).toNat
    · rw [if_pos hk2, dB_t]; exact (mem_take_next hi).2 (.inr (by omega))
    · rw [if_neg hk2]; refine dB_congr ?_
      rw [mem_take_next hi]
      exact ⟨.inl, fun h => h.elim id fun h => absurd h (by omega)⟩
  rintro o rfl
  rw [List.take_length]
  simp (contextual := true) (maxSteps := 1000000) (disch := omega) only [↓Sd, ↓So, ↓Sk, ↓den, ↓denA, Sa, Sb, Sc, Se, O1.d, O2.d, O3.d, cmI, arI, envOf, putN, ↓reduceIte, Nat.reduceLT, Nat.reduceSub, Nat.reduceAdd, Int.reduceAdd, Int.reduceEq, Int.reduceLT, Int.reduceLE, arr_pos, arr_neg, ]
  refine mc.lp_inv (fun j us => ∃ (p : Nat → Bool) (q : List Int), us = [⟨L (L I), T⟩, ⟨L B, tab p n⟩, ⟨L I, q⟩] ∧ (∀ x ∈ q, (0 ≤ x ∧ x < n) ∧ p x.toNat = true) ∧ (∀ k, k < n → (k : Int) ∈ F → p k = true) ∧ (∀ k, k < n → p k = true → Rch T F k) ∧
    (∀ a, a < n → p a = true → (a : Int) ∉ q → ∀ k : Nat, (k : Int) ∈ T.getD a [] → p k = true) ∧ q.length + cntF p n ≤ 2000 ∧ j = 2 * cntF p n + q.length) _ _
    ⟨fun k => dB ((k : Int) ∈ F), F, rfl, ?_, fun k _ h => dB_t h, fun k _ h => .base (dB_iff.1 h), fun a _ h1 h2 => absurd (dB_iff.1 h1) h2, ?_, rfl⟩ ?_
  · intro x hx
    have := hF x hx
    exact ⟨this, dB_t (by rw [show ((x.toNat : Nat) : Int) = x by omega]; exact hx)⟩
  · have := @cntF_le (fun k => dB ((k : Int) ∈ F)) n; omega
  rintro j us ⟨p, q, rfl, i1, i2, i3, i4, i5, rfl⟩
  cases q with
  | nil =>
    simp (contextual := true) (maxSteps := 1000000) (disch := omega) only [↓Sd, ↓So, ↓Sk, ↓den, ↓denA, Sa, Sb, Sc, Se, O1.d, O2.d, O3.d, cmI, arI, envOf, putN, ↓reduceIte, Nat.reduceLT, Nat.reduceSub, Nat.reduceAdd, Int.reduceAdd, Int.reduceEq, Int.reduceLT, Int.reduceLE, arr_pos, arr_neg, ]
    exact tab_congr (rch_of_closed ht hF i2 i3 fun a ha hp k hk => i4 a ha hp (by simp) k hk)
  | cons x q =>
    obtain ⟨⟨hx0, hx1⟩, hxp⟩ := i1 x (List.mem_cons_self ..)
    have hrow := ht.row (i := x.toNat)
    have hrl : (T.getD x.toNat []).length ≤ 1048576 := (ht.2 _ (getD_mem (by omega))).1
    simp only [List.length_cons] at i5
    obtain ⟨row, hr⟩ : ∃ row, T.getD x.toNat [] = row := ⟨_, rfl⟩
    rw [hr] at hrow hrl
    simp (contextual := true) (maxSteps := 1000000) (disch := omega) only [↓Sd, ↓So, ↓Sk, ↓den, ↓denA, Sa, Sb, Sc, Se, O1.d, O2.d, O3.d, cmI, arI, envOf, putN, ↓reduceIte, Nat.reduceLT, Nat.reduceSub, Nat.reduceAdd, Int.reduceAdd, Int.reduceEq, Int.reduceLT, Int.reduceLE, arr_pos, arr_neg, hl, hr, List.drop_succ_cons, List.drop_zero]
    refine mc.lp_for ((Nat → Bool) × List Int) (fun j s => [⟨L (L I), T⟩, ⟨L I, row⟩, ⟨I, (row.length : Int)⟩, ⟨I, (j : Int)⟩, ⟨L B, tab s.1 n⟩, ⟨L I, s.2⟩]) (fun j s => (∀ x ∈ s.2, (0 ≤ x ∧ x < n) ∧ s.1 x.toNat = true) ∧ (∀ k, k < n → p k = true → s.1 k = true) ∧ (∀ k, k < n → s.1 k = true → Rch T F k) ∧
      (∀ k : Nat, (k : Int) ∈ row.take j → s.1 k = true) ∧ (∀ a, a < n → s.1 a = true → (a : Int) ∉ s.2 → (a : Int) ≠ x → ∀ k : Nat, (k : Int) ∈ T.getD a [] → s.1 k = true) ∧ s.2.length + cntF s.1 n ≤ q.length + cntF p n ∧ cntF s.1 n ≤ cntF p n) row.length 0 (p, q) _ rfl (Nat.zero_le _)
      ⟨fun y hy => i1 y (List.mem_cons_of_mem _ hy), fun _ _ h => h, i3, by simp, fun a h1 h2 h3 h4 => i4 a h1 h2 (by simp only [List.mem_cons, not_or]; exact ⟨h4, h3⟩), Nat.le_refl _, Nat.le_refl _⟩ ?_ ?_
    · rintro j ⟨p', q'⟩ hj ⟨a1, a2, a3, a4, a5, a6, a7⟩
      simp only at a1 a2 a3 a4 a5 a6 a7
      have hy := hrow _ (getD_mem (d := 0) hj)
      obtain ⟨y, hy2⟩ : ∃ y : Nat, row.getD j 0 = y := ⟨(row.getD j 0).toNat, by omega⟩
      have hyn : y < n := by omega
      have hyr : Rch T F y := .step (i3 x.toNat (by omega) hxp) (by rw [hr, ← hy2]; exact getD_mem hj)
      simp (contextual := true) (maxSteps := 1000000) (disch := omega) only [↓Sd, ↓So, ↓Sk, ↓den, ↓denA, Sa, Sb, Sc, Se, O1.d, O2.d, O3.d, cmI, arI, envOf, putN, ↓reduceIte, Nat.reduceLT, Nat.reduceSub, Nat.reduceAdd, Int.reduceAdd, Int.reduceEq, Int.reduceLT, Int.reduceLE, arr_pos, arr_neg, ↓wpJoin, hy2, tab_len, tab_get hyn, tab_set']
      refine ⟨fun g => ?_, fun g => ?_⟩
      · have hc := cntF_set g hyn
        refine ⟨(fun k => if k = y then true else p' k, q' ++ [(y : Int)]), ⟨rfl, rfl⟩, ?_, ?_, ?_, ?_, ?_, ?_, ?_⟩
        · intro z hz
          rcases List.mem_append.1 hz with h | h
          · have := a1 z h; exact ⟨this.1, mk_or this.2⟩
          · simp only [List.mem_singleton] at h; subst h; exact ⟨by omega, by simp⟩
        · intro k hk h; exact mk_or (a2 k hk h)
        · intro k hk h
          by_cases hky : k = y
          · rw [hky]; exact hyr
          · exact a3 k hk (by simpa [hky] using h)
        · intro k hk
          simp only []
          split
          · rfl
          · rename_i hky
            rcases (mem_take_next hj).1 hk with h | h
            · exact a4 k h
            · exact absurd (by omega) hky
        · intro a ha h1 h2 h3 k hk
          simp only [List.mem_append, List.mem_singleton, not_or] at h2
          have hay : ¬ a = y := fun h => h2.2 (by rw [h])
          simp only []
          split
          · rfl
          · exact a5 a ha (by simpa [hay] using h1) h2.1 h3 k hk
        · simp only [List.length_append, List.length_cons, List.length_nil]; omega
        · simp only []; omega
      · refine ⟨(p', q'), ⟨rfl, rfl⟩, a1, a2, a3, fun k hk => ?_, a5, a6, a7⟩
        rcases (mem_take_next hj).1 hk with h | h
        · exact a4 k h
        · rw [show k = y by omega]; simpa using g
    · rintro ⟨p', q'⟩ ⟨a1, a2, a3, a4, a5, a6, a7⟩
      rw [List.take_length] at a4
      simp only at a6 a7
      simp (contextual := true) (maxSteps := 1000000) (disch := omega) only [↓Sd, ↓So, ↓Sk, ↓den, ↓denA, Sa, Sb, Sc, Se, O1.d, O2.d, O3.d, cmI, arI, envOf, putN, ↓reduceIte, Nat.reduceLT, Nat.reduceSub, Nat.reduceAdd, Int.reduceAdd, Int.reduceEq, Int.reduceLT, Int.reduceLE, arr_pos, arr_neg, ]
      refine ⟨_, ?_, p', q', ⟨rfl, rfl⟩, a1, fun k hk h => a2 k hk (i2 k hk h), a3, fun a ha h1 h2 k hk => ?_, by omega, rfl⟩
      · omega
      · by_cases hax : (a : Int) = x
        · rw [← hr] at a4; exact a4 k (by rw [← hax]; exact hk)
        · exact a5 a ha h1 h2 hax k hk
/-- Is the state with a number reached? -/
noncomputable def rchB (s : Sy) (k : Nat) : Bool := dB (Rch (steps s) [num s.1 (fst0 s.1)] k)
theorem first_num {s : Sy} (h : valid s) : ∀ x ∈ [num s.1 (fst0 s.1)], 0 ≤ x ∧ x < (szn s.1 : Int) := by
  intro x hx
  have h1 := num_bd h.2.2.1 (fst0_in h.2.2.1)
  have h2 := szn_eq h
  simp only [List.mem_singleton] at hx
  omega
theorem C_impl_reachOf (s : Sy) (h : valid s) (Q : List AV → Prop) : mc.C f_impl_reachOf [⟨L V3, s.1⟩, ⟨L TR, s.2⟩] Q = Q [⟨L B, tab (rchB s) (szn s.1)⟩] := by
  have hz := szn_eq h
  refine Mc.Ends.c (mc.ends F_impl_reachOf ?_)
  simp (contextual := true) (maxSteps := 1000000) (disch := omega) only [↓Sd, ↓So, ↓Sk, ↓den, ↓denA, Sa, Sb, Sc, Se, O1.d, O2.d, O3.d, cmI, arI, envOf, putN, ↓reduceIte, Nat.reduceLT, Nat.reduceSub, Nat.reduceAdd, Int.reduceAdd, Int.reduceEq, Int.reduceLT, Int.reduceLE, arr_pos, arr_neg, tr_impl_reachOf, C_impl_nexts s h, C_impl_first s h.1.2, C_impl_number s _ h.1.2 h.2.2.1 (fst0_in h.2.2.1), C_impl_reach _ _ (szn s.1) (by simp) (by omega) (steps_tbl h) (first_num h) (by simp)]
  rfl
theorem getD_set_eq {α : Type} {l : List α} {i : Nat} {x d : α} (h : i < l.length) : (l.set i x).getD i d = x := by
  simp [List.getD_eq_getElem?_getD, h]
theorem upTo_nil' {p : Nat → Bool} : upTo p 0 = [] := rfl
theorem C_impl_listOf (l : List Bool) (hl : l.length ≤ 1048576) (Q : List AV → Prop) : mc.C f_impl_listOf [⟨L B, l⟩] Q = Q [⟨L I, upTo (fun k => l.getD k false) l.length⟩] := by
  refine Mc.Ends.c (mc.ends F_impl_listOf ?_)
  simp (contextual := true) (maxSteps := 1000000) (disch := omega) only [↓Sd, ↓So, ↓Sk, ↓den, ↓denA, Sa, Sb, Sc, Se, O1.d, O2.d, O3.d, cmI, arI, envOf, putN, ↓reduceIte, Nat.reduceLT, Nat.reduceSub, Nat.reduceAdd, Int.reduceAdd, Int.reduceEq, Int.reduceLT, Int.reduceLE, arr_pos, arr_neg, tr_impl_listOf]
  refine mc.lp_for (List Int) (fun i o => [⟨L B, l⟩, ⟨I, (l.length : Int)⟩, ⟨I, (i : Int)⟩, ⟨L I, o⟩]) (fun i o => o = upTo (fun k => l.getD k false) i) l.length 0 [] _ rfl (Nat.zero_le _) rfl ?_ ?_
  · rintro i o hi rfl
    have h1 := @upTo_len (fun k => l.getD k false) i
    simp (contextual := true) (maxSteps := 1000000) (disch := omega) only [↓Sd, ↓So, ↓Sk, ↓den, ↓denA, Sa, Sb, Sc, Se, O1.d, O2.d, O3.d, cmI, arI, envOf, putN, ↓reduceIte, Nat.reduceLT, Nat.reduceSub, Nat.reduceAdd, Int.reduceAdd, Int.reduceEq, Int.reduceLT, Int.reduceLE, arr_pos, arr_neg, ↓wpJoin, ]
    exact ⟨fun g => (upTo_s g).symm, fun g => (upTo_n g).symm⟩
  · rintro o rfl
    have h1 := @upTo_len (fun k => l.getD k false) l.length
    simp (contextual := true) (maxSteps := 1000000) (disch := omega) only [↓Sd, ↓So, ↓Sk, ↓den, ↓denA, Sa, Sb, Sc, Se, O1.d, O2.d, O3.d, cmI, arI, envOf, putN, ↓reduceIte, Nat.reduceLT, Nat.reduceSub, Nat.reduceAdd, Int.reduceAdd, Int.reduceEq, Int.reduceLT, Int.reduceLE, arr_pos, arr_neg, C_impl_clone_int (upTo (fun k => l.getD k false) l.length) (by omega)]
theorem C_impl_listOf_tab (p : Nat → Bool) (n : Nat) (hn : n ≤ 1048576) (Q : List AV → Prop) : mc.C f_impl_listOf [⟨L B, tab p n⟩] Q = Q [⟨L I, upTo p n⟩] := by
  rw [C_impl_listOf _ (by rw [tab_len]; exact hn), tab_len, upTo_congr fun k hk => tab_get hk]
/-- The numbers ahead of which k comes, with doubles. -/
def pastL (T : List (List Int)) (k : Nat) : Nat → List Int
  | 0 => []
  | m + 1 => pastL T k m ++ List.replicate ((T.getD m []).count (k : Int)) (m : Int)
theorem pastL_mem {T : List (List Int)} {k : Nat} {x : Int} : ∀ {m : Nat}, x ∈ pastL T k m ↔ ∃ a, a < m ∧ x = (a : Int) ∧ (k : Int) ∈ T.getD a []
  | 0 => by simp [pastL]
  | m + 1 => by
    simp only [pastL, List.mem_append, List.mem_replicate, pastL_mem (m := m)]
    constructor
    · rintro (⟨a, h1, h2, h3⟩ | ⟨h1, h2⟩)
      · exact ⟨a, by omega, h2, h3⟩
      · exact ⟨m, by omega, h2, List.count_pos_iff.1 (by omega)⟩
    · rintro ⟨a, h1, h2, h3⟩
      rcases Nat.lt_succ_iff_lt_or_eq.1 h1 with h | rfl
      · exact .inl ⟨a, h, h2, h3⟩
      · exact .inr ⟨by have := List.count_pos_iff.2 h3; omega, h2⟩
theorem pastL_len {T : List (List Int)} {k : Nat} (h : ∀ r ∈ T, r.length ≤ 8) : ∀ {m : Nat}, (pastL T k m).length ≤ 8 * m
  | 0 => by simp [pastL]
  | m + 1 => by
    have ih := pastL_len (k := k) h (m := m)
    have h1 : (T.getD m []).count (k : Int) ≤ (T.getD m []).length := List.count_le_length
    have h2 : (T.getD m []).length ≤ 8 := by
      by_cases hm : m < T.length
      · exact h _ (getD_mem hm)
      · rw [List.getD_eq_getElem?_getD, List.getElem?_eq_none (by omega)]; simp
    simp only [pastL, List.length_append, List.length_replicate]
    omega
/-- A table of few steps. -/
def Tb8 (T : List (List Int)) (n : Nat) : Prop := Tbl T n ∧ n ≤ 400 ∧ ∀ r ∈ T, r.length ≤ 8
theorem steps_tb8 {s : Sy} (h : valid s) : Tb8 (steps s) (szn s.1) := by
  refine ⟨steps_tbl h, (szn_eq h).2.2, fun r hr => ?_⟩
  simp only [steps, tab, List.mem_map, List.mem_range] at hr
  obtain ⟨i, hi, rfl⟩ := hr
  simp only [stepR, List.length_map]
  exact nxt_len h
theorem count_next {l : List Int} {j : Nat} {x : Int} (h : j < l.length) : (l.take (j + 1)).count x = (l.take j).count x + if l.getD j 0 = x then 1 else 0 := by
  rw [← take_next (d := 0) h, List.count_append, List.count_singleton]
  by_cases h1 : l.getD j 0 = x
  · simp [h1]
  · simp [h1]
def pasts (T : List (List Int)) (n : Nat) : List (List Int) := tab (fun k => pastL T k n) n
theorem C_impl_pasts (T : List (List Int)) (n : Nat) (ht : Tb8 T n) (Q : List AV → Prop) : mc.C f_impl_pasts [⟨L (L I), T⟩] Q = Q [⟨L (L I), pasts T n⟩] := by
  obtain ⟨ht, hn, h8⟩ := ht
  have hl := ht.1
  refine Mc.Ends.c (mc.ends F_impl_pasts ?_)
  simp (contextual := true) (maxSteps := 1000000) (disch := omega) only [↓Sd, ↓So, ↓Sk, ↓den, ↓denA, Sa, Sb, Sc, Se, O1.d, O2.d, O3.d, cmI, arI, envOf, putN, ↓reduceIte, Nat.reduceLT, Nat.reduceSub, Nat.reduceAdd, Int.reduceAdd, Int.reduceEq, Int.reduceLT, Int.reduceLE, arr_pos, arr_neg, tr_impl_pasts, hl]
  refine mc.lp_for (List (List Int)) (fun i o => [⟨L (L I), T⟩, ⟨I, (n : Int)⟩, ⟨I, (i : Int)⟩, ⟨L (L I), o⟩]) (fun i o => o = tab (fun k => pastL T k i) n) n 0 (List.replicate n []) _ rfl (Nat.zero_le _) ?_ ?_ ?_
  · rw [rep_tab]; rfl
  · rintro i o hi rfl
    have hrow := ht.row (i := i)
    have hrl : (T.getD i []).length ≤ 8 := h8 _ (getD_mem (by omega))
    simp (contextual := true) (maxSteps := 1000000) (disch := omega) only [↓Sd, ↓So, ↓Sk, ↓den, ↓denA, Sa, Sb, Sc, Se, O1.d, O2.d, O3.d, cmI, arI, envOf, putN, ↓reduceIte, Nat.reduceLT, Nat.reduceSub, Nat.reduceAdd, Int.reduceAdd, Int.reduceEq, Int.reduceLT, Int.reduceLE, arr_pos, arr_neg, hl]
    refine mc.lp_for (List (List Int)) (fun j o => [⟨I, (i : Int)⟩, ⟨L (L I), T⟩, ⟨I, (n : Int)⟩, ⟨I, (i : Int)⟩, ⟨L I, T.getD i []⟩, ⟨I, ((T.getD i []).length : Int)⟩, ⟨I, (j : Int)⟩, ⟨L (L I), o⟩]) (fun j o => o = tab (fun k => pastL T k i ++ List.replicate (((T.getD i []).take j).count (k : Int)) (i : Int)) n) (T.getD i []).length 0 _ _ rfl (Nat.zero_le _) ?_ ?_ ?_
    · exact tab_congr fun k _ => by simp
    · rintro j o hj rfl
      have hx := hrow _ (getD_mem (d := 0) hj)
      obtain ⟨x, hxe⟩ : ∃ x : Nat, (T.getD i []).getD j 0 = x := ⟨((T.getD i []).getD j 0).toNat, by omega⟩
      have hxn : x < n := by omega
      have hpl := pastL_len (k := x) h8 (m := i)
      have hc : ((T.getD i []).take j).count (x : Int) ≤ 8 := Nat.le_trans List.count_le_length (by rw [List.length_take]; omega)
      have hlen : (pastL T x i).length + (List.replicate (((T.getD i []).take j).count (x : Int)) (i : Int)).length ≤ 4000 := by
        rw [List.length_replicate]; omega
      simp (contextual := true) (maxSteps := 1000000) (disch := omega) only [↓Sd, ↓So, ↓Sk, ↓den, ↓denA, Sa, Sb, Sc, Se, O1.d, O2.d, O3.d, cmI, arI, envOf, putN, ↓reduceIte, Nat.reduceLT, Nat.reduceSub, Nat.reduceAdd, Int.reduceAdd, Int.reduceEq, Int.reduceLT, Int.reduceLE, arr_pos, arr_neg, hxe, tab_len, tab_get hxn, tab_set']
      refine tab_congr fun k hk => ?_
      rw [count_next hj, hxe]
      by_cases hkx : k = x
      · subst hkx; rw [if_pos rfl, if_pos rfl, List.replicate_succ', List.append_assoc]
      · rw [if_neg hkx, if_neg (by omega), Nat.add_zero]
    · rintro o rfl
      rw [List.take_length]
      simp (contextual := true) (maxSteps := 1000000) (disch := omega) only [↓Sd, ↓So, ↓Sk, ↓den, ↓denA, Sa, Sb, Sc, Se, O1.d, O2.d, O3.d, cmI, arI, envOf, putN, ↓reduceIte, Nat.reduceLT, Nat.reduceSub, Nat.reduceAdd, Int.reduceAdd, Int.reduceEq, Int.reduceLT, Int.reduceLE, arr_pos, arr_neg, ]
      rfl
  · rintro o rfl
    simp (contextual := true) (maxSteps := 1000000) (disch := omega) only [↓Sd, ↓So, ↓Sk, ↓den, ↓denA, Sa, Sb, Sc, Se, O1.d, O2.d, O3.d, cmI, arI, envOf, putN, ↓reduceIte, Nat.reduceLT, Nat.reduceSub, Nat.reduceAdd, Int.reduceAdd, Int.reduceEq, Int.reduceLT, Int.reduceLE, arr_pos, arr_neg, ]
    rfl
theorem pasts_len {T : List (List Int)} {n : Nat} : (pasts T n).length = n := tab_len
theorem pasts_get {T : List (List Int)} {n k : Nat} (h : k < n) : (pasts T n).getD k [] = pastL T k n := tab_get h
theorem pasts_tbl {T : List (List Int)} {n : Nat} (h : Tb8 T n) : Tbl (pasts T n) n := by
  refine ⟨tab_len, fun r hr => ?_⟩
  simp only [pasts, tab, List.mem_map, List.mem_range] at hr
  obtain ⟨k, hk, rfl⟩ := hr
  have h1 := pastL_len (k := k) h.2.2 (m := n)
  have h2 := h.2.1
  refine ⟨by omega, fun x hx => ?_⟩
  obtain ⟨a, h3, rfl, _⟩ := pastL_mem.1 hx
  omega
/-- What is told of the numbers of a set. -/
noncomputable def ovr (T : List (List Int)) (l : List Int) (k : Nat) : Bool := dB (∃ x ∈ l, (k : Int) ∈ T.getD x.toNat [])
theorem ovr_upTo {T : List (List Int)} {p : Nat → Bool} {n k : Nat} : ovr T (upTo p n) k = dB (behind T p n k) := by
  refine dB_congr ⟨?_, ?_⟩
  · rintro ⟨x, h1, h2⟩
    obtain ⟨a, h3, rfl, h4⟩ := upTo_mem.1 h1
    exact ⟨a, h3, h4, by simpa using h2⟩
  · rintro ⟨a, h1, h2, h3⟩
    exact ⟨(a : Int), upTo_mem.2 ⟨a, h1, rfl, h2⟩, by simpa using h3⟩
/-- Which numbers are ahead of marked ones. -/
def ahead (T : List (List Int)) (p : Nat → Bool) (n : Nat) (k : Nat) : Prop := ∃ b, b < n ∧ p b = true ∧ (b : Int) ∈ T.getD k []
theorem behind_pasts {T : List (List Int)} {p : Nat → Bool} {n k : Nat} (hk : k < n) : behind (pasts T n) p n k ↔ ahead T p n k := by
  constructor
  · rintro ⟨a, h1, h2, h3⟩
    rw [pasts_get h1] at h3
    obtain ⟨b, h4, h5, h6⟩ := pastL_mem.1 h3
    have : b = k := by omega
    subst this
    exact ⟨a, h1, h2, h6⟩
  · rintro ⟨b, h1, h2, h3⟩
    exact ⟨b, h1, h2, by rw [pasts_get h1]; exact pastL_mem.2 ⟨k, hk, rfl, h3⟩⟩
theorem C_spec_l2Has (l : List Int) (x : Int) (hl : l.length ≤ 1048576) (Q : List AV → Prop) : mc.C f_spec_l2Has [⟨L I, l⟩, ⟨I, x⟩] Q = Q [⟨B, dB (x ∈ l)⟩] := by
  refine Mc.Ends.c (mc.ends F_spec_l2Has ?_)
  generalize hK : dB (x ∈ l) = K
  simp (contextual := true) (maxSteps := 1000000) (disch := omega) only [↓Sd, ↓So, ↓Sk, ↓den, ↓denA, Sa, Sb, Sc, Se, O1.d, O2.d, O3.d, cmI, arI, envOf, putN, ↓reduceIte, Nat.reduceLT, Nat.reduceSub, Nat.reduceAdd, Int.reduceAdd, Int.reduceEq, Int.reduceLT, Int.reduceLE, arr_pos, arr_neg, tr_spec_l2Has]
  refine lp_all (fun i => [⟨L I, l⟩, ⟨I, x⟩, ⟨I, (i : Int)⟩]) (fun i => ¬ l.getD i 0 = x) l.length _ rfl ?_ ?_
  · intro i hi
    simp (contextual := true) (maxSteps := 1000000) (disch := omega) only [↓Sd, ↓So, ↓Sk, ↓den, ↓denA, Sa, Sb, Sc, Se, O1.d, O2.d, O3.d, cmI, arI, envOf, putN, ↓reduceIte, Nat.reduceLT, Nat.reduceSub, Nat.reduceAdd, Int.reduceAdd, Int.reduceEq, Int.reduceLT, Int.reduceLE, arr_pos, arr_neg, ]
    intro h
    rw [← hK, dB_t]
    rw [← h]; exact getD_mem hi
  · intro h
    simp (contextual := true) (maxSteps := 1000000) (disch := omega) only [↓Sd, ↓So, ↓Sk, ↓den, ↓denA, Sa, Sb, Sc, Se, O1.d, O2.d, O3.d, cmI, arI, envOf, putN, ↓reduceIte, Nat.reduceLT, Nat.reduceSub, Nat.reduceAdd, Int.reduceAdd, Int.reduceEq, Int.reduceLT, Int.reduceLE, arr_pos, arr_neg, ]
    rw [← hK, dB_f]
    intro hx
    obtain ⟨i, hi, rfl⟩ := List.getElem_of_mem hx
    exact h i hi (getD_lt hi)
def turned (T : List (List Int)) (n : Nat) : List (List Int) := tab (fun k => upTo (fun m => (T.getD m []).contains (k : Int)) n) n
theorem turned_tbl {T : List (List Int)} {n : Nat} (hn : n ≤ 1048576) : Tbl (turned T n) n := by
  refine ⟨tab_len, fun r hr => ?_⟩
  simp only [turned, tab, List.mem_map, List.mem_range] at hr
  obtain ⟨k, hk, rfl⟩ := hr
  refine ⟨Nat.le_trans upTo_len hn, fun x hx => ?_⟩
  obtain ⟨a, h3, rfl, _⟩ := upTo_mem.1 hx
  omega
theorem turned_get {T : List (List Int)} {n k a : Nat} (h : k < n) : (a : Int) ∈ (turned T n).getD k [] ↔ a < n ∧ (k : Int) ∈ T.getD a [] := by
  rw [turned, tab_get h, upTo_mem]
  constructor
  · rintro ⟨b, h1, h2, h3⟩
    have : a = b := by omega
    subst this
    exact ⟨h1, by simpa using h3⟩
  · rintro ⟨h1, h2⟩
    exact ⟨a, h1, rfl, by simpa using h2⟩
theorem ahead_turned {T : List (List Int)} {p : Nat → Bool} {n k : Nat} (hk : k < n) : ahead (turned T n) p n k ↔ behind T p n k := by
  constructor
  · rintro ⟨b, h1, h2, h3⟩
    exact ⟨b, h1, h2, ((turned_get hk).1 h3).2⟩
  · rintro ⟨b, h1, h2, h3⟩
    exact ⟨b, h1, h2, (turned_get hk).2 ⟨h1, h3⟩⟩
theorem dB_contains {l : List Int} {x : Int} : dB (x ∈ l) = l.contains x := by
  by_cases h : x ∈ l
  · rw [dB_t h]; simp [h]
  · rw [dB_f h]; simp [h]
theorem C_spec_l5Turned (T : List (List Int)) (n : Nat) (hn : n ≤ 1000) (ht : Tbl T n) (Q : List AV → Prop) : mc.C f_spec_l5Turned [⟨L (L I), T⟩] Q = Q [⟨L (L I), turned T n⟩] := by
  have hT := ht.1
  refine Mc.Ends.c (mc.ends F_spec_l5Turned ?_)
  simp (contextual := true) (maxSteps := 1000000) (disch := omega) only [↓Sd, ↓So, ↓Sk, ↓den, ↓denA, Sa, Sb, Sc, Se, O1.d, O2.d, O3.d, cmI, arI, envOf, putN, ↓reduceIte, Nat.reduceLT, Nat.reduceSub, Nat.reduceAdd, Int.reduceAdd, Int.reduceEq, Int.reduceLT, Int.reduceLE, arr_pos, arr_neg, tr_spec_l5Turned]
  refine mc.lp_for (List (List Int)) (fun i o => [⟨L (L I), T⟩, ⟨I, (i : Int)⟩, ⟨L (L I), o⟩]) (fun i o => o = tab (fun k => upTo (fun m => (T.getD m []).contains (k : Int)) n) i) n 0 [] _ rfl (Nat.zero_le _) rfl ?_ ?_
  · rintro i o hi rfl
    simp (contextual := true) (maxSteps := 1000000) (disch := omega) only [↓Sd, ↓So, ↓Sk, ↓den, ↓denA, Sa, Sb, Sc, Se, O1.d, O2.d, O3.d, cmI, arI, envOf, putN, ↓reduceIte, Nat.reduceLT, Nat.reduceSub, Nat.reduceAdd, Int.reduceAdd, Int.reduceEq, Int.reduceLT, Int.reduceLE, arr_pos, arr_neg, hT]
    refine mc.lp_for (List Int) (fun j o => [⟨L (L I), T⟩, ⟨I, (i : Int)⟩, ⟨I, (j : Int)⟩, ⟨L (L I), tab (fun k => upTo (fun m => (T.getD m []).contains (k : Int)) n) i⟩, ⟨L I, o⟩]) (fun j o => o = upTo (fun m => (T.getD m []).contains (i : Int)) j) n 0 [] _ rfl (Nat.zero_le _) rfl ?_ ?_
    · rintro j o hj rfl
      have h1 := @upTo_len (fun m => (T.getD m []).contains (i : Int)) j
      have hrl : (T.getD j []).length ≤ 1048576 := (ht.2 _ (getD_mem (by omega))).1
      simp (contextual := true) (maxSteps := 1000000) (disch := omega) only [↓Sd, ↓So, ↓Sk, ↓den, ↓denA, Sa, Sb, Sc, Se, O1.d, O2.d, O3.d, cmI, arI, envOf, putN, ↓reduceIte, Nat.reduceLT, Nat.reduceSub, Nat.reduceAdd, Int.reduceAdd, Int.reduceEq, Int.reduceLT, Int.reduceLE, arr_pos, arr_neg, ↓wpJoin, hT, C_spec_l2Has _ _ hrl, dB_contains]
      exact ⟨fun g => (upTo_s g).symm, fun g => (upTo_n g).symm⟩
    · rintro o rfl
      simp (contextual := true) (maxSteps := 1000000) (disch := omega) only [↓Sd, ↓So, ↓Sk, ↓den, ↓denA, Sa, Sb, Sc, Se, O1.d, O2.d, O3.d, cmI, arI, envOf, putN, ↓reduceIte, Nat.reduceLT, Nat.reduceSub, Nat.reduceAdd, Int.reduceAdd, Int.reduceEq, Int.reduceLT, Int.reduceLE, arr_pos, arr_neg, hT, tab_len]
      exact tab_next
  · rintro o rfl
    simp (contextual := true) (maxSteps := 1000000) (disch := omega) only [↓Sd, ↓So, ↓Sk, ↓den, ↓denA, Sa, Sb, Sc, Se, O1.d, O2.d, O3.d, cmI, arI, envOf, putN, ↓reduceIte, Nat.reduceLT, Nat.reduceSub, Nat.reduceAdd, Int.reduceAdd, Int.reduceEq, Int.reduceLT, Int.reduceLE, arr_pos, arr_neg, hT]
    rfl
theorem getD_set_ne {α : Type} {l : List α} {i j : Nat} {x d : α} (h : i ≠ j) : (l.set i x).getD j d = l.getD j d := by
  simp [List.getD_eq_getElem?_getD, List.getElem?_set, h]
/-- From place i on as before. -/
def Same {α : Type} (l s : List α) (d : α) (i : Nat) : Prop := s.length = l.length ∧ ∀ j, i ≤ j → s.getD j d = l.getD j d
theorem Same.refl {α : Type} {l : List α} {d : α} {i : Nat} : Same l l d i := ⟨rfl, fun _ _ => rfl⟩
theorem Same.set {α : Type} {l s : List α} {d x : α} {i : Nat} (h : Same l s d i) : Same l (s.set i x) d (i + 1) :=
  ⟨by rw [List.length_set]; exact h.1, fun j hj => by rw [getD_set_ne (by omega)]; exact h.2 j (by omega)⟩
theorem iD {k : IntKind} {a b : Int} (h : a = b) : @Eq (Ty.int k).D a b := h
theorem mk_IntS (l : List Int) (k : Int) (hk : 0 ≤ k ∧ k ≤ 9200000000000000000) (hl : l.length ≤ 1048576) (Q : List AV → Prop) : mc.C f_laws_markIntS [⟨L I, l⟩, ⟨I, k⟩] Q = Q [⟨I, k + l.length⟩, ⟨L I, tab (fun i => k + (i : Int)) l.length⟩] := by
  refine Mc.Ends.c (mc.ends F_laws_markIntS ?_)
  simp (contextual := true) (maxSteps := 1000000) (disch := omega) only [↓Sd, ↓So, ↓Sk, ↓den, ↓denA, Sa, Sb, Sc, Se, O1.d, O2.d, O3.d, cmI, arI, envOf, putN, ↓reduceIte, Nat.reduceLT, Nat.reduceSub, Nat.reduceAdd, Int.reduceAdd, Int.reduceEq, Int.reduceLT, Int.reduceLE, arr_pos, arr_neg, tr_laws_markIntS]
  refine mc.lp_for (List Int) (fun i s => [⟨I, k + (i : Int)⟩, ⟨I, (i : Int)⟩, ⟨L I, s⟩]) (fun i s => s = tab (fun i => k + (i : Int)) i ++ l.drop i) l.length 0 l _ (by simp) (Nat.zero_le _) (by simp [tab]) ?_ ?_
  · rintro i s hi rfl
    have hlen : (tab (fun i => k + (i : Int)) i).length + (l.drop i).length = l.length := by rw [tab_len, List.length_drop]; omega
    have e : (tab (fun i => k + (i : Int)) i ++ l.drop i).set i (k + i) = tab (fun i => k + (i : Int)) (i + 1) ++ l.drop (i + 1) := by
      rw [List.set_append_right _ _ (by rw [tab_len]; exact Nat.le_refl _), tab_len, Nat.sub_self, drop_cons (d := 0) hi, List.set_cons_zero, ← tab_next, List.append_assoc]; rfl
    simp (contextual := true) (maxSteps := 1000000) (disch := omega) only [↓Sd, ↓So, ↓Sk, ↓den, ↓denA, Sa, Sb, Sc, Se, O1.d, O2.d, O3.d, cmI, arI, envOf, putN, ↓reduceIte, Nat.reduceLT, Nat.reduceSub, Nat.reduceAdd, Int.reduceAdd, Int.reduceEq, Int.reduceLT, Int.reduceLE, arr_pos, arr_neg, e]
    exact ⟨_, ⟨iD (by omega), rfl⟩, rfl⟩
  · rintro s rfl
    rw [List.drop_length, List.append_nil]
    simp (contextual := true) (maxSteps := 1000000) (disch := omega) only [↓Sd, ↓So, ↓Sk, ↓den, ↓denA, Sa, Sb, Sc, Se, O1.d, O2.d, O3.d, cmI, arI, envOf, putN, ↓reduceIte, Nat.reduceLT, Nat.reduceSub, Nat.reduceAdd, Int.reduceAdd, Int.reduceEq, Int.reduceLT, Int.reduceLE, arr_pos, arr_neg, tab_len]
theorem held_IntS (n : Nat) (k : Int) (hk : 0 ≤ k ∧ k ≤ 9200000000000000000) (hn : n ≤ 1048576) (Q : List AV → Prop) : mc.C f_laws_heldIntS [⟨L I, tab (fun i => k + (i : Int)) n⟩, ⟨I, k⟩] Q = Q [⟨I, k + n⟩] := by
  refine Mc.Ends.c (mc.ends F_laws_heldIntS ?_)
  simp (contextual := true) (maxSteps := 1000000) (disch := omega) only [↓Sd, ↓So, ↓Sk, ↓den, ↓denA, Sa, Sb, Sc, Se, O1.d, O2.d, O3.d, cmI, arI, envOf, putN, ↓reduceIte, Nat.reduceLT, Nat.reduceSub, Nat.reduceAdd, Int.reduceAdd, Int.reduceEq, Int.reduceLT, Int.reduceLE, arr_pos, arr_neg, tr_laws_heldIntS]
  refine mc.lp_for Unit (fun i s => [⟨L I, tab (fun i => k + (i : Int)) n⟩, ⟨I, k + (i : Int)⟩, ⟨I, (i : Int)⟩]) (fun i s => True) n 0 () _ (by simp) (Nat.zero_le _) trivial ?_ ?_
  · rintro i - hi -
    simp (contextual := true) (maxSteps := 1000000) (disch := omega) only [↓Sd, ↓So, ↓Sk, ↓den, ↓denA, Sa, Sb, Sc, Se, O1.d, O2.d, O3.d, cmI, arI, envOf, putN, ↓reduceIte, Nat.reduceLT, Nat.reduceSub, Nat.reduceAdd, Int.reduceAdd, Int.reduceEq, Int.reduceLT, Int.reduceLE, arr_pos, arr_neg, tab_len, tab_get hi]
    exact iD (by omega)
  · rintro - -
    simp (contextual := true) (maxSteps := 1000000) (disch := omega) only [↓Sd, ↓So, ↓Sk, ↓den, ↓denA, Sa, Sb, Sc, Se, O1.d, O2.d, O3.d, cmI, arI, envOf, putN, ↓reduceIte, Nat.reduceLT, Nat.reduceSub, Nat.reduceAdd, Int.reduceAdd, Int.reduceEq, Int.reduceLT, Int.reduceLE, arr_pos, arr_neg, tab_len]
theorem mk_VarS (l : List Vr) (k : Int) (hk : 0 ≤ k ∧ k ≤ 9200000000000000000) (hl : Few l) {Q : List AV → Prop} (h : ∀ l', Q [⟨I, k + 3 * l.length⟩, ⟨L V3, l'⟩]) : mc.C f_laws_markVarS [⟨L V3, l⟩, ⟨I, k⟩] Q := by
  have hl := few_lim hl
  refine mc.c_of F_laws_markVarS ?_
  simp (contextual := true) (maxSteps := 1000000) (disch := omega) only [↓Sd, ↓So, ↓Sk, ↓den, ↓denA, Sa, Sb, Sc, Se, O1.d, O2.d, O3.d, cmI, arI, envOf, putN, ↓reduceIte, Nat.reduceLT, Nat.reduceSub, Nat.reduceAdd, Int.reduceAdd, Int.reduceEq, Int.reduceLT, Int.reduceLE, arr_pos, arr_neg, tr_laws_markVarS]
  refine mc.lp_for (List Vr) (fun i s => [⟨I, k + 3 * (i : Int)⟩, ⟨I, (i : Int)⟩, ⟨L V3, s⟩]) (fun i s => s.length = l.length) l.length 0 l _ (by simp) (Nat.zero_le _) rfl ?_ ?_
  · rintro i s hi hs
    simp (contextual := true) (maxSteps := 1000000) (disch := omega) only [↓Sd, ↓So, ↓Sk, ↓den, ↓denA, Sa, Sb, Sc, Se, O1.d, O2.d, O3.d, cmI, arI, envOf, putN, ↓reduceIte, Nat.reduceLT, Nat.reduceSub, Nat.reduceAdd, Int.reduceAdd, Int.reduceEq, Int.reduceLT, Int.reduceLE, arr_pos, arr_neg, List.length_set, getD_set_eq, List.set_set]
    exact ⟨_, ⟨iD (by omega), rfl⟩, by simp [hs]⟩
  · rintro s hs
    simp (contextual := true) (maxSteps := 1000000) (disch := omega) only [↓Sd, ↓So, ↓Sk, ↓den, ↓denA, Sa, Sb, Sc, Se, O1.d, O2.d, O3.d, cmI, arI, envOf, putN, ↓reduceIte, Nat.reduceLT, Nat.reduceSub, Nat.reduceAdd, Int.reduceAdd, Int.reduceEq, Int.reduceLT, Int.reduceLE, arr_pos, arr_neg, ]
    exact h s
theorem mk_TermS (l : List Tm) (k : Int) (hk : 0 ≤ k ∧ k ≤ 9200000000000000000) (hl : Few l) {Q : List AV → Prop} (h : ∀ l', Q [⟨I, k + 4 * l.length⟩, ⟨L T4, l'⟩]) : mc.C f_laws_markTermS [⟨L T4, l⟩, ⟨I, k⟩] Q := by
  have hl := few_lim hl
  refine mc.c_of F_laws_markTermS ?_
  simp (contextual := true) (maxSteps := 1000000) (disch := omega) only [↓Sd, ↓So, ↓Sk, ↓den, ↓denA, Sa, Sb, Sc, Se, O1.d, O2.d, O3.d, cmI, arI, envOf, putN, ↓reduceIte, Nat.reduceLT, Nat.reduceSub, Nat.reduceAdd, Int.reduceAdd, Int.reduceEq, Int.reduceLT, Int.reduceLE, arr_pos, arr_neg, tr_laws_markTermS]
  refine mc.lp_for (List Tm) (fun i s => [⟨I, k + 4 * (i : Int)⟩, ⟨I, (i : Int)⟩, ⟨L T4, s⟩]) (fun i s => s.length = l.length) l.length 0 l _ (by simp) (Nat.zero_le _) rfl ?_ ?_
  · rintro i s hi hs
    simp (contextual := true) (maxSteps := 1000000) (disch := omega) only [↓Sd, ↓So, ↓Sk, ↓den, ↓denA, Sa, Sb, Sc, Se, O1.d, O2.d, O3.d, cmI, arI, envOf, putN, ↓reduceIte, Nat.reduceLT, Nat.reduceSub, Nat.reduceAdd, Int.reduceAdd, Int.reduceEq, Int.reduceLT, Int.reduceLE, arr_pos, arr_neg, List.length_set, getD_set_eq, List.set_set]
    exact ⟨_, ⟨iD (by omega), rfl⟩, by simp [hs]⟩
  · rintro s hs
    simp (contextual := true) (maxSteps := 1000000) (disch := omega) only [↓Sd, ↓So, ↓Sk, ↓den, ↓denA, Sa, Sb, Sc, Se, O1.d, O2.d, O3.d, cmI, arI, envOf, putN, ↓reduceIte, Nat.reduceLT, Nat.reduceSub, Nat.reduceAdd, Int.reduceAdd, Int.reduceEq, Int.reduceLT, Int.reduceLE, arr_pos, arr_neg, ]
    exact h s
theorem mk_TermSS (l : List (List Tm)) (k : Int) (hk : 0 ≤ k ∧ k ≤ 9100000000000000000) (hl : Few l) (hl2 : ∀ x ∈ l, Few x) {Q : List AV → Prop} (h : ∀ k' l', k ≤ k' ∧ k' ≤ k + 4398046511104 → Q [⟨I, k'⟩, ⟨L (L T4), l'⟩]) : mc.C f_laws_markTermSS [⟨L (L T4), l⟩, ⟨I, k⟩] Q := by
  have hl := few_lim hl
  refine mc.c_of F_laws_markTermSS ?_
  simp (contextual := true) (maxSteps := 1000000) (disch := omega) only [↓Sd, ↓So, ↓Sk, ↓den, ↓denA, Sa, Sb, Sc, Se, O1.d, O2.d, O3.d, cmI, arI, envOf, putN, ↓reduceIte, Nat.reduceLT, Nat.reduceSub, Nat.reduceAdd, Int.reduceAdd, Int.reduceEq, Int.reduceLT, Int.reduceLE, arr_pos, arr_neg, tr_laws_markTermSS]
  refine mc.lp_for (Int × List (List Tm)) (fun i s => [⟨I, s.1⟩, ⟨I, (i : Int)⟩, ⟨L (L T4), s.2⟩]) (fun i s => (k ≤ s.1 ∧ s.1 ≤ k + 4194304 * (i : Int)) ∧ Same l s.2 [] i) l.length 0 (k, l) _ (by simp) (Nat.zero_le _) ⟨⟨by simp, by simp⟩, Same.refl⟩ ?_ ?_
  · rintro i ⟨m, s⟩ hi ⟨⟨hm1, hm2⟩, hs⟩
    simp only at hm1 hm2 hs
    have hsl := hs.1
    have hsi := hs.2 i (Nat.le_refl _)
    have hf := hl2 _ (getD_mem (d := []) hi)
    have hf' := few_lim hf
    simp (contextual := true) (maxSteps := 1000000) (disch := omega) only [↓Sd, ↓So, ↓Sk, ↓den, ↓denA, Sa, Sb, Sc, Se, O1.d, O2.d, O3.d, cmI, arI, envOf, putN, ↓reduceIte, Nat.reduceLT, Nat.reduceSub, Nat.reduceAdd, Int.reduceAdd, Int.reduceEq, Int.reduceLT, Int.reduceLE, arr_pos, arr_neg, hsi]
    refine mk_TermS _ m (by omega) hf fun l' => ?_
    simp (contextual := true) (maxSteps := 1000000) (disch := omega) only [↓Sd, ↓So, ↓Sk, ↓den, ↓denA, Sa, Sb, Sc, Se, O1.d, O2.d, O3.d, cmI, arI, envOf, putN, ↓reduceIte, Nat.reduceLT, Nat.reduceSub, Nat.reduceAdd, Int.reduceAdd, Int.reduceEq, Int.reduceLT, Int.reduceLE, arr_pos, arr_neg, ]
    exact ⟨(_, _), ⟨rfl, rfl⟩, ⟨by omega, by omega⟩, hs.set⟩
  · rintro ⟨m, s⟩ ⟨⟨hm1, hm2⟩, hs⟩
    simp only at hm1 hm2 hs
    have hsl := hs.1
    simp (contextual := true) (maxSteps := 1000000) (disch := omega) only [↓Sd, ↓So, ↓Sk, ↓den, ↓denA, Sa, Sb, Sc, Se, O1.d, O2.d, O3.d, cmI, arI, envOf, putN, ↓reduceIte, Nat.reduceLT, Nat.reduceSub, Nat.reduceAdd, Int.reduceAdd, Int.reduceEq, Int.reduceLT, Int.reduceLE, arr_pos, arr_neg, ]
    exact h m s ⟨by omega, by omega⟩
theorem mk_RuleS (l : List Ru) (k : Int) (hk : 0 ≤ k ∧ k ≤ 4400000000000000000) (hl : Few l) (hl2 : ∀ x ∈ l, FewRu x) {Q : List AV → Prop} (h : ∀ k' l', k ≤ k' ∧ k' ≤ k + 4611691515985526784 → Q [⟨I, k'⟩, ⟨L TR, l'⟩]) : mc.C f_laws_markRuleS [⟨L TR, l⟩, ⟨I, k⟩] Q := by
  have hl := few_lim hl
  refine mc.c_of F_laws_markRuleS ?_
  simp (contextual := true) (maxSteps := 1000000) (disch := omega) only [↓Sd, ↓So, ↓Sk, ↓den, ↓denA, Sa, Sb, Sc, Se, O1.d, O2.d, O3.d, cmI, arI, envOf, putN, ↓reduceIte, Nat.reduceLT, Nat.reduceSub, Nat.reduceAdd, Int.reduceAdd, Int.reduceEq, Int.reduceLT, Int.reduceLE, arr_pos, arr_neg, tr_laws_markRuleS]
  refine mc.lp_for (Int × List Ru) (fun i s => [⟨I, s.1⟩, ⟨I, (i : Int)⟩, ⟨L TR, s.2⟩]) (fun i s => (k ≤ s.1 ∧ s.1 ≤ k + 4398051753984 * (i : Int)) ∧ Same l s.2 ([], [], []) i) l.length 0 (k, l) _ (by simp) (Nat.zero_le _) ⟨⟨by simp, by simp⟩, Same.refl⟩ ?_ ?_
  · rintro i ⟨m, s⟩ hi ⟨⟨hm1, hm2⟩, hs⟩
    simp only at hm1 hm2 hs
    have hsl := hs.1
    have hsi := hs.2 i (Nat.le_refl _)
    obtain ⟨c1, c2, c3, c4⟩ := hl2 _ (getD_mem (d := ([], [], [])) hi)
    have c1' := few_lim c1
    have c2' := few_lim c2
    obtain ⟨r, hr⟩ : ∃ r, l.getD i ([], [], []) = r := ⟨_, rfl⟩
    rw [hr] at hsi c1 c2 c3 c4 c1' c2'
    simp (contextual := true) (maxSteps := 1000000) (disch := omega) only [↓Sd, ↓So, ↓Sk, ↓den, ↓denA, Sa, Sb, Sc, Se, O1.d, O2.d, O3.d, cmI, arI, envOf, putN, ↓reduceIte, Nat.reduceLT, Nat.reduceSub, Nat.reduceAdd, Int.reduceAdd, Int.reduceEq, Int.reduceLT, Int.reduceLE, arr_pos, arr_neg, hsi]
    refine mk_TermS r.1 m (by omega) c1 fun l1 => ?_
    simp (contextual := true) (maxSteps := 1000000) (disch := omega) only [↓Sd, ↓So, ↓Sk, ↓den, ↓denA, Sa, Sb, Sc, Se, O1.d, O2.d, O3.d, cmI, arI, envOf, putN, ↓reduceIte, Nat.reduceLT, Nat.reduceSub, Nat.reduceAdd, Int.reduceAdd, Int.reduceEq, Int.reduceLT, Int.reduceLE, arr_pos, arr_neg, hsi, List.length_set, getD_set_eq, List.set_set, mk_IntS r.2.1 (m + 4 * r.1.length) (by omega) (by omega)]
    refine mk_TermSS r.2.2 _ (by omega) c3 c4 fun k' l' hk' => ?_
    simp (contextual := true) (maxSteps := 1000000) (disch := omega) only [↓Sd, ↓So, ↓Sk, ↓den, ↓denA, Sa, Sb, Sc, Se, O1.d, O2.d, O3.d, cmI, arI, envOf, putN, ↓reduceIte, Nat.reduceLT, Nat.reduceSub, Nat.reduceAdd, Int.reduceAdd, Int.reduceEq, Int.reduceLT, Int.reduceLE, arr_pos, arr_neg, hsi, List.length_set, getD_set_eq, List.set_set]
    exact ⟨(_, _), ⟨rfl, rfl⟩, ⟨by omega, by omega⟩, hs.set⟩
  · rintro ⟨m, s⟩ ⟨⟨hm1, hm2⟩, hs⟩
    simp only at hm1 hm2 hs
    have hsl := hs.1
    simp (contextual := true) (maxSteps := 1000000) (disch := omega) only [↓Sd, ↓So, ↓Sk, ↓den, ↓denA, Sa, Sb, Sc, Se, O1.d, O2.d, O3.d, cmI, arI, envOf, putN, ↓reduceIte, Nat.reduceLT, Nat.reduceSub, Nat.reduceAdd, Int.reduceAdd, Int.reduceEq, Int.reduceLT, Int.reduceLE, arr_pos, arr_neg, ]
    exact h m s ⟨by omega, by omega⟩
theorem mk_System (s : Sy) (k : Int) (hk : 0 ≤ k ∧ k ≤ 4000000000000000000) (h : FewSy s) {Q : List AV → Prop} (hQ : ∀ k' v r, k ≤ k' ∧ k' ≤ k + 4611691515988672512 → Q [⟨I, k'⟩, ⟨L V3, v⟩, ⟨L TR, r⟩]) : mc.C f_laws_markSystem [⟨L V3, s.1⟩, ⟨L TR, s.2⟩, ⟨I, k⟩] Q := by
  obtain ⟨h1, h2, h3⟩ := h
  have h1' := few_lim h1
  refine mc.c_of F_laws_markSystem ?_
  simp (contextual := true) (maxSteps := 1000000) (disch := omega) only [↓Sd, ↓So, ↓Sk, ↓den, ↓denA, Sa, Sb, Sc, Se, O1.d, O2.d, O3.d, cmI, arI, envOf, putN, ↓reduceIte, Nat.reduceLT, Nat.reduceSub, Nat.reduceAdd, Int.reduceAdd, Int.reduceEq, Int.reduceLT, Int.reduceLE, arr_pos, arr_neg, tr_laws_markSystem]
  refine mk_VarS _ k (by omega) h1 fun l' => ?_
  simp (contextual := true) (maxSteps := 1000000) (disch := omega) only [↓Sd, ↓So, ↓Sk, ↓den, ↓denA, Sa, Sb, Sc, Se, O1.d, O2.d, O3.d, cmI, arI, envOf, putN, ↓reduceIte, Nat.reduceLT, Nat.reduceSub, Nat.reduceAdd, Int.reduceAdd, Int.reduceEq, Int.reduceLT, Int.reduceLE, arr_pos, arr_neg, ]
  refine mk_RuleS _ _ (by omega) h2 h3 fun k' r hk' => ?_
  simp (contextual := true) (maxSteps := 1000000) (disch := omega) only [↓Sd, ↓So, ↓Sk, ↓den, ↓denA, Sa, Sb, Sc, Se, O1.d, O2.d, O3.d, cmI, arI, envOf, putN, ↓reduceIte, Nat.reduceLT, Nat.reduceSub, Nat.reduceAdd, Int.reduceAdd, Int.reduceEq, Int.reduceLT, Int.reduceLE, arr_pos, arr_neg, ]
  exact hQ k' _ r ⟨by omega, by omega⟩

/-! ### Laws -/
theorem upTo_few {p : Nat → Bool} {s : Sy} (h : valid s) : (upTo p (szn s.1)).length ≤ 400 := by
  have h1 := @upTo_len p (szn s.1)
  have h2 := szn_eq h
  omega
theorem ite_few {c : Prop} [Decidable c] {l : List Int} (h : c → l.length ≤ 400) : (if c then l else []).length ≤ 400 := by
  split
  · rename_i g; exact h g
  · simp
theorem few_i {l : List Int} (h : l.length ≤ 1048576) : Few l := h
theorem wrap_u64 {n : Nat} (h : n < 18446744073709551616) : IntKind.u64.wrap (n : Int) = n := by
  unfold IntKind.wrap
  simp only [IntKind.bits, IntKind.signed]
  have : ((n : Int) % (2 : Int) ^ 64) = n := by omega
  simpa using this
theorem fd64 {n : Nat} (h : n < 4294967296) : (n : Int).fdiv (2 ^ min (Int.toNat 32) IntKind.u64.bits) = 0 := by
  have : min (Int.toNat 32) IntKind.u64.bits = 32 := by decide
  rw [this, Int.fdiv_eq_ediv_of_nonneg _ (by decide)]
  omega
theorem sh64 {n : Nat} (h : n < 4294967296) : shI false .u64 (n : Int) 32 = 0 := by
  unfold shI
  simp only [Bool.false_eq_true, if_false]
  exact fd64 h
theorem and64 {n : Nat} (h : n < 4294967296) : IntKind.u64.wrap ((BitVec.ofInt IntKind.u64.bits (n : Int) &&& BitVec.ofInt IntKind.u64.bits 4294967295).toNat : Int) = n := by
  have h1 : (BitVec.ofInt IntKind.u64.bits (n : Int) &&& BitVec.ofInt IntKind.u64.bits 4294967295).toNat = n := by
    rw [BitVec.toNat_and]
    have e1 : (BitVec.ofInt IntKind.u64.bits (n : Int)).toNat = n := by
      rw [BitVec.toNat_ofInt]
      show Int.toNat ((n : Int) % (2 : Int) ^ 64) = n
      omega
    have e2 : (BitVec.ofInt IntKind.u64.bits 4294967295).toNat = 2 ^ 32 - 1 := by decide
    rw [e1, e2, Nat.and_two_pow_sub_one_eq_mod, Nat.mod_eq_of_lt h]
  rw [h1]
  exact wrap_u64 (by omega)
theorem C_math_bits_Mul1 (n : Nat) (h : n ≤ 1048576) (Q : List AV → Prop) : mc.C f_math_bits_Mul [⟨.int .u64, (1 : Int)⟩, ⟨.int .u64, (n : Int)⟩] Q = Q [⟨.int .u64, (0 : Int)⟩, ⟨.int .u64, (n : Int)⟩] := by
  have e1 : mc.C f_math_bits_Mul64 [⟨.int .u64, (1 : Int)⟩, ⟨.int .u64, (n : Int)⟩] = fun Q => Q [⟨.int .u64, (0 : Int)⟩, ⟨.int .u64, (n : Int)⟩] := by
    funext Q
    refine Mc.Ends.c (mc.ends F_math_bits_Mul64 ?_)
    have s1 : shI false .u64 1 32 = 0 := sh64 (n := 1) (by omega)
    have s0 : shI false .u64 0 32 = 0 := sh64 (n := 0) (by omega)
    have sn := sh64 (n := n) (by omega)
    have a1 : IntKind.u64.wrap ((BitVec.ofInt IntKind.u64.bits 1 &&& BitVec.ofInt IntKind.u64.bits 4294967295).toNat : Int) = 1 := and64 (n := 1) (by omega)
    have a0 : IntKind.u64.wrap ((BitVec.ofInt IntKind.u64.bits 0 &&& BitVec.ofInt IntKind.u64.bits 4294967295).toNat : Int) = 0 := and64 (n := 0) (by omega)
    have an := and64 (n := n) (by omega)
    have w := wrap_u64 (n := n) (by omega)
    have w0 : IntKind.u64.wrap 0 = 0 := by decide
    simp (contextual := true) (maxSteps := 1000000) (disch := omega) only [↓Sd, ↓So, ↓Sk, ↓den, ↓denA, Sa, Sb, Sc, Se, O1.d, O2.d, O3.d, cmI, arI, envOf, putN, ↓reduceIte, Nat.reduceLT, Nat.reduceSub, Nat.reduceAdd, Int.reduceAdd, Int.reduceEq, Int.reduceLT, Int.reduceLE, arr_pos, arr_neg, tr_math_bits_Mul64, s1, s0, sn, a1, an, a0, w, w0, Int.zero_mul, Int.mul_zero, Int.one_mul, Int.add_zero, Int.zero_add]
  refine Mc.Ends.c (mc.ends F_math_bits_Mul ?_)
  simp (contextual := true) (maxSteps := 1000000) (disch := omega) only [↓Sd, ↓So, ↓Sk, ↓den, ↓denA, Sa, Sb, Sc, Se, O1.d, O2.d, O3.d, cmI, arI, envOf, putN, ↓reduceIte, Nat.reduceLT, Nat.reduceSub, Nat.reduceAdd, Int.reduceAdd, Int.reduceEq, Int.reduceLT, Int.reduceLE, arr_pos, arr_neg, tr_math_bits_Mul, e1]
def reps (k n : Nat) (v : Int) : List Int := List.replicate k v ++ List.replicate (n - k) 0
theorem reps_len {k n : Nat} {v : Int} (h : k ≤ n) : (reps k n v).length = n := by simp [reps]; omega
theorem reps_over0 {n : Nat} {v : Int} : overL (List.replicate n (0 : Int)) [v] = reps (min 1 n) n v := by
  cases n with
  | zero => simp [overL, reps]
  | succ n =>
    have : min 1 (n + 1) = 1 := by omega
    rw [this]
    simp [overL, reps, List.replicate_succ]
theorem reps_next {k n : Nat} {v : Int} (h : k ≤ n) : (reps k n v).take k ++ overL (((reps k n v).take n).drop k) (((reps k n v).take k).drop 0) ++ (reps k n v).drop n = reps (k + min k (n - k)) n v := by
  have e1 : (reps k n v).take k = List.replicate k v := by simp [reps]
  have e2 : (reps k n v).take n = reps k n v := List.take_of_length_le (by rw [reps_len h]; omega)
  have e3 : (reps k n v).drop n = [] := List.drop_eq_nil_of_le (by rw [reps_len h]; omega)
  have e4 : (reps k n v).drop k = List.replicate (n - k) 0 := by simp [reps]
  rw [e1, e2, e3, e4, List.drop_zero, List.append_nil]
  unfold overL reps
  rw [List.length_replicate, List.length_replicate, List.take_replicate, List.drop_replicate, ← List.append_assoc, List.replicate_append_replicate]
  congr 2
  · omega
  · omega
theorem C_slices_Repeat (v : Int) (n : Nat) (h : n ≤ 1048576) (Q : List AV → Prop) : mc.C f_slices_Repeat_Sint_int [⟨L I, [v]⟩, ⟨I, (n : Int)⟩] Q = Q [⟨L I, List.replicate n v⟩] := by
  refine Mc.Ends.c (mc.ends F_slices_Repeat_Sint_int ?_)
  have w1 : IntKind.u64.wrap 1 = 1 := by decide
  have w := wrap_u64 (n := n) (by omega)
  simp (contextual := true) (maxSteps := 1000000) (disch := omega) only [↓Sd, ↓So, ↓Sk, ↓den, ↓denA, Sa, Sb, Sc, Se, O1.d, O2.d, O3.d, cmI, arI, envOf, putN, ↓reduceIte, Nat.reduceLT, Nat.reduceSub, Nat.reduceAdd, Int.reduceAdd, Int.reduceEq, Int.reduceLT, Int.reduceLE, arr_pos, arr_neg, tr_slices_Repeat_Sint_int, w1, w, C_math_bits_Mul1 n h, reps_over0, List.length_replicate]
  refine mc.lp_inv (fun j us => ∃ k : Nat, us = [⟨I, (k : Int)⟩, ⟨L I, reps k n v⟩] ∧ k ≤ n ∧ (n = 0 ∨ 1 ≤ k) ∧ j = n - k) (n - min 1 n) _ ⟨min 1 n, ?_, Nat.min_le_right .., by omega, rfl⟩ ?_
  · rw [show (if (n : Int) < 1 then (n : Int) else 1) = ((min 1 n : Nat) : Int) by omega]
  rintro j us ⟨k, rfl, i1, i2, rfl⟩
  have hl := reps_len (v := v) i1
  have l1 : (List.drop k (List.take n (reps k n v))).length = n - k := by rw [List.length_drop, List.length_take, hl]; omega
  have l2 : (List.drop 0 (List.take k (reps k n v))).length = k := by rw [List.length_drop, List.length_take, hl]; omega
  simp (contextual := true) (maxSteps := 1000000) (disch := omega) only [↓Sd, ↓So, ↓Sk, ↓den, ↓denA, Sa, Sb, Sc, Se, O1.d, O2.d, O3.d, cmI, arI, envOf, putN, ↓reduceIte, Nat.reduceLT, Nat.reduceSub, Nat.reduceAdd, Int.reduceAdd, Int.reduceEq, Int.reduceLT, Int.reduceLE, arr_pos, arr_neg, ↓wpJoin, hl, l1, l2, reps_next i1]
  refine ⟨fun g => ?_, fun g => ?_⟩
  · have hkn : k < n := Int.ofNat_lt.1 g
    refine ⟨_, ?_, k + min k (n - k), ⟨?_, rfl⟩, by omega, by omega, rfl⟩
    · omega
    rw [show (if ((n - k : Nat) : Int) < (k : Int) then ((n - k : Nat) : Int) else (k : Int)) = ((min k (n - k) : Nat) : Int) by omega]
    rw [wrap_id (by omega) (by omega)]
    exact (Int.natCast_add _ _).symm
  · have : k = n := by have : ¬ k < n := fun hh => g (Int.ofNat_lt.2 hh)
                       omega
    subst this
    simp [reps]
/-- What is reached within so many steps. -/
def Lay (T : List (List Int)) (F : List Int) : Nat → Nat → Prop
  | 0, k => (k : Int) ∈ F
  | d + 1, k => Lay T F d k ∨ ∃ a, Lay T F d a ∧ (k : Int) ∈ T.getD a []
theorem least {P : Nat → Prop} (h : ∃ d, P d) : ∃ d, P d ∧ ∀ e, e < d → ¬ P e := by
  obtain ⟨d, hd⟩ := h
  induction d using Nat.strongRecOn with
  | ind d ih =>
    by_cases g : ∃ e, e < d ∧ P e
    · obtain ⟨e, h1, h2⟩ := g; exact ih e h1 h2
    · exact ⟨d, hd, fun e he hp => g ⟨e, he, hp⟩⟩
open Classical in
/-- How many steps it is, or -1. -/
noncomputable def dst (T : List (List Int)) (F : List Int) (k : Nat) : Int := if h : ∃ d, Lay T F d k then ((Classical.choose (least h) : Nat) : Int) else -1
theorem Lay.up {T : List (List Int)} {F : List Int} {d e k : Nat} (h : Lay T F d k) (he : d ≤ e) : Lay T F e k := by
  induction e with
  | zero => have : d = 0 := by omega
            subst this; exact h
  | succ e ih =>
    by_cases g : d ≤ e
    · exact .inl (ih g)
    · have : d = e + 1 := by omega
      subst this; exact h
theorem Lay.rch {T : List (List Int)} {F : List Int} : ∀ {d k : Nat}, Lay T F d k → Rch T F k
  | 0, k, h => .base h
  | d + 1, k, h => h.elim Lay.rch fun ⟨a, h1, h2⟩ => .step (Lay.rch h1) h2
theorem rch_lay {T : List (List Int)} {F : List Int} {k : Nat} (h : Rch T F k) : ∃ d, Lay T F d k := by
  induction h with
  | base h => exact ⟨0, h⟩
  | step _ h ih => obtain ⟨d, hd⟩ := ih; exact ⟨d + 1, .inr ⟨_, hd, h⟩⟩
/-- What tells distances. -/
structure IsDst (T : List (List Int)) (F : List Int) (n : Nat) (f : Nat → Int) : Prop where
  ge : ∀ k, k < n → -1 ≤ f k
  zero : ∀ k, k < n → (f k = 0 ↔ (k : Int) ∈ F)
  pre : ∀ k, k < n → 0 < f k → ∃ a, a < n ∧ f a + 1 = f k ∧ (k : Int) ∈ T.getD a []
  nxt : ∀ a, a < n → 0 ≤ f a → ∀ k : Nat, (k : Int) ∈ T.getD a [] → 0 ≤ f k ∧ f k ≤ f a + 1
theorem IsDst.eq {T : List (List Int)} {F : List Int} {n : Nat} {f : Nat → Int} (ht : Tbl T n) (hF : ∀ x ∈ F, 0 ≤ x ∧ x < n) (h : IsDst T F n f) : ∀ k, k < n → f k = dst T F k := by
  have a1 : ∀ d k, k < n → f k = (d : Nat) → Lay T F d k := by
    intro d
    induction d with
    | zero => intro k hk h1; exact (h.zero k hk).1 h1
    | succ d ih =>
      intro k hk h1
      obtain ⟨a, b1, b2, b3⟩ := h.pre k hk (by omega)
      exact .inr ⟨a, ih a b1 (by omega), b3⟩
  have a2 : ∀ d k, Lay T F d k → k < n ∧ 0 ≤ f k ∧ f k ≤ (d : Nat) := by
    intro d
    induction d with
    | zero => intro k h1; have := hF _ h1; have hk : k < n := by omega
              have := (h.zero k hk).2 h1; exact ⟨hk, by omega, by omega⟩
    | succ d ih =>
      intro k h1
      rcases h1 with h1 | ⟨a, h1, h2⟩
      · have := ih k h1; exact ⟨this.1, this.2.1, by omega⟩
      · obtain ⟨b1, b2, b3⟩ := ih a h1
        have := ht.row _ h2
        have := h.nxt a b1 b2 k h2
        exact ⟨by omega, this.1, by omega⟩
  intro k hk
  unfold dst
  by_cases g : ∃ d, Lay T F d k
  · rw [dif_pos g]
    obtain ⟨b1, b2⟩ := Classical.choose_spec (least g)
    generalize Classical.choose (least g) = d at b1 b2
    obtain ⟨-, c1, c2⟩ := a2 d k b1
    have c3 := a1 (f k).toNat k hk (by omega)
    have : ¬ (f k).toNat < d := fun hh => b2 _ hh c3
    omega
  · rw [dif_neg g]
    have := h.ge k hk
    by_cases g2 : 0 ≤ f k
    · exact absurd ⟨_, a1 (f k).toNat k hk (by omega)⟩ g
    · omega
theorem dst_rch {T : List (List Int)} {F : List Int} {k : Nat} : 0 ≤ dst T F k ↔ Rch T F k := by
  unfold dst
  constructor
  · intro h
    by_cases g : ∃ d, Lay T F d k
    · obtain ⟨d, hd⟩ := g; exact hd.rch
    · rw [dif_neg g] at h; omega
  · intro h
    rw [dif_pos (rch_lay h)]; omega
theorem tab_one {n m : Nat} (hm : m < n) : (List.replicate n (-1 : Int)).set m 0 = tab (fun k => if k = m then 0 else -1) n := by
  rw [rep_tab, tab_set']
/-- What holds of distances as they are found. -/
structure Bfs (T : List (List Int)) (m n : Nat) (f : Nat → Int) (q : List Nat) (ex : Nat → Prop) : Prop where
  ge : ∀ k, k < n → -1 ≤ f k
  zero : ∀ k, k < n → (f k = 0 ↔ k = m)
  pre : ∀ k, k < n → 0 < f k → ∃ a, a < n ∧ f a + 1 = f k ∧ (k : Int) ∈ T.getD a []
  inq : ∀ x ∈ q, x < n ∧ 0 ≤ f x
  sorted : q.Pairwise fun a b => f a ≤ f b
  closed : ∀ a, a < n → 0 ≤ f a → a ∉ q → ¬ ex a → ∀ k : Nat, (k : Int) ∈ T.getD a [] → 0 ≤ f k ∧ f k ≤ f a + 1
  top : ∀ k, k < n → f k + cntF (fun k => decide (0 ≤ f k)) n ≤ n
theorem cntF_congr {p q : Nat → Bool} {n : Nat} (h : ∀ k, k < n → p k = q k) : cntF p n = cntF q n := by
  unfold cntF
  rw [upTo_congr fun k hk => by rw [h k hk]]
theorem Bfs.visit {T : List (List Int)} {m n x y : Nat} {f : Nat → Int} {q : List Nat} (h : Bfs T m n f q (· = x)) (hx : x < n) (hfx : 0 ≤ f x) (hy : y < n) (hfy : f y < 0) (hm : m < n) (hT : (y : Int) ∈ T.getD x []) (hb : ∀ k, k < n → f k ≤ f x + 1) :
    Bfs T m n (fun k => if k = y then f x + 1 else f k) (q ++ [y]) (· = x) ∧ cntF (fun k => decide (0 ≤ (if k = y then f x + 1 else f k))) n + 1 = cntF (fun k => decide (0 ≤ f k)) n := by
  have hxy : ¬ x = y := by rintro rfl; omega
  have hc : cntF (fun k => decide (0 ≤ (if k = y then f x + 1 else f k))) n + 1 = cntF (fun k => decide (0 ≤ f k)) n := by
    have := cntF_set (p := fun k => decide (0 ≤ f k)) (j := y) (by simp; omega) (n := n) hy
    rw [← this]
    congr 1
    refine cntF_congr fun k _ => ?_
    by_cases g : k = y
    · simp [g]; omega
    · simp [g]
  refine ⟨⟨fun k hk => ?_, fun k hk => ?_, fun k hk h1 => ?_, fun z hz => ?_, ?_, fun a ha h1 h2 h3 k hk => ?_, fun k hk => ?_⟩, hc⟩
  · have := h.ge k hk; split <;> omega
  · have := h.zero k hk
    have := h.zero m hm
    split
    · rename_i g; subst g
      constructor
      · intro h1; omega
      · intro h1; subst h1; omega
    · assumption
  · by_cases g : k = y
    · subst g
      exact ⟨x, hx, by simp [hxy], hT⟩
    · simp only [g, if_false] at h1 ⊢
      obtain ⟨a, b1, b2, b3⟩ := h.pre k hk h1
      have : ¬ a = y := by rintro rfl; omega
      exact ⟨a, b1, by simp [this, b2], b3⟩
  · rcases List.mem_append.1 hz with hz | hz
    · have := h.inq z hz
      refine ⟨this.1, ?_⟩
      split <;> omega
    · simp only [List.mem_singleton] at hz
      subst hz
      exact ⟨hy, by simp; omega⟩
  · refine List.pairwise_append.2 ⟨?_, List.pairwise_singleton _ _, ?_⟩
    · refine h.sorted.imp_of_mem ?_
      intro a b ha hb2 hab
      have h1 := (h.inq a ha).2
      have h2 := (h.inq b hb2).2
      have e1 : ¬ a = y := by rintro rfl; omega
      have e2 : ¬ b = y := by rintro rfl; omega
      simp only [e1, e2, if_false]; exact hab
    · intro a ha b hb2
      simp only [List.mem_singleton] at hb2
      subst hb2
      have h1 := h.inq a ha
      have e1 : ¬ a = b := by rintro rfl; omega
      simp only [e1, if_false, if_true]
      exact hb a h1.1
  · simp only [List.mem_append, List.mem_singleton, not_or] at h2
    have e1 : ¬ a = y := h2.2
    simp only [e1, if_false] at h1 ⊢
    have := h.closed a ha h1 h2.1 h3 k hk
    have e2 : ¬ k = y := by rintro rfl; omega
    simp only [e2, if_false]; exact this
  · have := h.top k hk
    have := h.top x hx
    split <;> omega
theorem C_impl_steps (T : List (List Int)) (m n : Nat) (hm : m < n) (hn : n ≤ 1000) (ht : Tbl T n) (Q : List AV → Prop) : mc.C f_impl_steps [⟨L (L I), T⟩, ⟨I, (m : Int)⟩] Q = Q [⟨L I, tab (dst T [(m : Int)]) n⟩] := by
  have hl := ht.1
  refine Mc.Ends.c (mc.ends F_impl_steps ?_)
  simp (contextual := true) (maxSteps := 1000000) (disch := omega) only [↓Sd, ↓So, ↓Sk, ↓den, ↓denA, Sa, Sb, Sc, Se, O1.d, O2.d, O3.d, cmI, arI, envOf, putN, ↓reduceIte, Nat.reduceLT, Nat.reduceSub, Nat.reduceAdd, Int.reduceAdd, Int.reduceEq, Int.reduceLT, Int.reduceLE, arr_pos, arr_neg, tr_impl_steps, hl, C_slices_Repeat (-1) n (by omega), List.length_replicate, tab_one hm]
  have hc0 : cntF (fun k => decide ((0 : Int) ≤ if k = m then 0 else -1)) n ≤ n := cntF_le
  refine mc.lp_inv (fun j us => ∃ (f : Nat → Int) (q : List Nat), us = [⟨L (L I), T⟩, ⟨L I, tab f n⟩, ⟨L I, q.map Int.ofNat⟩] ∧ Bfs T m n f q (fun _ => False) ∧ (∀ x q', q = x :: q' → ∀ k, k < n → f k ≤ f x + 1) ∧ q.length + cntF (fun k => decide (0 ≤ f k)) n ≤ 2000 ∧
    j = 2 * cntF (fun k => decide (0 ≤ f k)) n + q.length) _ _ ⟨fun k => if k = m then 0 else -1, [m], rfl, ⟨?_, ?_, ?_, ?_, ?_, ?_, ?_⟩, ?_, ?_, rfl⟩ ?_
  · intro k _; split <;> omega
  · intro k _; split <;> omega
  · intro k _ h; split at h <;> omega
  · intro x hx; simp only [List.mem_singleton] at hx; subst hx; exact ⟨hm, by simp⟩
  · exact List.pairwise_singleton _ _
  · intro a ha h1 h2
    simp only [List.mem_singleton] at h2
    simp only [h2, if_false] at h1
    omega
  · intro k hk
    have hc := cntF_set (p := fun _ => false) (j := m) rfl (n := n) hm
    have : cntF (fun _ => false) n ≤ n := cntF_le
    rw [cntF_congr (q := fun k => if k = m then true else false) fun k _ => by by_cases g : k = m <;> simp [g]]
    split <;> omega
  · intro x q' hq k hk
    simp only [List.cons.injEq] at hq
    rw [← hq.1]
    simp only [if_true]
    split <;> omega
  · simp only [List.length_singleton]; omega
  rintro j us ⟨f, q, rfl, i1, i2, i3, rfl⟩
  cases q with
  | nil =>
    simp (contextual := true) (maxSteps := 1000000) (disch := omega) only [↓Sd, ↓So, ↓Sk, ↓den, ↓denA, Sa, Sb, Sc, Se, O1.d, O2.d, O3.d, cmI, arI, envOf, putN, ↓reduceIte, Nat.reduceLT, Nat.reduceSub, Nat.reduceAdd, Int.reduceAdd, Int.reduceEq, Int.reduceLT, Int.reduceLE, arr_pos, arr_neg, List.map_nil]
    refine tab_congr (IsDst.eq ht (by intro x hx; simp only [List.mem_singleton] at hx; omega) ⟨i1.ge, fun k hk => ?_, i1.pre, fun a ha h1 k hk => i1.closed a ha h1 (by simp) (by simp) k hk⟩)
    rw [i1.zero k hk]
    simp only [List.mem_singleton]
    omega
  | cons x q =>
    have hb := i2 x q rfl
    obtain ⟨hx, hfx⟩ := i1.inq x (List.mem_cons_self ..)
    have hso := List.pairwise_cons.1 i1.sorted
    have hrow := ht.row (i := x)
    have hrl : (T.getD x []).length ≤ 1048576 := (ht.2 _ (getD_mem (by omega))).1
    simp only [List.length_cons] at i3
    obtain ⟨row, hr⟩ : ∃ row, T.getD x [] = row := ⟨_, rfl⟩
    rw [hr] at hrow hrl
    have e0 : Int.ofNat x = (x : Int) := rfl
    simp (contextual := true) (maxSteps := 1000000) (disch := omega) only [↓Sd, ↓So, ↓Sk, ↓den, ↓denA, Sa, Sb, Sc, Se, O1.d, O2.d, O3.d, cmI, arI, envOf, putN, ↓reduceIte, Nat.reduceLT, Nat.reduceSub, Nat.reduceAdd, Int.reduceAdd, Int.reduceEq, Int.reduceLT, Int.reduceLE, arr_pos, arr_neg, List.map_cons, hl, e0, Int.toNat_natCast, hr, List.drop_succ_cons, List.drop_zero, List.length_cons]
    refine mc.lp_for ((Nat → Int) × List Nat) (fun j s => [⟨L (L I), T⟩, ⟨I, (x : Int)⟩, ⟨L I, row⟩, ⟨I, (row.length : Int)⟩, ⟨I, (j : Int)⟩, ⟨L I, tab s.1 n⟩, ⟨L I, s.2.map Int.ofNat⟩]) (fun j s => Bfs T m n s.1 s.2 (· = x) ∧ s.1 x = f x ∧ (∀ k, k < n → s.1 k ≤ f x + 1) ∧ (∀ y ∈ s.2, f x ≤ s.1 y) ∧
      (∀ k : Nat, (k : Int) ∈ row.take j → 0 ≤ s.1 k) ∧ s.2.length + cntF (fun k => decide (0 ≤ s.1 k)) n = q.length + cntF (fun k => decide (0 ≤ f k)) n ∧ cntF (fun k => decide (0 ≤ s.1 k)) n ≤ cntF (fun k => decide (0 ≤ f k)) n) row.length 0 (f, q) _ rfl (Nat.zero_le _)
      ⟨⟨i1.ge, i1.zero, i1.pre, fun y hy => i1.inq y (List.mem_cons_of_mem _ hy), hso.2, fun a h1 h2 h3 h4 => i1.closed a h1 h2 (by simp only [List.mem_cons, not_or]; exact ⟨h4, h3⟩) (by simp), i1.top⟩, rfl, hb, hso.1, by simp, rfl, Nat.le_refl _⟩ ?_ ?_
    · rintro j ⟨f', q'⟩ hj ⟨a1, a2, a3, a4, a5, a6, a7⟩
      simp only at a1 a2 a3 a4 a5 a6 a7
      have hy := hrow _ (getD_mem (d := 0) hj)
      obtain ⟨y, hy2⟩ : ∃ y : Nat, row.getD j 0 = y := ⟨(row.getD j 0).toNat, by omega⟩
      have hyn : y < n := by omega
      have hyT : (y : Int) ∈ T.getD x [] := by rw [hr, ← hy2]; exact getD_mem hj
      have htop := a1.top x hx
      have hwr : IntKind.i64.wrap (f x + 1) = f x + 1 := wrap_id (by omega) (by omega)
      have hql : (q'.map Int.ofNat).length = q'.length := List.length_map ..
      simp (contextual := true) (maxSteps := 1000000) (disch := omega) only [↓Sd, ↓So, ↓Sk, ↓den, ↓denA, Sa, Sb, Sc, Se, O1.d, O2.d, O3.d, cmI, arI, envOf, putN, ↓reduceIte, Nat.reduceLT, Nat.reduceSub, Nat.reduceAdd, Int.reduceAdd, Int.reduceEq, Int.reduceLT, Int.reduceLE, arr_pos, arr_neg, ↓wpJoin, hy2, tab_len, tab_get hyn, tab_get hx, Int.toNat_natCast, tab_set', a2, hwr, hql]
      have hfx' : 0 ≤ f' x := by omega
      refine ⟨fun g => ?_, fun g => ?_⟩
      · obtain ⟨v1, v2⟩ := a1.visit hx hfx' hyn g hm hyT (by rw [a2]; exact a3)
        rw [a2] at v1 v2
        have hxy : ¬ x = y := by rintro rfl; omega
        refine ⟨(fun k => if k = y then f x + 1 else f' k, q' ++ [y]), ⟨rfl, by simp⟩, v1, by simp [hxy, a2], ?_, ?_, ?_, ?_, ?_⟩
        · intro k hk
          have := a3 k hk
          simp only []
          split <;> omega
        · intro z hz
          simp only []
          split
          · omega
          · rename_i hzy
            rcases List.mem_append.1 hz with h | h
            · exact a4 z h
            · exact absurd (List.mem_singleton.1 h) hzy
        · intro k hk
          simp only []
          split
          · omega
          · rename_i hky
            rcases (mem_take_next hj).1 hk with h | h
            · exact a5 k h
            · exact absurd (by omega) hky
        · simp only [List.length_append, List.length_singleton]; omega
        · simp only []; omega
      · refine ⟨(f', q'), ⟨rfl, rfl⟩, a1, a2, a3, a4, fun k hk => ?_, a6, a7⟩
        rcases (mem_take_next hj).1 hk with h | h
        · exact a5 k h
        · rw [show k = y by omega]; simp only []; omega
    · rintro ⟨f', q'⟩ ⟨a1, a2, a3, a4, a5, a6, a7⟩
      rw [List.take_length] at a5
      simp only at a1 a2 a3 a4 a5 a6 a7
      simp (contextual := true) (maxSteps := 1000000) (disch := omega) only [↓Sd, ↓So, ↓Sk, ↓den, ↓denA, Sa, Sb, Sc, Se, O1.d, O2.d, O3.d, cmI, arI, envOf, putN, ↓reduceIte, Nat.reduceLT, Nat.reduceSub, Nat.reduceAdd, Int.reduceAdd, Int.reduceEq, Int.reduceLT, Int.reduceLE, arr_pos, arr_neg, ]
      refine ⟨_, ?_, f', q', ⟨rfl, rfl⟩, ⟨a1.ge, a1.zero, a1.pre, a1.inq, a1.sorted, fun a ha h1 h2 _ k hk => ?_, a1.top⟩, fun z q'' hq k hk => ?_, by omega, rfl⟩
      · omega
      · by_cases hax : a = x
        · subst hax
          rw [hr] at hk
          have h3 := hrow _ hk
          have h4 := a3 k (by omega)
          exact ⟨a5 k hk, by omega⟩
        · exact a1.closed a ha h1 h2 hax k hk
      · have h3 := a3 k hk
        have h4 := a4 z (by rw [hq]; exact List.mem_cons_self ..)
        omega
/-- What holds of distances as they are found round by round: those of states ahead of a0 are looked at. -/
structure Rnd (T : List (List Int)) (p : Nat → Bool) (n : Nat) (d a0 C : Nat) (ag : Bool) (f : Nat → Int) : Prop where
  ge : ∀ k, k < n → -1 ≤ f k
  zero : ∀ k, k < n → (f k = 0 ↔ p k = true)
  pre : ∀ k, k < n → 0 < f k → ∃ a, a < n ∧ f a + 1 = f k ∧ (k : Int) ∈ T.getD a []
  le : ∀ k, k < n → f k ≤ (d : Int) + 1
  closed : ∀ a, a < n → 0 ≤ f a → (f a < d ∨ f a = d ∧ a < a0) → ∀ k : Nat, (k : Int) ∈ T.getD a [] → 0 ≤ f k ∧ f k ≤ f a + 1
  none : ag = false → ∀ k, k < n → f k ≤ d
  cnt : cntF (fun k => decide (0 ≤ f k)) n ≤ C
  less : ag = true → cntF (fun k => decide (0 ≤ f k)) n < C
theorem Rnd.visit {T : List (List Int)} {p : Nat → Bool} {n d a0 C y : Nat} {ag : Bool} {f : Nat → Int} (h : Rnd T p n d a0 C ag f) (ha : a0 < n) (hfa : f a0 = d) (hy : y < n) (hfy : f y < 0) (hT : (y : Int) ∈ T.getD a0 []) :
    Rnd T p n d a0 C true (fun k => if k = y then (d : Int) + 1 else f k) := by
  have hay : ¬ a0 = y := by rintro rfl; omega
  have hc : cntF (fun k => decide (0 ≤ (if k = y then (d : Int) + 1 else f k))) n + 1 = cntF (fun k => decide (0 ≤ f k)) n := by
    have := cntF_set (p := fun k => decide (0 ≤ f k)) (j := y) (by simp; omega) (n := n) hy
    rw [← this]
    congr 1
    refine cntF_congr fun k _ => ?_
    by_cases g : k = y
    · simp [g]; omega
    · simp [g]
  have hcn := h.cnt
  refine ⟨fun k hk => ?_, fun k hk => ?_, fun k hk h1 => ?_, fun k hk => ?_, fun a h1 h2 h3 k hk => ?_, fun g => (by cases g), by omega, fun _ => by omega⟩
  · have := h.ge k hk; split <;> omega
  · have := h.zero k hk
    split
    · rename_i g; subst g
      constructor
      · intro h1; omega
      · intro h1; have := this.2 h1; omega
    · exact this
  · by_cases g : k = y
    · subst g
      exact ⟨a0, ha, by simp [hay, hfa], hT⟩
    · simp only [g, if_false] at h1 ⊢
      obtain ⟨a, b1, b2, b3⟩ := h.pre k hk h1
      have : ¬ a = y := by rintro rfl; omega
      exact ⟨a, b1, by simp [this, b2], b3⟩
  · have := h.le k hk; split <;> omega
  · by_cases e1 : a = y
    · simp only [e1, if_true] at h3; omega
    · simp only [e1, if_false] at h2 h3 ⊢
      have := h.closed a h1 h2 h3 k hk
      have e2 : ¬ k = y := by rintro rfl; omega
      simp only [e2, if_false]; exact this
theorem Rnd.skip {T : List (List Int)} {p : Nat → Bool} {n d a0 C : Nat} {ag : Bool} {f : Nat → Int} (h : Rnd T p n d a0 C ag f) (ht : Tbl T n) (hx : f a0 = d → ∀ k : Nat, (k : Int) ∈ T.getD a0 [] → 0 ≤ f k) : Rnd T p n d (a0 + 1) C ag f := by
  refine ⟨h.ge, h.zero, h.pre, h.le, fun a h1 h2 h3 k hk => ?_, h.none, h.cnt, h.less⟩
  by_cases e : a = a0
  · subst e
    rcases h3 with h3 | h3
    · exact h.closed a h1 h2 (.inl h3) k hk
    · have h4 := ht.row _ hk
      have h5 := h.le k (by omega)
      exact ⟨hx h3.1 k hk, by omega⟩
  · refine h.closed a h1 h2 (h3.imp_right fun h4 => ⟨h4.1, ?_⟩) k hk
    omega
theorem C_spec_l5Steps (T : List (List Int)) (p : Nat → Bool) (F : List Int) (n : Nat) (hn : n ≤ 1000) (ht : Tbl T n) (hF : ∀ x ∈ F, 0 ≤ x ∧ x < n) (hp : ∀ k, k < n → (p k = true ↔ (k : Int) ∈ F)) (Q : List AV → Prop) :
    mc.C f_spec_l5Steps [⟨L (L I), T⟩, ⟨L B, tab p n⟩] Q = Q [⟨L I, tab (dst T F) n⟩] := by
  have hl := ht.1
  refine Mc.Ends.c (mc.ends F_spec_l5Steps ?_)
  simp (contextual := true) (maxSteps := 1000000) (disch := omega) only [↓Sd, ↓So, ↓Sk, ↓den, ↓denA, Sa, Sb, Sc, Se, O1.d, O2.d, O3.d, cmI, arI, envOf, putN, ↓reduceIte, Nat.reduceLT, Nat.reduceSub, Nat.reduceAdd, Int.reduceAdd, Int.reduceEq, Int.reduceLT, Int.reduceLE, arr_pos, arr_neg, tr_spec_l5Steps]
  refine mc.lp_for (List Int) (fun i o => [⟨L (L I), T⟩, ⟨L B, tab p n⟩, ⟨I, (i : Int)⟩, ⟨L I, o⟩]) (fun i o => o = tab (fun k => if p k = true then 0 else -1) i) n 0 [] _ rfl (Nat.zero_le _) rfl ?_ ?_
  · rintro i o hi rfl
    simp (contextual := true) (maxSteps := 1000000) (disch := omega) only [↓Sd, ↓So, ↓Sk, ↓den, ↓denA, Sa, Sb, Sc, Se, O1.d, O2.d, O3.d, cmI, arI, envOf, putN, ↓reduceIte, Nat.reduceLT, Nat.reduceSub, Nat.reduceAdd, Int.reduceAdd, Int.reduceEq, Int.reduceLT, Int.reduceLE, arr_pos, arr_neg, ↓wpJoin, hl, tab_len, tab_get hi]
    refine ⟨fun g => ?_, fun g => ?_⟩
    · rw [← tab_next]; simp [g]
    · rw [← tab_next]; simp [g]
  rintro o rfl
  obtain ⟨f0, hf0⟩ : ∃ f0 : Nat → Int, (fun k => if p k = true then (0 : Int) else -1) = f0 := ⟨_, rfl⟩
  have h0 : ∀ k, (p k = true → f0 k = 0) ∧ (¬ p k = true → f0 k = -1) := fun k => by rw [← hf0]; exact ⟨fun g => by simp [g], fun g => by simp [g]⟩
  rw [hf0]
  clear hf0
  simp (contextual := true) (maxSteps := 1000000) (disch := omega) only [↓Sd, ↓So, ↓Sk, ↓den, ↓denA, Sa, Sb, Sc, Se, O1.d, O2.d, O3.d, cmI, arI, envOf, putN, ↓reduceIte, Nat.reduceLT, Nat.reduceSub, Nat.reduceAdd, Int.reduceAdd, Int.reduceEq, Int.reduceLT, Int.reduceLE, arr_pos, arr_neg, hl]
  refine mc.lp_inv (fun j us => ∃ (f : Nat → Int) (ag : Bool) (d : Nat), us = [⟨L (L I), T⟩, ⟨B, ag⟩, ⟨I, (d : Int)⟩, ⟨L I, tab f n⟩] ∧ (∀ k, k < n → -1 ≤ f k) ∧ (∀ k, k < n → (f k = 0 ↔ p k = true)) ∧ (∀ k, k < n → 0 < f k → ∃ a, a < n ∧ f a + 1 = f k ∧ (k : Int) ∈ T.getD a []) ∧
    (∀ a, a < n → 0 ≤ f a → f a < d → ∀ k : Nat, (k : Int) ∈ T.getD a [] → 0 ≤ f k ∧ f k ≤ f a + 1) ∧ (∀ k, k < n → f k ≤ d) ∧ (ag = false → ∀ k, k < n → f k < d) ∧ (ag = true → d + cntF (fun k => decide (0 ≤ f k)) n ≤ n) ∧
    j = if ag = true then cntF (fun k => decide (0 ≤ f k)) n + 1 else 0) _ _ ⟨f0, true, 0, rfl, fun k _ => ?_, fun k _ => ?_, fun k _ h => ?_, fun a _ h1 h2 => (by omega), fun k _ => ?_, fun g => (by cases g), fun _ => ?_, rfl⟩ ?_
  · have := h0 k
    by_cases g : p k = true
    · have := this.1 g; omega
    · have := this.2 g; omega
  · have := h0 k
    by_cases g : p k = true
    · simp [g, this.1 g]
    · simp [g, this.2 g]
  · have := h0 k
    by_cases g : p k = true
    · have := this.1 g; omega
    · have := this.2 g; omega
  · have := h0 k
    by_cases g : p k = true
    · have := this.1 g; omega
    · have := this.2 g; omega
  · have : cntF (fun k => decide (0 ≤ f0 k)) n ≤ n := cntF_le
    omega
  rintro j us ⟨f, ag, d, rfl, i1, i2, i3, i4, i5, i6, i7, rfl⟩
  cases ag with
  | false =>
    simp (contextual := true) (maxSteps := 1000000) (disch := omega) only [↓Sd, ↓So, ↓Sk, ↓den, ↓denA, Sa, Sb, Sc, Se, O1.d, O2.d, O3.d, cmI, arI, envOf, putN, ↓reduceIte, Nat.reduceLT, Nat.reduceSub, Nat.reduceAdd, Int.reduceAdd, Int.reduceEq, Int.reduceLT, Int.reduceLE, arr_pos, arr_neg, ]
    exact tab_congr (IsDst.eq ht hF ⟨i1, fun k hk => by rw [i2 k hk, hp k hk], i3, fun a ha h1 k hk => i4 a ha h1 (i6 rfl a ha) k hk⟩)
  | true =>
    have i7 := i7 rfl
    simp (contextual := true) (maxSteps := 1000000) (disch := omega) only [↓Sd, ↓So, ↓Sk, ↓den, ↓denA, Sa, Sb, Sc, Se, O1.d, O2.d, O3.d, cmI, arI, envOf, putN, ↓reduceIte, Nat.reduceLT, Nat.reduceSub, Nat.reduceAdd, Int.reduceAdd, Int.reduceEq, Int.reduceLT, Int.reduceLE, arr_pos, arr_neg, ]
    generalize hC : cntF (fun k => decide (0 ≤ f k)) n = C at *
    refine mc.lp_for ((Nat → Int) × Bool) (fun a s => [⟨L (L I), T⟩, ⟨B, s.2⟩, ⟨I, (d : Int)⟩, ⟨I, (a : Int)⟩, ⟨L I, tab s.1 n⟩]) (fun a s => Rnd T p n d a C s.2 s.1) n 0 (f, false) _ rfl (Nat.zero_le _)
      ⟨i1, i2, i3, fun k hk => Int.le_trans (i5 k hk) (by omega), fun a ha h1 h2 k hk => i4 a ha h1 (h2.elim id fun h => by omega) k hk, fun _ => i5, by rw [hC]; exact Nat.le_refl _, fun g => (by cases g)⟩ ?_ ?_
    · rintro a0 ⟨f1, ag1⟩ ha0 hR
      simp only at hR
      obtain ⟨row, hr⟩ : ∃ row, T.getD a0 [] = row := ⟨_, rfl⟩
      have hrow := ht.row (i := a0)
      have hrl : (T.getD a0 []).length ≤ 1048576 := (ht.2 _ (getD_mem (by omega))).1
      rw [hr] at hrow hrl
      simp (contextual := true) (maxSteps := 1000000) (disch := omega) only [↓Sd, ↓So, ↓Sk, ↓den, ↓denA, Sa, Sb, Sc, Se, O1.d, O2.d, O3.d, cmI, arI, envOf, putN, ↓reduceIte, Nat.reduceLT, Nat.reduceSub, Nat.reduceAdd, Int.reduceAdd, Int.reduceEq, Int.reduceLT, Int.reduceLE, arr_pos, arr_neg, hl]
      refine mc.lp_for ((Nat → Int) × Bool) (fun i s => [⟨L (L I), T⟩, ⟨B, s.2⟩, ⟨I, (d : Int)⟩, ⟨I, (a0 : Int)⟩, ⟨I, (i : Int)⟩, ⟨L I, tab s.1 n⟩]) (fun i s => Rnd T p n d a0 C s.2 s.1 ∧ ∀ k : Nat, (k : Int) ∈ row.take i → s.1 a0 = d → 0 ≤ s.1 k) row.length 0 (f1, ag1) _ rfl (Nat.zero_le _) ⟨hR, by simp⟩ ?_ ?_
      · rintro i ⟨f2, ag2⟩ hi ⟨b1, b2⟩
        simp only at b1 b2
        have hy := hrow _ (getD_mem (d := 0) hi)
        obtain ⟨y, hy2⟩ : ∃ y : Nat, row.getD i 0 = y := ⟨(row.getD i 0).toNat, by omega⟩
        have hyn : y < n := by omega
        have hwr : IntKind.i64.wrap ((d : Int) + 1) = (d : Int) + 1 := wrap_id (by omega) (by omega)
        simp (contextual := true) (maxSteps := 1000000) (disch := omega) only [↓Sd, ↓So, ↓Sk, ↓den, ↓denA, Sa, Sb, Sc, Se, O1.d, O2.d, O3.d, cmI, arI, envOf, putN, ↓reduceIte, Nat.reduceLT, Nat.reduceSub, Nat.reduceAdd, Int.reduceAdd, Int.reduceEq, Int.reduceLT, Int.reduceLE, arr_pos, arr_neg, ↓wpJoin, hl, hr, hy2, tab_len, tab_get hyn, tab_get ha0, Int.toNat_natCast, tab_set', hwr]
        refine ⟨fun g => ⟨fun g2 => ?_, fun g2 => ?_⟩, fun g => ?_⟩
        · have hv := b1.visit ha0 g hyn g2 (by rw [hr, ← hy2]; exact getD_mem hi)
          refine ⟨(fun k => if k = y then (d : Int) + 1 else f2 k, true), ⟨rfl, rfl⟩, hv, fun k hk h3 => ?_⟩
          simp only []
          split
          · omega
          · rename_i hky
            rcases (mem_take_next hi).1 hk with h | h
            · exact b2 k h g
            · exact absurd (by omega) hky
        · refine ⟨(f2, ag2), ⟨rfl, rfl⟩, b1, fun k hk h3 => ?_⟩
          rcases (mem_take_next hi).1 hk with h | h
          · exact b2 k h h3
          · rw [show k = y by omega]; simp only []; omega
        · exact ⟨(f2, ag2), ⟨rfl, rfl⟩, b1.skip ht fun h => absurd h g⟩
      · rintro ⟨f2, ag2⟩ ⟨b1, b2⟩
        rw [List.take_length] at b2
        simp only at b1 b2
        simp (contextual := true) (maxSteps := 1000000) (disch := omega) only [↓Sd, ↓So, ↓Sk, ↓den, ↓denA, Sa, Sb, Sc, Se, O1.d, O2.d, O3.d, cmI, arI, envOf, putN, ↓reduceIte, Nat.reduceLT, Nat.reduceSub, Nat.reduceAdd, Int.reduceAdd, Int.reduceEq, Int.reduceLT, Int.reduceLE, arr_pos, arr_neg, hl, hr]
        exact ⟨(f2, ag2), ⟨rfl, rfl⟩, b1.skip ht fun h k hk => b2 k (by rw [← hr]; exact hk) h⟩
    · rintro ⟨f1, ag1⟩ hR
      simp only at hR
      have hwr : IntKind.i64.wrap ((d : Int) + 1) = (d : Int) + 1 := wrap_id (by omega) (by omega)
      simp (contextual := true) (maxSteps := 1000000) (disch := omega) only [↓Sd, ↓So, ↓Sk, ↓den, ↓denA, Sa, Sb, Sc, Se, O1.d, O2.d, O3.d, cmI, arI, envOf, putN, ↓reduceIte, Nat.reduceLT, Nat.reduceSub, Nat.reduceAdd, Int.reduceAdd, Int.reduceEq, Int.reduceLT, Int.reduceLE, arr_pos, arr_neg, hl, hwr]
      have hcnt := hR.cnt
      refine ⟨_, ?_, f1, ag1, d + 1, ⟨rfl, by rw [Int.natCast_add]; rfl, rfl⟩, hR.ge, hR.zero, hR.pre, fun a ha h1 h2 k hk => hR.closed a ha h1 ?_ k hk, fun k hk => ?_, fun g k hk => ?_, fun g => ?_, rfl⟩
      · cases ag1 with
        | true => have := hR.less rfl; simp only [if_true]; omega
        | false => simp
      · by_cases g : f1 a < d
        · exact .inl g
        · exact .inr ⟨by omega, ha⟩
      · have := hR.le k hk; omega
      · have := hR.none g k hk; omega
      · have := hR.less g; omega
end Go.Proofs.YtplibobhcjgcmaaGreat
