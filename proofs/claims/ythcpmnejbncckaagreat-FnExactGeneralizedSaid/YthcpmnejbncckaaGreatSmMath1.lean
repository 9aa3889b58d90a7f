/- What the trees come to: plain mathematics; no condition. -/
import Derived.Test.YthcpmnejbncckaaGreatSmMath0
/- What the trees come to. -/
namespace Go.Proofs.YthcpmnejbncckaaGreat
open Go Go.Sm Go.Sm.Q
set_option linter.unusedSimpArgs false
set_option linter.unusedVariables false
theorem either_upTo {p q : Nat → Bool} {n : Nat} (h : n ≤ 400) : upTo (fun k => dB ((k : Int) ∈ upTo p n) || dB ((k : Int) ∈ upTo q n)) 400 = upTo (fun k => p k || q k) n :=
  upTo_shrink h (fun k hk => by simp [dB_upTo, hk]) fun k h1 _ => by have : ¬ k < n := by omega
                                                                     simp [dB_upTo, this]
theorem without_upTo {p q : Nat → Bool} {n : Nat} (h : n ≤ 400) : upTo (fun k => dB ((k : Int) ∈ upTo p n) && !dB ((k : Int) ∈ upTo q n)) 400 = upTo (fun k => p k && !q k) n :=
  upTo_shrink h (fun k hk => by simp [dB_upTo, hk]) fun k h1 _ => by have : ¬ k < n := by omega
                                                                     simp [dB_upTo, this]
/-- What is reached from some numbers. -/
inductive Rch (T : List (List Int)) (F : List Int) : Nat → Prop
  | base {k : Nat} : (k : Int) ∈ F → Rch T F k
  | step {a k : Nat} : Rch T F a → (k : Int) ∈ T.getD a [] → Rch T F k
/-- A table of steps: rows of numbers of states. -/
def Tbl (T : List (List Int)) (n : Nat) : Prop := T.length = n ∧ ∀ r ∈ T, r.length ≤ 1048576 ∧ ∀ x ∈ r, 0 ≤ x ∧ x < n
theorem Tbl.row {T : List (List Int)} {n i : Nat} (h : Tbl T n) : ∀ x ∈ T.getD i [], 0 ≤ x ∧ x < n := by
  intro x hx
  by_cases hi : i < T.length
  · exact (h.2 _ (getD_mem hi)).2 x hx
  · rw [List.getD_eq_getElem?_getD, List.getElem?_eq_none (by omega)] at hx
    cases hx
theorem Rch.lt {T : List (List Int)} {F : List Int} {n k : Nat} (h : Tbl T n) (hF : ∀ x ∈ F, x < n) (hk : Rch T F k) : k < n := by
  induction hk with
  | base h1 => have := hF _ h1; omega
  | step _ h1 => have := h.row _ h1; omega
theorem steps_tbl {s : Sy} (h : valid s) : Tbl (steps s) (szn s.1) := by
  have hz := szn_eq h
  refine ⟨tab_len, fun r hr => ?_⟩
  simp only [steps, tab, List.mem_map, List.mem_range] at hr
  obtain ⟨i, hi, rfl⟩ := hr
  refine ⟨by simp only [stepR, List.length_map]; exact Nat.le_trans (nxt_len h) (by omega), fun x hx => ?_⟩
  simp only [stepR, List.mem_map] at hx
  obtain ⟨y, hy, rfl⟩ := hx
  have := num_bd h.2.2.1 (nxt_in y hy)
  omega
/-- The set that is reached, told by what is closed. -/
theorem rch_of_closed {T : List (List Int)} {F : List Int} {n : Nat} {p : Nat → Bool} (h : Tbl T n) (hF : ∀ x ∈ F, 0 ≤ x ∧ x < n) (h1 : ∀ k, k < n → (k : Int) ∈ F → p k = true) (h2 : ∀ k, k < n → p k = true → Rch T F k)
    (h3 : ∀ a, a < n → p a = true → ∀ k : Nat, (k : Int) ∈ T.getD a [] → p k = true) : ∀ k, k < n → p k = dB (Rch T F k) := by
  have key : ∀ k, Rch T F k → k < n ∧ p k = true := by
    intro k hk
    induction hk with
    | base h4 => have := hF _ h4; exact ⟨by omega, h1 _ (by omega) h4⟩
    | step _ h4 ih => have := h.row _ h4; exact ⟨by omega, h3 _ ih.1 ih.2 _ h4⟩
  intro k hk
  by_cases h4 : p k = true
  · rw [h4, dB_t (h2 k hk h4)]
  · rw [dB_f fun h5 => h4 (key k h5).2]; simpa using h4
theorem upTo_one {m : Nat} : ∀ {n : Nat}, upTo (fun k => k == m) n = if m < n then [(m : Int)] else []
  | 0 => by simp [upTo]
  | n + 1 => by
    by_cases h : n = m
    · subst h
      rw [upTo_s (by simp), upTo_one, if_neg (by omega), if_pos (by omega)]; rfl
    · rw [upTo_n (by simpa using h), upTo_one]
      by_cases h2 : m < n
      · rw [if_pos h2, if_pos (by omega)]
      · rw [if_neg h2, if_neg (by omega)]
theorem getD_set_eq {α : Type} {l : List α} {i : Nat} {x d : α} (h : i < l.length) : (l.set i x).getD i d = x := by
  simp [List.getD_eq_getElem?_getD, h]
theorem upTo_nil' {p : Nat → Bool} : upTo p 0 = [] := rfl
theorem C_impl_listOf (l : List Bool) (hl : l.length ≤ 1048576) (Q : List AV → Prop) : mc.C f_impl_listOf [⟨L B, l⟩] Q = Q [⟨L I, upTo (fun k => l.getD k false) l.length⟩] := by
  refine Mc.Ends.c (mc.ends F_impl_listOf ?_)
  simp (contextual := true) (maxSteps := 1000000) (disch := omega) only [↓Sd, ↓So, ↓Sk, ↓den, ↓denA, Sa, Sb, Sc, Se, O1.d, O2.d, O3.d, cmI, arI, envOf, putN, ↓reduceIte, Nat.reduceLT, Nat.reduceSub, Nat.reduceAdd, Int.reduceAdd, Int.reduceEq, Int.reduceLT, Int.reduceLE, arr_pos, arr_neg, tr_impl_listOf]
  refine mc.lp_for (List Int) (fun i o => [⟨L B, l⟩, ⟨I, (l.length : Int)⟩, ⟨I, (i : Int)⟩, ⟨L I, o⟩]) (fun i o => o = upTo (fun k => l.getD k false) i) l.length 0 [] _ rfl (Nat.zero_le _) rfl ?_ ?_
  · rintro i o hi rfl
    have h1 := @upTo_len (fun k => l.getD k false) i
    simp (contextual := true) (maxSteps := 1000000) (disch := omega) only [↓Sd, ↓So, ↓Sk, ↓den, ↓denA, Sa, Sb, Sc, Se, O1.d, O2.d, O3.d, cmI, arI, envOf, putN, ↓reduceIte, Nat.reduceLT, Nat.reduceSub, Nat.reduceAdd, Int.reduceAdd, Int.reduceEq, Int.reduceLT, Int.reduceLE, arr_pos, arr_neg, ↓wpJoin, ]
    exact ⟨fun g => (upTo_s g).symm, fun g => (upTo_n g).symm⟩
  · rintro o rfl
    have h1 := @upTo_len (fun k => l.getD k false) l.length
    simp (contextual := true) (maxSteps := 1000000) (disch := omega) only [↓Sd, ↓So, ↓Sk, ↓den, ↓denA, Sa, Sb, Sc, Se, O1.d, O2.d, O3.d, cmI, arI, envOf, putN, ↓reduceIte, Nat.reduceLT, Nat.reduceSub, Nat.reduceAdd, Int.reduceAdd, Int.reduceEq, Int.reduceLT, Int.reduceLE, arr_pos, arr_neg, C_impl_clone_int (upTo (fun k => l.getD k false) l.length) (by omega)]
theorem C_impl_listOf_tab (p : Nat → Bool) (n : Nat) (hn : n ≤ 1048576) (Q : List AV → Prop) : mc.C f_impl_listOf [⟨L B, tab p n⟩] Q = Q [⟨L I, upTo p n⟩] := by
  rw [C_impl_listOf _ (by rw [tab_len]; exact hn), tab_len, upTo_congr fun k hk => tab_get hk]
theorem C_impl_marks (l : List Int) (n : Nat) (hn : n ≤ 1048576) (hl : l.length ≤ 1048576) (h : ∀ x ∈ l, 0 ≤ x ∧ x < n) (Q : List AV → Prop) : mc.C f_impl_marks [⟨L I, l⟩, ⟨I, (n : Int)⟩] Q = Q [⟨L B, tab (fun k => dB ((k : Int) ∈ l)) n⟩] := by
  refine Mc.Ends.c (mc.ends F_impl_marks ?_)
  simp (contextual := true) (maxSteps := 1000000) (disch := omega) only [↓Sd, ↓So, ↓Sk, ↓den, ↓denA, Sa, Sb, Sc, Se, O1.d, O2.d, O3.d, cmI, arI, envOf, putN, ↓reduceIte, Nat.reduceLT, Nat.reduceSub, Nat.reduceAdd, Int.reduceAdd, Int.reduceEq, Int.reduceLT, Int.reduceLE, arr_pos, arr_neg, tr_impl_marks]
  refine mc.lp_for (List Bool) (fun i o => [⟨L I, l⟩, ⟨I, (l.length : Int)⟩, ⟨I, (i : Int)⟩, ⟨L B, o⟩]) (fun i o => o = tab (fun k => dB ((k : Int) ∈ l.take i)) n) l.length 0 (List.replicate n false) _ rfl (Nat.zero_le _) ?_ ?_ ?_
  · rw [rep_tab]; exact tab_congr fun k _ => (dB_f (by simp)).symm
  · rintro i o hi rfl
    have hx := h _ (getD_mem (d := 0) hi)
    simp (contextual := true) (maxSteps := 1000000) (disch := omega) only [↓Sd, ↓So, ↓Sk, ↓den, ↓denA, Sa, Sb, Sc, Se, O1.d, O2.d, O3.d, cmI, arI, envOf, putN, ↓reduceIte, Nat.reduceLT, Nat.reduceSub, Nat.reduceAdd, Int.reduceAdd, Int.reduceEq, Int.reduceLT, Int.reduceLE, arr_pos, arr_neg, tab_len, tab_set']
    refine tab_congr fun k hk => ?_
    by_cases hk2 : k = (l.getD i 0).toNat
    · rw [if_pos hk2, dB_t]; exact (mem_take_next hi).2 (.inr (by omega))
    · rw [if_neg hk2]; refine dB_congr ?_
      rw [mem_take_next hi]
      exact ⟨.inl, fun h => h.elim id fun h => absurd h (by omega)⟩
  · rintro o rfl
    rw [List.take_length]
    simp (contextual := true) (maxSteps := 1000000) (disch := omega) only [↓Sd, ↓So, ↓Sk, ↓den, ↓denA, Sa, Sb, Sc, Se, O1.d, O2.d, O3.d, cmI, arI, envOf, putN, ↓reduceIte, Nat.reduceLT, Nat.reduceSub, Nat.reduceAdd, Int.reduceAdd, Int.reduceEq, Int.reduceLT, Int.reduceLE, arr_pos, arr_neg, ]
theorem C_impl_marks_i (l : List Int) (m : Int) (n : Nat) (e : m = n) (hn : n ≤ 1048576) (hl : l.length ≤ 1048576) (h : ∀ x ∈ l, 0 ≤ x ∧ x < n) (Q : List AV → Prop) : mc.C f_impl_marks [⟨L I, l⟩, ⟨I, m⟩] Q = Q [⟨L B, tab (fun k => dB ((k : Int) ∈ l)) n⟩] := e ▸ C_impl_marks l n hn hl h Q
theorem C_impl_setOk (l : List Int) (m : Int) (hm : 0 ≤ m ∧ m ≤ 1048576) (hl : l.length ≤ 1048576) (Q : List AV → Prop) : mc.C f_impl_setOk [⟨L I, l⟩, ⟨I, m⟩] Q = Q [⟨B, decide (lset l m)⟩] := by
  refine Mc.Ends.c (mc.ends F_impl_setOk ?_)
  generalize hK : decide (lset l m) = K
  simp (contextual := true) (maxSteps := 1000000) (disch := omega) only [↓Sd, ↓So, ↓Sk, ↓den, ↓denA, Sa, Sb, Sc, Se, O1.d, O2.d, O3.d, cmI, arI, envOf, putN, ↓reduceIte, Nat.reduceLT, Nat.reduceSub, Nat.reduceAdd, Int.reduceAdd, Int.reduceEq, Int.reduceLT, Int.reduceLE, arr_pos, arr_neg, tr_impl_setOk]
  refine lp_all (fun i => [⟨L I, l⟩, ⟨I, m⟩, ⟨L I, l⟩, ⟨I, (l.length : Int)⟩, ⟨I, (i : Int)⟩]) (fun i => (0 ≤ l.getD i 0 ∧ l.getD i 0 ≤ m - 1) ∧ (0 < i → l.getD (i - 1) 0 < l.getD i 0)) l.length _ rfl ?_ ?_
  · intro i hi
    have hno : ¬ ((0 ≤ l.getD i 0 ∧ l.getD i 0 ≤ m - 1) ∧ (0 < i → l.getD (i - 1) 0 < l.getD i 0)) → false = K := fun h => by rw [← hK, decide_eq_false]; exact fun h1 => h (h1 i hi)
    simp (contextual := true) (maxSteps := 1000000) (disch := omega) only [↓Sd, ↓So, ↓Sk, ↓den, ↓denA, Sa, Sb, Sc, Se, O1.d, O2.d, O3.d, cmI, arI, envOf, putN, ↓reduceIte, Nat.reduceLT, Nat.reduceSub, Nat.reduceAdd, Int.reduceAdd, Int.reduceEq, Int.reduceLT, Int.reduceLE, arr_pos, arr_neg, ↓wpJoin, C_impl_in]
    grind
  · intro h
    simp (contextual := true) (maxSteps := 1000000) (disch := omega) only [↓Sd, ↓So, ↓Sk, ↓den, ↓denA, Sa, Sb, Sc, Se, O1.d, O2.d, O3.d, cmI, arI, envOf, putN, ↓reduceIte, Nat.reduceLT, Nat.reduceSub, Nat.reduceAdd, Int.reduceAdd, Int.reduceEq, Int.reduceLT, Int.reduceLE, arr_pos, arr_neg, ]
    rw [← hK, decide_eq_true]; exact h
/-- A set of the states of a system. -/
def setV (s : Sy) (l : List Int) : Prop := valid s ∧ lset l (sz s.1)
instance (s : Sy) (l : List Int) : Decidable (setV s l) := by unfold setV; infer_instance
theorem setV.n {s : Sy} {l : List Int} (h : setV s l) : lset l (szn s.1) := by rw [(szn_eq h.1).1]; exact h.2
theorem setV.len {s : Sy} {l : List Int} (h : setV s l) : l.length ≤ 400 := by
  have h1 := lset_len h.n (by omega)
  have h2 := szn_eq h.1
  omega
theorem setV.mem {s : Sy} {l : List Int} (h : setV s l) : ∀ x ∈ l, 0 ≤ x ∧ x < (szn s.1 : Int) := lset_mem h.n
theorem sz_ok {s : Sy} (h : valid s) : 1 ≤ sz s.1 ∧ sz s.1 ≤ 400 := by have := szn_eq h; omega
theorem C_impl_SetValid (s : Sy) (l : List Int) (hs : FewSy s) (hl : l.length ≤ 1048576) (Q : List AV → Prop) : mc.C f_impl_SetValid [⟨L V3, s.1⟩, ⟨L TR, s.2⟩, ⟨L I, l⟩] Q = Q [⟨B, decide (setV s l)⟩] := by
  refine Mc.Ends.c (mc.ends F_impl_SetValid ?_)
  generalize hK : decide (setV s l) = K
  simp (contextual := true) (maxSteps := 1000000) (disch := omega) only [↓Sd, ↓So, ↓Sk, ↓den, ↓denA, Sa, Sb, Sc, Se, O1.d, O2.d, O3.d, cmI, arI, envOf, putN, ↓reduceIte, Nat.reduceLT, Nat.reduceSub, Nat.reduceAdd, Int.reduceAdd, Int.reduceEq, Int.reduceLT, Int.reduceLE, arr_pos, arr_neg, tr_impl_SetValid, C_impl_SystemValid s hs]
  refine ⟨fun h => ?_, fun h => ?_⟩
  · have hz := sz_ok h
    simp (contextual := true) (maxSteps := 1000000) (disch := omega) only [↓Sd, ↓So, ↓Sk, ↓den, ↓denA, Sa, Sb, Sc, Se, O1.d, O2.d, O3.d, cmI, arI, envOf, putN, ↓reduceIte, Nat.reduceLT, Nat.reduceSub, Nat.reduceAdd, Int.reduceAdd, Int.reduceEq, Int.reduceLT, Int.reduceLE, arr_pos, arr_neg, C_impl_size s.1 h.1.2 h.2.2.1, C_impl_setOk l (sz s.1) (by omega) hl]
    rw [← hK]; exact decide_eq_decide.2 ⟨fun g => ⟨h, g⟩, fun g => g.2⟩
  · rw [← hK, decide_eq_false fun g => h g.1]
theorem C_spec_SetValid (s : Sy) (l : List Int) (hs : FewSy s) (hl : l.length ≤ 1048576) (Q : List AV → Prop) : mc.C f_spec_SetValid [⟨L V3, s.1⟩, ⟨L TR, s.2⟩, ⟨L I, l⟩] Q = Q [⟨B, decide (setV s l)⟩] := by
  refine Mc.Ends.c (mc.ends F_spec_SetValid ?_)
  generalize hK : decide (setV s l) = K
  simp (contextual := true) (maxSteps := 1000000) (disch := omega) only [↓Sd, ↓So, ↓Sk, ↓den, ↓denA, Sa, Sb, Sc, Se, O1.d, O2.d, O3.d, cmI, arI, envOf, putN, ↓reduceIte, Nat.reduceLT, Nat.reduceSub, Nat.reduceAdd, Int.reduceAdd, Int.reduceEq, Int.reduceLT, Int.reduceLE, arr_pos, arr_neg, tr_spec_SetValid, C_spec_SizeOf s hs]
  obtain ⟨m, hm⟩ : ∃ m : Int, (if valid s then sz s.1 else 0) = m := ⟨_, rfl⟩
  have hb : 0 ≤ m ∧ m ≤ 400 := by
    rw [← hm]
    split
    · rename_i h; have := sz_ok h; omega
    · omega
  have hiff : setV s l ↔ (lset l m ∧ 0 < m) := by
    rw [← hm]
    by_cases h : valid s
    · have := sz_ok h
      rw [if_pos h]; exact ⟨fun g => ⟨g.2, by omega⟩, fun g => ⟨h, g.1⟩⟩
    · rw [if_neg h]; exact ⟨fun g => absurd g.1 h, fun g => by omega⟩
  rw [hm]
  refine lp_all (fun i => [⟨L I, l⟩, ⟨I, m⟩, ⟨I, (i : Int)⟩]) (fun i => (0 ≤ l.getD i 0 ∧ l.getD i 0 ≤ m - 1) ∧ (0 < i → l.getD (i - 1) 0 < l.getD i 0)) l.length _ rfl ?_ ?_
  · intro i hi
    have hno : ¬ ((0 ≤ l.getD i 0 ∧ l.getD i 0 ≤ m - 1) ∧ (0 < i → l.getD (i - 1) 0 < l.getD i 0)) → false = K := fun h => by rw [← hK, decide_eq_false]; exact fun h1 => h ((hiff.1 h1).1 i hi)
    simp (contextual := true) (maxSteps := 1000000) (disch := omega) only [↓Sd, ↓So, ↓Sk, ↓den, ↓denA, Sa, Sb, Sc, Se, O1.d, O2.d, O3.d, cmI, arI, envOf, putN, ↓reduceIte, Nat.reduceLT, Nat.reduceSub, Nat.reduceAdd, Int.reduceAdd, Int.reduceEq, Int.reduceLT, Int.reduceLE, arr_pos, arr_neg, ↓wpJoin, C_spec_l1In]
    grind
  · intro h
    simp (contextual := true) (maxSteps := 1000000) (disch := omega) only [↓Sd, ↓So, ↓Sk, ↓den, ↓denA, Sa, Sb, Sc, Se, O1.d, O2.d, O3.d, cmI, arI, envOf, putN, ↓reduceIte, Nat.reduceLT, Nat.reduceSub, Nat.reduceAdd, Int.reduceAdd, Int.reduceEq, Int.reduceLT, Int.reduceLE, arr_pos, arr_neg, ]
    rw [← hK]
    exact decide_eq_decide.2 ⟨fun g => hiff.2 ⟨h, g⟩, fun g => (hiff.1 g).2⟩

/-! ### Tables the other way round; what is told of a set -/
theorem C_spec_l2Has (l : List Int) (x : Int) (hl : l.length ≤ 1048576) (Q : List AV → Prop) : mc.C f_spec_l2Has [⟨L I, l⟩, ⟨I, x⟩] Q = Q [⟨B, dB (x ∈ l)⟩] := by
  refine Mc.Ends.c (mc.ends F_spec_l2Has ?_)
  generalize hK : dB (x ∈ l) = K
  simp (contextual := true) (maxSteps := 1000000) (disch := omega) only [↓Sd, ↓So, ↓Sk, ↓den, ↓denA, Sa, Sb, Sc, Se, O1.d, O2.d, O3.d, cmI, arI, envOf, putN, ↓reduceIte, Nat.reduceLT, Nat.reduceSub, Nat.reduceAdd, Int.reduceAdd, Int.reduceEq, Int.reduceLT, Int.reduceLE, arr_pos, arr_neg, tr_spec_l2Has]
  refine lp_all (fun i => [⟨L I, l⟩, ⟨I, x⟩, ⟨I, (i : Int)⟩]) (fun i => ¬ l.getD i 0 = x) l.length _ rfl ?_ ?_
  · intro i hi
    simp (contextual := true) (maxSteps := 1000000) (disch := omega) only [↓Sd, ↓So, ↓Sk, ↓den, ↓denA, Sa, Sb, Sc, Se, O1.d, O2.d, O3.d, cmI, arI, envOf, putN, ↓reduceIte, Nat.reduceLT, Nat.reduceSub, Nat.reduceAdd, Int.reduceAdd, Int.reduceEq, Int.reduceLT, Int.reduceLE, arr_pos, arr_neg, ]
    intro h
    rw [← hK, dB_t]
    rw [← h]; exact getD_mem hi
  · intro h
    simp (contextual := true) (maxSteps := 1000000) (disch := omega) only [↓Sd, ↓So, ↓Sk, ↓den, ↓denA, Sa, Sb, Sc, Se, O1.d, O2.d, O3.d, cmI, arI, envOf, putN, ↓reduceIte, Nat.reduceLT, Nat.reduceSub, Nat.reduceAdd, Int.reduceAdd, Int.reduceEq, Int.reduceLT, Int.reduceLE, arr_pos, arr_neg, ]
    rw [← hK, dB_f]
    intro hx
    obtain ⟨i, hi, rfl⟩ := List.getElem_of_mem hx
    exact h i hi (getD_lt hi)
theorem getD_set_ne {α : Type} {l : List α} {i j : Nat} {x d : α} (h : i ≠ j) : (l.set i x).getD j d = l.getD j d := by
  simp [List.getD_eq_getElem?_getD, List.getElem?_set, h]
/-- From place i on as before. -/
def Same {α : Type} (l s : List α) (d : α) (i : Nat) : Prop := s.length = l.length ∧ ∀ j, i ≤ j → s.getD j d = l.getD j d
theorem Same.refl {α : Type} {l : List α} {d : α} {i : Nat} : Same l l d i := ⟨rfl, fun _ _ => rfl⟩
theorem Same.set {α : Type} {l s : List α} {d x : α} {i : Nat} (h : Same l s d i) : Same l (s.set i x) d (i + 1) :=
  ⟨by rw [List.length_set]; exact h.1, fun j hj => by rw [getD_set_ne (by omega)]; exact h.2 j (by omega)⟩
theorem iD {k : IntKind} {a b : Int} (h : a = b) : @Eq (Ty.int k).D a b := h
theorem mk_IntS (l : List Int) (k : Int) (hk : 0 ≤ k ∧ k ≤ 9200000000000000000) (hl : l.length ≤ 1048576) (Q : List AV → Prop) : mc.C f_laws_markIntS [⟨L I, l⟩, ⟨I, k⟩] Q = Q [⟨I, k + l.length⟩, ⟨L I, tab (fun i => k + (i : Int)) l.length⟩] := by
  refine Mc.Ends.c (mc.ends F_laws_markIntS ?_)
  simp (contextual := true) (maxSteps := 1000000) (disch := omega) only [↓Sd, ↓So, ↓Sk, ↓den, ↓denA, Sa, Sb, Sc, Se, O1.d, O2.d, O3.d, cmI, arI, envOf, putN, ↓reduceIte, Nat.reduceLT, Nat.reduceSub, Nat.reduceAdd, Int.reduceAdd, Int.reduceEq, Int.reduceLT, Int.reduceLE, arr_pos, arr_neg, tr_laws_markIntS]
  refine mc.lp_for (List Int) (fun i s => [⟨I, k + (i : Int)⟩, ⟨I, (i : Int)⟩, ⟨L I, s⟩]) (fun i s => s = tab (fun i => k + (i : Int)) i ++ l.drop i) l.length 0 l _ (by simp) (Nat.zero_le _) (by simp [tab]) ?_ ?_
  · rintro i s hi rfl
    have hlen : (tab (fun i => k + (i : Int)) i).length + (l.drop i).length = l.length := by rw [tab_len, List.length_drop]; omega
    have e : (tab (fun i => k + (i : Int)) i ++ l.drop i).set i (k + i) = tab (fun i => k + (i : Int)) (i + 1) ++ l.drop (i + 1) := by
      rw [List.set_append_right _ _ (by rw [tab_len]; exact Nat.le_refl _), tab_len, Nat.sub_self, drop_cons (d := 0) hi, List.set_cons_zero, ← tab_next, List.append_assoc]; rfl
    simp (contextual := true) (maxSteps := 1000000) (disch := omega) only [↓Sd, ↓So, ↓Sk, ↓den, ↓denA, Sa, Sb, Sc, Se, O1.d, O2.d, O3.d, cmI, arI, envOf, putN, ↓reduceIte, Nat.reduceLT, Nat.reduceSub, Nat.reduceAdd, Int.reduceAdd, Int.reduceEq, Int.reduceLT, Int.reduceLE, arr_pos, arr_neg, e]
    exact ⟨_, ⟨iD (by omega), rfl⟩, rfl⟩
  · rintro s rfl
    rw [List.drop_length, List.append_nil]
    simp (contextual := true) (maxSteps := 1000000) (disch := omega) only [↓Sd, ↓So, ↓Sk, ↓den, ↓denA, Sa, Sb, Sc, Se, O1.d, O2.d, O3.d, cmI, arI, envOf, putN, ↓reduceIte, Nat.reduceLT, Nat.reduceSub, Nat.reduceAdd, Int.reduceAdd, Int.reduceEq, Int.reduceLT, Int.reduceLE, arr_pos, arr_neg, tab_len]
theorem held_IntS (n : Nat) (k : Int) (hk : 0 ≤ k ∧ k ≤ 9200000000000000000) (hn : n ≤ 1048576) (Q : List AV → Prop) : mc.C f_laws_heldIntS [⟨L I, tab (fun i => k + (i : Int)) n⟩, ⟨I, k⟩] Q = Q [⟨I, k + n⟩] := by
  refine Mc.Ends.c (mc.ends F_laws_heldIntS ?_)
  simp (contextual := true) (maxSteps := 1000000) (disch := omega) only [↓Sd, ↓So, ↓Sk, ↓den, ↓denA, Sa, Sb, Sc, Se, O1.d, O2.d, O3.d, cmI, arI, envOf, putN, ↓reduceIte, Nat.reduceLT, Nat.reduceSub, Nat.reduceAdd, Int.reduceAdd, Int.reduceEq, Int.reduceLT, Int.reduceLE, arr_pos, arr_neg, tr_laws_heldIntS]
  refine mc.lp_for Unit (fun i s => [⟨L I, tab (fun i => k + (i : Int)) n⟩, ⟨I, k + (i : Int)⟩, ⟨I, (i : Int)⟩]) (fun i s => True) n 0 () _ (by simp) (Nat.zero_le _) trivial ?_ ?_
  · rintro i - hi -
    simp (contextual := true) (maxSteps := 1000000) (disch := omega) only [↓Sd, ↓So, ↓Sk, ↓den, ↓denA, Sa, Sb, Sc, Se, O1.d, O2.d, O3.d, cmI, arI, envOf, putN, ↓reduceIte, Nat.reduceLT, Nat.reduceSub, Nat.reduceAdd, Int.reduceAdd, Int.reduceEq, Int.reduceLT, Int.reduceLE, arr_pos, arr_neg, tab_len, tab_get hi]
    exact iD (by omega)
  · rintro - -
    simp (contextual := true) (maxSteps := 1000000) (disch := omega) only [↓Sd, ↓So, ↓Sk, ↓den, ↓denA, Sa, Sb, Sc, Se, O1.d, O2.d, O3.d, cmI, arI, envOf, putN, ↓reduceIte, Nat.reduceLT, Nat.reduceSub, Nat.reduceAdd, Int.reduceAdd, Int.reduceEq, Int.reduceLT, Int.reduceLE, arr_pos, arr_neg, tab_len]
theorem mk_VarS (l : List Vr) (k : Int) (hk : 0 ≤ k ∧ k ≤ 9200000000000000000) (hl : Few l) {Q : List AV → Prop} (h : ∀ l', Q [⟨I, k + 3 * l.length⟩, ⟨L V3, l'⟩]) : mc.C f_laws_markVarS [⟨L V3, l⟩, ⟨I, k⟩] Q := by
  have hl := few_lim hl
  refine mc.c_of F_laws_markVarS ?_
  simp (contextual := true) (maxSteps := 1000000) (disch := omega) only [↓Sd, ↓So, ↓Sk, ↓den, ↓denA, Sa, Sb, Sc, Se, O1.d, O2.d, O3.d, cmI, arI, envOf, putN, ↓reduceIte, Nat.reduceLT, Nat.reduceSub, Nat.reduceAdd, Int.reduceAdd, Int.reduceEq, Int.reduceLT, Int.reduceLE, arr_pos, arr_neg, tr_laws_markVarS]
  refine mc.lp_for (List Vr) (fun i s => [⟨I, k + 3 * (i : Int)⟩, ⟨I, (i : Int)⟩, ⟨L V3, s⟩]) (fun i s => s.length = l.length) l.length 0 l _ (by simp) (Nat.zero_le _) rfl ?_ ?_
  · rintro i s hi hs
    simp (contextual := true) (maxSteps := 1000000) (disch := omega) only [↓Sd, ↓So, ↓Sk, ↓den, ↓denA, Sa, Sb, Sc, Se, O1.d, O2.d, O3.d, cmI, arI, envOf, putN, ↓reduceIte, Nat.reduceLT, Nat.reduceSub, Nat.reduceAdd, Int.reduceAdd, Int.reduceEq, Int.reduceLT, Int.reduceLE, arr_pos, arr_neg, List.length_set, getD_set_eq, List.set_set]
    exact ⟨_, ⟨iD (by omega), rfl⟩, by simp [hs]⟩
  · rintro s hs
    simp (contextual := true) (maxSteps := 1000000) (disch := omega) only [↓Sd, ↓So, ↓Sk, ↓den, ↓denA, Sa, Sb, Sc, Se, O1.d, O2.d, O3.d, cmI, arI, envOf, putN, ↓reduceIte, Nat.reduceLT, Nat.reduceSub, Nat.reduceAdd, Int.reduceAdd, Int.reduceEq, Int.reduceLT, Int.reduceLE, arr_pos, arr_neg, ]
    exact h s
theorem mk_TermS (l : List Tm) (k : Int) (hk : 0 ≤ k ∧ k ≤ 9200000000000000000) (hl : Few l) {Q : List AV → Prop} (h : ∀ l', Q [⟨I, k + 4 * l.length⟩, ⟨L T4, l'⟩]) : mc.C f_laws_markTermS [⟨L T4, l⟩, ⟨I, k⟩] Q := by
  have hl := few_lim hl
  refine mc.c_of F_laws_markTermS ?_
  simp (contextual := true) (maxSteps := 1000000) (disch := omega) only [↓Sd, ↓So, ↓Sk, ↓den, ↓denA, Sa, Sb, Sc, Se, O1.d, O2.d, O3.d, cmI, arI, envOf, putN, ↓reduceIte, Nat.reduceLT, Nat.reduceSub, Nat.reduceAdd, Int.reduceAdd, Int.reduceEq, Int.reduceLT, Int.reduceLE, arr_pos, arr_neg, tr_laws_markTermS]
  refine mc.lp_for (List Tm) (fun i s => [⟨I, k + 4 * (i : Int)⟩, ⟨I, (i : Int)⟩, ⟨L T4, s⟩]) (fun i s => s.length = l.length) l.length 0 l _ (by simp) (Nat.zero_le _) rfl ?_ ?_
  · rintro i s hi hs
    simp (contextual := true) (maxSteps := 1000000) (disch := omega) only [↓Sd, ↓So, ↓Sk, ↓den, ↓denA, Sa, Sb, Sc, Se, O1.d, O2.d, O3.d, cmI, arI, envOf, putN, ↓reduceIte, Nat.reduceLT, Nat.reduceSub, Nat.reduceAdd, Int.reduceAdd, Int.reduceEq, Int.reduceLT, Int.reduceLE, arr_pos, arr_neg, List.length_set, getD_set_eq, List.set_set]
    exact ⟨_, ⟨iD (by omega), rfl⟩, by simp [hs]⟩
  · rintro s hs
    simp (contextual := true) (maxSteps := 1000000) (disch := omega) only [↓Sd, ↓So, ↓Sk, ↓den, ↓denA, Sa, Sb, Sc, Se, O1.d, O2.d, O3.d, cmI, arI, envOf, putN, ↓reduceIte, Nat.reduceLT, Nat.reduceSub, Nat.reduceAdd, Int.reduceAdd, Int.reduceEq, Int.reduceLT, Int.reduceLE, arr_pos, arr_neg, ]
    exact h s
theorem mk_TermSS (l : List (List Tm)) (k : Int) (hk : 0 ≤ k ∧ k ≤ 9100000000000000000) (hl : Few l) (hl2 : ∀ x ∈ l, Few x) {Q : List AV → Prop} (h : ∀ k' l', k ≤ k' ∧ k' ≤ k + 4398046511104 → Q [⟨I, k'⟩, ⟨L (L T4), l'⟩]) : mc.C f_laws_markTermSS [⟨L (L T4), l⟩, ⟨I, k⟩] Q := by
  have hl := few_lim hl
  refine mc.c_of F_laws_markTermSS ?_
  simp (contextual := true) (maxSteps := 1000000) (disch := omega) only [↓Sd, ↓So, ↓Sk, ↓den, ↓denA, Sa, Sb, Sc, Se, O1.d, O2.d, O3.d, cmI, arI, envOf, putN, ↓reduceIte, Nat.reduceLT, Nat.reduceSub, Nat.reduceAdd, Int.reduceAdd, Int.reduceEq, Int.reduceLT, Int.reduceLE, arr_pos, arr_neg, tr_laws_markTermSS]
  refine mc.lp_for (Int × List (List Tm)) (fun i s => [⟨I, s.1⟩, ⟨I, (i : Int)⟩, ⟨L (L T4), s.2⟩]) (fun i s => (k ≤ s.1 ∧ s.1 ≤ k + 4194304 * (i : Int)) ∧ Same l s.2 [] i) l.length 0 (k, l) _ (by simp) (Nat.zero_le _) ⟨⟨by simp, by simp⟩, Same.refl⟩ ?_ ?_
  · rintro i ⟨m, s⟩ hi ⟨⟨hm1, hm2⟩, hs⟩
    simp only at hm1 hm2 hs
    have hsl := hs.1
    have hsi := hs.2 i (Nat.le_refl _)
    have hf := hl2 _ (getD_mem (d := []) hi)
    have hf' := few_lim hf
    simp (contextual := true) (maxSteps := 1000000) (disch := omega) only [↓Sd, ↓So, ↓Sk, ↓den, ↓denA, Sa, Sb, Sc, Se, O1.d, O2.d, O3.d, cmI, arI, envOf, putN, ↓reduceIte, Nat.reduceLT, Nat.reduceSub, Nat.reduceAdd, Int.reduceAdd, Int.reduceEq, Int.reduceLT, Int.reduceLE, arr_pos, arr_neg, hsi]
    refine mk_TermS _ m (by omega) hf fun l' => ?_
    simp (contextual := true) (maxSteps := 1000000) (disch := omega) only [↓Sd, ↓So, ↓Sk, ↓den, ↓denA, Sa, Sb, Sc, Se, O1.d, O2.d, O3.d, cmI, arI, envOf, putN, ↓reduceIte, Nat.reduceLT, Nat.reduceSub, Nat.reduceAdd, Int.reduceAdd, Int.reduceEq, Int.reduceLT, Int.reduceLE, arr_pos, arr_neg, ]
    exact ⟨(_, _), ⟨rfl, rfl⟩, ⟨by omega, by omega⟩, hs.set⟩
  · rintro ⟨m, s⟩ ⟨⟨hm1, hm2⟩, hs⟩
    simp only at hm1 hm2 hs
    have hsl := hs.1
    simp (contextual := true) (maxSteps := 1000000) (disch := omega) only [↓Sd, ↓So, ↓Sk, ↓den, ↓denA, Sa, Sb, Sc, Se, O1.d, O2.d, O3.d, cmI, arI, envOf, putN, ↓reduceIte, Nat.reduceLT, Nat.reduceSub, Nat.reduceAdd, Int.reduceAdd, Int.reduceEq, Int.reduceLT, Int.reduceLE, arr_pos, arr_neg, ]
    exact h m s ⟨by omega, by omega⟩
theorem mk_RuleS (l : List Ru) (k : Int) (hk : 0 ≤ k ∧ k ≤ 4400000000000000000) (hl : Few l) (hl2 : ∀ x ∈ l, FewRu x) {Q : List AV → Prop} (h : ∀ k' l', k ≤ k' ∧ k' ≤ k + 4611691515985526784 → Q [⟨I, k'⟩, ⟨L TR, l'⟩]) : mc.C f_laws_markRuleS [⟨L TR, l⟩, ⟨I, k⟩] Q := by
  have hl := few_lim hl
  refine mc.c_of F_laws_markRuleS ?_
  simp (contextual := true) (maxSteps := 1000000) (disch := omega) only [↓Sd, ↓So, ↓Sk, ↓den, ↓denA, Sa, Sb, Sc, Se, O1.d, O2.d, O3.d, cmI, arI, envOf, putN, ↓reduceIte, Nat.reduceLT, Nat.reduceSub, Nat.reduceAdd, Int.reduceAdd, Int.reduceEq, Int.reduceLT, Int.reduceLE, arr_pos, arr_neg, tr_laws_markRuleS]
  refine mc.lp_for (Int × List Ru) (fun i s => [⟨I, s.1⟩, ⟨I, (i : Int)⟩, ⟨L TR, s.2⟩]) (fun i s => (k ≤ s.1 ∧ s.1 ≤ k + 4398051753984 * (i : Int)) ∧ Same l s.2 ([], [], []) i) l.length 0 (k, l) _ (by simp) (Nat.zero_le _) ⟨⟨by simp, by simp⟩, Same.refl⟩ ?_ ?_
  · rintro i ⟨m, s⟩ hi ⟨⟨hm1, hm2⟩, hs⟩
    simp only at hm1 hm2 hs
    have hsl := hs.1
    have hsi := hs.2 i (Nat.le_refl _)
    obtain ⟨c1, c2, c3, c4⟩ := hl2 _ (getD_mem (d := ([], [], [])) hi)
    have c1' := few_lim c1
    have c2' := few_lim c2
    obtain ⟨r, hr⟩ : ∃ r, l.getD i ([], [], []) = r := ⟨_, rfl⟩
    rw [hr] at hsi c1 c2 c3 c4 c1' c2'
    simp (contextual := true) (maxSteps := 1000000) (disch := omega) only [↓Sd, ↓So, ↓Sk, ↓den, ↓denA, Sa, Sb, Sc, Se, O1.d, O2.d, O3.d, cmI, arI, envOf, putN, ↓reduceIte, Nat.reduceLT, Nat.reduceSub, Nat.reduceAdd, Int.reduceAdd, Int.reduceEq, Int.reduceLT, Int.reduceLE, arr_pos, arr_neg, hsi]
    refine mk_TermS r.1 m (by omega) c1 fun l1 => ?_
    simp (contextual := true) (maxSteps := 1000000) (disch := omega) only [↓Sd, ↓So, ↓Sk, ↓den, ↓denA, Sa, Sb, Sc, Se, O1.d, O2.d, O3.d, cmI, arI, envOf, putN, ↓reduceIte, Nat.reduceLT, Nat.reduceSub, Nat.reduceAdd, Int.reduceAdd, Int.reduceEq, Int.reduceLT, Int.reduceLE, arr_pos, arr_neg, hsi, List.length_set, getD_set_eq, List.set_set, mk_IntS r.2.1 (m + 4 * r.1.length) (by omega) (by omega)]
    refine mk_TermSS r.2.2 _ (by omega) c3 c4 fun k' l' hk' => ?_
    simp (contextual := true) (maxSteps := 1000000) (disch := omega) only [↓Sd, ↓So, ↓Sk, ↓den, ↓denA, Sa, Sb, Sc, Se, O1.d, O2.d, O3.d, cmI, arI, envOf, putN, ↓reduceIte, Nat.reduceLT, Nat.reduceSub, Nat.reduceAdd, Int.reduceAdd, Int.reduceEq, Int.reduceLT, Int.reduceLE, arr_pos, arr_neg, hsi, List.length_set, getD_set_eq, List.set_set]
    exact ⟨(_, _), ⟨rfl, rfl⟩, ⟨by omega, by omega⟩, hs.set⟩
  · rintro ⟨m, s⟩ ⟨⟨hm1, hm2⟩, hs⟩
    simp only at hm1 hm2 hs
    have hsl := hs.1
    simp (contextual := true) (maxSteps := 1000000) (disch := omega) only [↓Sd, ↓So, ↓Sk, ↓den, ↓denA, Sa, Sb, Sc, Se, O1.d, O2.d, O3.d, cmI, arI, envOf, putN, ↓reduceIte, Nat.reduceLT, Nat.reduceSub, Nat.reduceAdd, Int.reduceAdd, Int.reduceEq, Int.reduceLT, Int.reduceLE, arr_pos, arr_neg, ]
    exact h m s ⟨by omega, by omega⟩
theorem mk_System (s : Sy) (k : Int) (hk : 0 ≤ k ∧ k ≤ 4000000000000000000) (h : FewSy s) {Q : List AV → Prop} (hQ : ∀ k' v r, k ≤ k' ∧ k' ≤ k + 4611691515988672512 → Q [⟨I, k'⟩, ⟨L V3, v⟩, ⟨L TR, r⟩]) : mc.C f_laws_markSystem [⟨L V3, s.1⟩, ⟨L TR, s.2⟩, ⟨I, k⟩] Q := by
  obtain ⟨h1, h2, h3⟩ := h
  have h1' := few_lim h1
  refine mc.c_of F_laws_markSystem ?_
  simp (contextual := true) (maxSteps := 1000000) (disch := omega) only [↓Sd, ↓So, ↓Sk, ↓den, ↓denA, Sa, Sb, Sc, Se, O1.d, O2.d, O3.d, cmI, arI, envOf, putN, ↓reduceIte, Nat.reduceLT, Nat.reduceSub, Nat.reduceAdd, Int.reduceAdd, Int.reduceEq, Int.reduceLT, Int.reduceLE, arr_pos, arr_neg, tr_laws_markSystem]
  refine mk_VarS _ k (by omega) h1 fun l' => ?_
  simp (contextual := true) (maxSteps := 1000000) (disch := omega) only [↓Sd, ↓So, ↓Sk, ↓den, ↓denA, Sa, Sb, Sc, Se, O1.d, O2.d, O3.d, cmI, arI, envOf, putN, ↓reduceIte, Nat.reduceLT, Nat.reduceSub, Nat.reduceAdd, Int.reduceAdd, Int.reduceEq, Int.reduceLT, Int.reduceLE, arr_pos, arr_neg, ]
  refine mk_RuleS _ _ (by omega) h2 h3 fun k' r hk' => ?_
  simp (contextual := true) (maxSteps := 1000000) (disch := omega) only [↓Sd, ↓So, ↓Sk, ↓den, ↓denA, Sa, Sb, Sc, Se, O1.d, O2.d, O3.d, cmI, arI, envOf, putN, ↓reduceIte, Nat.reduceLT, Nat.reduceSub, Nat.reduceAdd, Int.reduceAdd, Int.reduceEq, Int.reduceLT, Int.reduceLE, arr_pos, arr_neg, ]
  exact hQ k' _ r ⟨by omega, by omega⟩

/-! ### Laws -/
theorem upTo_few {p : Nat → Bool} {s : Sy} (h : valid s) : (upTo p (szn s.1)).length ≤ 400 := by
  have h1 := @upTo_len p (szn s.1)
  have h2 := szn_eq h
  omega
theorem ite_few {c : Prop} [Decidable c] {l : List Int} (h : c → l.length ≤ 400) : (if c then l else []).length ≤ 400 := by
  split
  · rename_i g; exact h g
  · simp
theorem few_i {l : List Int} (h : l.length ≤ 1048576) : Few l := h
theorem shr_nat {n k : Nat} (hk : k ≤ 60) : shI false .i64 (n : Int) (k : Int) = ((n / 2 ^ k : Nat) : Int) := by
  have h : min (k : Int).toNat IntKind.i64.bits = k := by simp [IntKind.bits]; omega
  unfold shI
  rw [h]
  simp only [Bool.false_eq_true, if_false]
  rw [Int.fdiv_eq_ediv_of_nonneg _ (Int.le_of_lt (Int.pow_pos (by omega)))]
  simp
theorem and_one {n : Nat} (h : n < 9223372036854775808) : IntKind.i64.wrap ((BitVec.ofInt IntKind.i64.bits (n : Int) &&& BitVec.ofInt IntKind.i64.bits 1).toNat : Int) = ((n % 2 : Nat) : Int) := by
  have e : (BitVec.ofInt 64 (n : Int) &&& BitVec.ofInt 64 1).toNat = n % 2 := by
    rw [BitVec.toNat_and, BitVec.toNat_ofInt, BitVec.toNat_ofInt]
    rw [show ((n : Int) % ((2 ^ 64 : Nat) : Int)).toNat = n by omega, show ((1 : Int) % ((2 ^ 64 : Nat) : Int)).toNat = 1 by decide]
    exact Nat.and_one_is_mod n
  have e2 : (BitVec.ofInt IntKind.i64.bits (n : Int) &&& BitVec.ofInt IntKind.i64.bits 1).toNat = n % 2 := e
  rw [e2]
  exact wrap_id (by omega) (by omega)
/-- A number as so many bits. -/
def vb (n w : Nat) : List Int := tab (fun i => ((n / 2 ^ (w - 1 - i) % 2 : Nat) : Int)) w
theorem vb_len {n w : Nat} : (vb n w).length = w := tab_len
theorem vb_bit {n w : Nat} : ∀ x ∈ vb n w, x = 0 ∨ x = 1 := by
  intro x hx
  simp only [vb, tab, List.mem_map, List.mem_range] at hx
  obtain ⟨i, _, rfl⟩ := hx
  omega
theorem C_impl_valueBits (n w : Nat) (hn : n ≤ 1000) (hw : w ≤ 12) (Q : List AV → Prop) : mc.C f_impl_valueBits [⟨I, (n : Int)⟩, ⟨I, (w : Int)⟩] Q = Q [⟨L I, vb n w⟩] := by
  refine Mc.Ends.c (mc.ends F_impl_valueBits ?_)
  simp (contextual := true) (maxSteps := 1000000) (disch := omega) only [↓Sd, ↓So, ↓Sk, ↓den, ↓denA, Sa, Sb, Sc, Se, O1.d, O2.d, O3.d, cmI, arI, envOf, putN, ↓reduceIte, Nat.reduceLT, Nat.reduceSub, Nat.reduceAdd, Int.reduceAdd, Int.reduceEq, Int.reduceLT, Int.reduceLE, arr_pos, arr_neg, tr_impl_valueBits, List.length_replicate]
  refine mc.lp_for (List Int) (fun i o => [⟨I, (n : Int)⟩, ⟨I, (w : Int)⟩, ⟨I, (w : Int)⟩, ⟨I, (i : Int)⟩, ⟨L I, o⟩]) (fun i o => o = tab (fun i => ((n / 2 ^ (w - 1 - i) % 2 : Nat) : Int)) i ++ List.replicate (w - i) 0) w 0 (List.replicate w 0) _ rfl (Nat.zero_le _) (by simp [tab]) ?_ ?_
  · rintro i o hi rfl
    have e : (w : Int) - 1 - (i : Int) = ((w - 1 - i : Nat) : Int) := by omega
    have hd : n / 2 ^ (w - 1 - i) ≤ n := Nat.div_le_self _ _
    simp (contextual := true) (maxSteps := 1000000) (disch := omega) only [↓Sd, ↓So, ↓Sk, ↓den, ↓denA, Sa, Sb, Sc, Se, O1.d, O2.d, O3.d, cmI, arI, envOf, putN, ↓reduceIte, Nat.reduceLT, Nat.reduceSub, Nat.reduceAdd, Int.reduceAdd, Int.reduceEq, Int.reduceLT, Int.reduceLE, arr_pos, arr_neg, e, shr_nat (n := n) (show w - 1 - i ≤ 60 by omega), and_one (show n / 2 ^ (w - 1 - i) < 9223372036854775808 by omega), tab_len, List.length_replicate]
    exact tab_set hi rfl
  · rintro o rfl
    simp (contextual := true) (maxSteps := 1000000) (disch := omega) only [↓Sd, ↓So, ↓Sk, ↓den, ↓denA, Sa, Sb, Sc, Se, O1.d, O2.d, O3.d, cmI, arI, envOf, putN, ↓reduceIte, Nat.reduceLT, Nat.reduceSub, Nat.reduceAdd, Int.reduceAdd, Int.reduceEq, Int.reduceLT, Int.reduceLE, arr_pos, arr_neg, ]
    simp [vb]
theorem C_spec_l6Value (n w : Nat) (hn : n ≤ 1000) (hw : w ≤ 12) (Q : List AV → Prop) : mc.C f_spec_l6Value [⟨I, (n : Int)⟩, ⟨I, (w : Int)⟩] Q = Q [⟨L I, vb n w⟩] := by
  refine Mc.Ends.c (mc.ends F_spec_l6Value ?_)
  simp (contextual := true) (maxSteps := 1000000) (disch := omega) only [↓Sd, ↓So, ↓Sk, ↓den, ↓denA, Sa, Sb, Sc, Se, O1.d, O2.d, O3.d, cmI, arI, envOf, putN, ↓reduceIte, Nat.reduceLT, Nat.reduceSub, Nat.reduceAdd, Int.reduceAdd, Int.reduceEq, Int.reduceLT, Int.reduceLE, arr_pos, arr_neg, tr_spec_l6Value]
  refine mc.lp_for (List Int) (fun i o => [⟨I, (n : Int)⟩, ⟨I, (w : Int) - 1 - (i : Int)⟩, ⟨L I, o⟩]) (fun i o => o = tab (fun i => ((n / 2 ^ (w - 1 - i) % 2 : Nat) : Int)) i) w 0 [] _ (by simp) (Nat.zero_le _) rfl ?_ ?_
  · rintro i o hi rfl
    have e : (w : Int) - 1 - (i : Int) = ((w - 1 - i : Nat) : Int) := by omega
    have e2 : (w : Int) - 1 - ((i : Int) + 1) = ((w - 1 - i : Nat) : Int) - 1 := by omega
    simp (contextual := true) (maxSteps := 1000000) (disch := omega) only [↓Sd, ↓So, ↓Sk, ↓den, ↓denA, Sa, Sb, Sc, Se, O1.d, O2.d, O3.d, cmI, arI, envOf, putN, ↓reduceIte, Nat.reduceLT, Nat.reduceSub, Nat.reduceAdd, Int.reduceAdd, Int.reduceEq, Int.reduceLT, Int.reduceLE, arr_pos, arr_neg, e, e2, shr_nat (n := n) (show w - 1 - i ≤ 60 by omega), tab_len]
    exact tab_next
  · rintro o rfl
    have e : (w : Int) - 1 - (w : Int) = -1 := by omega
    simp (contextual := true) (maxSteps := 1000000) (disch := omega) only [↓Sd, ↓So, ↓Sk, ↓den, ↓denA, Sa, Sb, Sc, Se, O1.d, O2.d, O3.d, cmI, arI, envOf, putN, ↓reduceIte, Nat.reduceLT, Nat.reduceSub, Nat.reduceAdd, Int.reduceAdd, Int.reduceEq, Int.reduceLT, Int.reduceLE, arr_pos, arr_neg, e]
    rfl
/-- The bits of a state, up to a variable. -/
def sbN (l : List Vr) (st : List Int) : Nat → List Int
  | 0 => []
  | i + 1 => sbN l st i ++ vb (st.getD i 0 - (l.getD i (0, 0, 0)).1).toNat (bw l i).toNat
def sb (s : Sy) (st : List Int) : List Int := sbN s.1 st s.1.length
theorem bw_bd (l : List Vr) (i : Nat) : 0 ≤ bw l i ∧ bw l i ≤ 5 := bn_bd _
theorem sbN_len {l : List Vr} {st : List Int} : ∀ {i : Nat}, ((sbN l st i).length : Int) = sumN (bw l) i
  | 0 => rfl
  | i + 1 => by
    have h := bw_bd l i
    have ih := @sbN_len l st i
    simp only [sbN, sumN, List.length_append, vb_len]
    omega
theorem sb_len {s : Sy} {st : List Int} : ((sb s st).length : Int) = bc s.1 := sbN_len
theorem bc_bd {s : Sy} (h : valid s) : 0 ≤ bc s.1 ∧ bc s.1 ≤ 25 := by
  have h1 := sumN_bd (f := bw s.1) (bw_bd s.1) s.1.length
  have h2 := h.1.2
  unfold bc
  omega
theorem sbN_bit {l : List Vr} {st : List Int} : ∀ {i : Nat}, ∀ x ∈ sbN l st i, x = 0 ∨ x = 1
  | 0, x, h => by simp [sbN] at h
  | i + 1, x, h => by
    simp only [sbN, List.mem_append] at h
    exact h.elim (sbN_bit x) (vb_bit x)
theorem off_bd {s : Sy} {st : List Int} (h : valid s) (hst : inR s.1 st) {i : Nat} (hi : i < s.1.length) : ∃ m : Nat, st.getD i 0 - (s.1.getD i (0, 0, 0)).1 = m ∧ m < 20 ∧ (-10000 ≤ st.getD i 0 ∧ st.getD i 0 ≤ 10000) ∧ -10000 ≤ (s.1.getD i (0, 0, 0)).1 ∧ (s.1.getD i (0, 0, 0)).1 ≤ 10000 := by
  have h1 := hst.2 i hi
  have h2 := h.2.2.1 _ (getD_mem (d := (0, 0, 0)) hi)
  unfold vOk at h2
  exact ⟨(st.getD i 0 - (s.1.getD i (0, 0, 0)).1).toNat, by omega, by omega, by omega, by omega, by omega⟩
theorem C_impl_stateBits (s : Sy) (st : List Int) (h : valid s) (hst : inR s.1 st) (Q : List AV → Prop) : mc.C f_impl_stateBits [⟨L V3, s.1⟩, ⟨L TR, s.2⟩, ⟨L I, st⟩] Q = Q [⟨L I, sb s st⟩] := by
  have h5 := h.1.2
  have hl := hst.1
  refine Mc.Ends.c (mc.ends F_impl_stateBits ?_)
  simp (contextual := true) (maxSteps := 1000000) (disch := omega) only [↓Sd, ↓So, ↓Sk, ↓den, ↓denA, Sa, Sb, Sc, Se, O1.d, O2.d, O3.d, cmI, arI, envOf, putN, ↓reduceIte, Nat.reduceLT, Nat.reduceSub, Nat.reduceAdd, Int.reduceAdd, Int.reduceEq, Int.reduceLT, Int.reduceLE, arr_pos, arr_neg, tr_impl_stateBits, C_impl_bitsOf s h, tab_len]
  refine mc.lp_for (List Int) (fun i o => [⟨L I, st⟩, ⟨I, (s.1.length : Int)⟩, ⟨I, (i : Int)⟩, ⟨L V3, s.1⟩, ⟨L TR, s.2⟩, ⟨L I, o⟩, ⟨L I, tab (bw s.1) s.1.length⟩]) (fun i o => o = sbN s.1 st i) s.1.length 0 [] _ rfl (Nat.zero_le _) rfl ?_ ?_
  · rintro i o hi rfl
    obtain ⟨m, hm, hm2, hm3, hm4⟩ := off_bd h hst hi
    have hb := bw_bd s.1 i
    obtain ⟨w, hw⟩ : ∃ w : Nat, bw s.1 i = w := ⟨(bw s.1 i).toNat, by omega⟩
    have hlen := @sbN_len s.1 st i
    have hsum := sumN_bd (f := bw s.1) (bw_bd s.1) i
    have e : sbN s.1 st (i + 1) = sbN s.1 st i ++ vb m w := by simp only [sbN, hm, hw, Int.toNat_natCast]
    simp (contextual := true) (maxSteps := 1000000) (disch := omega) only [↓Sd, ↓So, ↓Sk, ↓den, ↓denA, Sa, Sb, Sc, Se, O1.d, O2.d, O3.d, cmI, arI, envOf, putN, ↓reduceIte, Nat.reduceLT, Nat.reduceSub, Nat.reduceAdd, Int.reduceAdd, Int.reduceEq, Int.reduceLT, Int.reduceLE, arr_pos, arr_neg, tab_len, tab_get hi, hm, hw, C_impl_valueBits m w (by omega) (by omega), vb_len]
    exact e.symm
  · rintro o rfl
    have hlen := @sb_len s st
    have hb := bc_bd h
    simp (contextual := true) (maxSteps := 1000000) (disch := omega) only [↓Sd, ↓So, ↓Sk, ↓den, ↓denA, Sa, Sb, Sc, Se, O1.d, O2.d, O3.d, cmI, arI, envOf, putN, ↓reduceIte, Nat.reduceLT, Nat.reduceSub, Nat.reduceAdd, Int.reduceAdd, Int.reduceEq, Int.reduceLT, Int.reduceLE, arr_pos, arr_neg, C_impl_clone_int (sb s st) (by omega)]
    have e : sbN s.1 st s.1.length = sb s st := rfl
    simp (contextual := true) (maxSteps := 1000000) (disch := omega) only [↓Sd, ↓So, ↓Sk, ↓den, ↓denA, Sa, Sb, Sc, Se, O1.d, O2.d, O3.d, cmI, arI, envOf, putN, ↓reduceIte, Nat.reduceLT, Nat.reduceSub, Nat.reduceAdd, Int.reduceAdd, Int.reduceEq, Int.reduceLT, Int.reduceLE, arr_pos, arr_neg, e, C_impl_clone_int (sb s st) (by omega)]
theorem C_spec_l6State (s : Sy) (st : List Int) (h : valid s) (hst : inR s.1 st) (Q : List AV → Prop) : mc.C f_spec_l6State [⟨L V3, s.1⟩, ⟨L TR, s.2⟩, ⟨L I, st⟩] Q = Q [⟨L I, sb s st⟩] := by
  have h5 := h.1.2
  have hl := hst.1
  refine Mc.Ends.c (mc.ends F_spec_l6State ?_)
  simp (contextual := true) (maxSteps := 1000000) (disch := omega) only [↓Sd, ↓So, ↓Sk, ↓den, ↓denA, Sa, Sb, Sc, Se, O1.d, O2.d, O3.d, cmI, arI, envOf, putN, ↓reduceIte, Nat.reduceLT, Nat.reduceSub, Nat.reduceAdd, Int.reduceAdd, Int.reduceEq, Int.reduceLT, Int.reduceLE, arr_pos, arr_neg, tr_spec_l6State, C_spec_l6Widths s h]
  refine mc.lp_for (List Int) (fun i o => [⟨L I, st⟩, ⟨I, (i : Int)⟩, ⟨L V3, s.1⟩, ⟨L TR, s.2⟩, ⟨L I, o⟩, ⟨L I, tab (bw s.1) s.1.length⟩]) (fun i o => o = sbN s.1 st i) s.1.length 0 [] _ rfl (Nat.zero_le _) rfl ?_ ?_
  · rintro i o hi rfl
    obtain ⟨m, hm, hm2, hm3, hm4⟩ := off_bd h hst hi
    have hb := bw_bd s.1 i
    obtain ⟨w, hw⟩ : ∃ w : Nat, bw s.1 i = w := ⟨(bw s.1 i).toNat, by omega⟩
    have hlen := @sbN_len s.1 st i
    have hsum := sumN_bd (f := bw s.1) (bw_bd s.1) i
    have e : sbN s.1 st (i + 1) = sbN s.1 st i ++ vb m w := by simp only [sbN, hm, hw, Int.toNat_natCast]
    simp (contextual := true) (maxSteps := 1000000) (disch := omega) only [↓Sd, ↓So, ↓Sk, ↓den, ↓denA, Sa, Sb, Sc, Se, O1.d, O2.d, O3.d, cmI, arI, envOf, putN, ↓reduceIte, Nat.reduceLT, Nat.reduceSub, Nat.reduceAdd, Int.reduceAdd, Int.reduceEq, Int.reduceLT, Int.reduceLE, arr_pos, arr_neg, tab_len, tab_get hi, hm, hw, C_spec_l6Value m w (by omega) (by omega)]
    refine mc.lp_for (List Int) (fun j o => [⟨L I, st⟩, ⟨I, (i : Int)⟩, ⟨I, (j : Int)⟩, ⟨L V3, s.1⟩, ⟨L TR, s.2⟩, ⟨L I, o⟩, ⟨L I, tab (bw s.1) s.1.length⟩, ⟨L I, vb m w⟩]) (fun j o => o = sbN s.1 st i ++ (vb m w).take j) w 0 _ _ rfl (Nat.zero_le _) (by simp) ?_ ?_
    · rintro j o hj rfl
      have hj' : j < (vb m w).length := by rw [vb_len]; exact hj
      have hol : (sbN s.1 st i).length + ((vb m w).take j).length ≤ 1000 := by rw [List.length_take, vb_len]; omega
      simp (contextual := true) (maxSteps := 1000000) (disch := omega) only [↓Sd, ↓So, ↓Sk, ↓den, ↓denA, Sa, Sb, Sc, Se, O1.d, O2.d, O3.d, cmI, arI, envOf, putN, ↓reduceIte, Nat.reduceLT, Nat.reduceSub, Nat.reduceAdd, Int.reduceAdd, Int.reduceEq, Int.reduceLT, Int.reduceLE, arr_pos, arr_neg, vb_len, List.length_append]
      rw [List.append_assoc, take_next hj']
    · rintro o rfl
      simp (contextual := true) (maxSteps := 1000000) (disch := omega) only [↓Sd, ↓So, ↓Sk, ↓den, ↓denA, Sa, Sb, Sc, Se, O1.d, O2.d, O3.d, cmI, arI, envOf, putN, ↓reduceIte, Nat.reduceLT, Nat.reduceSub, Nat.reduceAdd, Int.reduceAdd, Int.reduceEq, Int.reduceLT, Int.reduceLE, arr_pos, arr_neg, vb_len]
      rw [e, List.take_of_length_le (by rw [vb_len]; exact Nat.le_refl _)]
  · rintro o rfl
    simp (contextual := true) (maxSteps := 1000000) (disch := omega) only [↓Sd, ↓So, ↓Sk, ↓den, ↓denA, Sa, Sb, Sc, Se, O1.d, O2.d, O3.d, cmI, arI, envOf, putN, ↓reduceIte, Nat.reduceLT, Nat.reduceSub, Nat.reduceAdd, Int.reduceAdd, Int.reduceEq, Int.reduceLT, Int.reduceLE, arr_pos, arr_neg, ]
    rfl

/-! ### Cubes -/
def cHas (c b : List Int) : Prop := ∀ i, i < c.length → c.getD i 0 = 2 ∨ c.getD i 0 = b.getD i 0
theorem C_impl_cubeHas (c b : List Int) (hc : c.length ≤ 1048576) (h : c.length = b.length) (Q : List AV → Prop) : mc.C f_impl_cubeHas [⟨L I, c⟩, ⟨L I, b⟩] Q = Q [⟨B, dB (cHas c b)⟩] := by
  refine Mc.Ends.c (mc.ends F_impl_cubeHas ?_)
  generalize hK : dB (cHas c b) = K
  simp (contextual := true) (maxSteps := 1000000) (disch := omega) only [↓Sd, ↓So, ↓Sk, ↓den, ↓denA, Sa, Sb, Sc, Se, O1.d, O2.d, O3.d, cmI, arI, envOf, putN, ↓reduceIte, Nat.reduceLT, Nat.reduceSub, Nat.reduceAdd, Int.reduceAdd, Int.reduceEq, Int.reduceLT, Int.reduceLE, arr_pos, arr_neg, tr_impl_cubeHas]
  refine lp_all (fun i => [⟨L I, b⟩, ⟨L I, c⟩, ⟨I, (c.length : Int)⟩, ⟨I, (i : Int)⟩]) (fun i => c.getD i 0 = 2 ∨ c.getD i 0 = b.getD i 0) c.length _ rfl ?_ ?_
  · intro i hi
    have hno : ¬ (c.getD i 0 = 2 ∨ c.getD i 0 = b.getD i 0) → false = K := fun g => by rw [← hK, dB_f]; exact fun g1 => g (g1 i hi)
    simp (contextual := true) (maxSteps := 1000000) (disch := omega) only [↓Sd, ↓So, ↓Sk, ↓den, ↓denA, Sa, Sb, Sc, Se, O1.d, O2.d, O3.d, cmI, arI, envOf, putN, ↓reduceIte, Nat.reduceLT, Nat.reduceSub, Nat.reduceAdd, Int.reduceAdd, Int.reduceEq, Int.reduceLT, Int.reduceLE, arr_pos, arr_neg, ↓wpJoin, ]
    grind
  · intro g
    simp (contextual := true) (maxSteps := 1000000) (disch := omega) only [↓Sd, ↓So, ↓Sk, ↓den, ↓denA, Sa, Sb, Sc, Se, O1.d, O2.d, O3.d, cmI, arI, envOf, putN, ↓reduceIte, Nat.reduceLT, Nat.reduceSub, Nat.reduceAdd, Int.reduceAdd, Int.reduceEq, Int.reduceLT, Int.reduceLE, arr_pos, arr_neg, ]
    rw [← hK, dB_t]; exact g
theorem C_spec_l16Has (c b : List Int) (hc : c.length ≤ 1048576) (h : c.length = b.length) (Q : List AV → Prop) : mc.C f_spec_l16Has [⟨L I, c⟩, ⟨L I, b⟩] Q = Q [⟨B, dB (cHas c b)⟩] := by
  refine Mc.Ends.c (mc.ends F_spec_l16Has ?_)
  generalize hK : dB (cHas c b) = K
  simp (contextual := true) (maxSteps := 1000000) (disch := omega) only [↓Sd, ↓So, ↓Sk, ↓den, ↓denA, Sa, Sb, Sc, Se, O1.d, O2.d, O3.d, cmI, arI, envOf, putN, ↓reduceIte, Nat.reduceLT, Nat.reduceSub, Nat.reduceAdd, Int.reduceAdd, Int.reduceEq, Int.reduceLT, Int.reduceLE, arr_pos, arr_neg, tr_spec_l16Has]
  refine lp_all (fun i => [⟨L I, c⟩, ⟨L I, b⟩, ⟨I, (i : Int)⟩]) (fun i => c.getD i 0 = 2 ∨ c.getD i 0 = b.getD i 0) c.length _ rfl ?_ ?_
  · intro i hi
    have hno : ¬ (c.getD i 0 = 2 ∨ c.getD i 0 = b.getD i 0) → false = K := fun g => by rw [← hK, dB_f]; exact fun g1 => g (g1 i hi)
    simp (contextual := true) (maxSteps := 1000000) (disch := omega) only [↓Sd, ↓So, ↓Sk, ↓den, ↓denA, Sa, Sb, Sc, Se, O1.d, O2.d, O3.d, cmI, arI, envOf, putN, ↓reduceIte, Nat.reduceLT, Nat.reduceSub, Nat.reduceAdd, Int.reduceAdd, Int.reduceEq, Int.reduceLT, Int.reduceLE, arr_pos, arr_neg, ↓wpJoin, ]
    grind
  · intro g
    simp (contextual := true) (maxSteps := 1000000) (disch := omega) only [↓Sd, ↓So, ↓Sk, ↓den, ↓denA, Sa, Sb, Sc, Se, O1.d, O2.d, O3.d, cmI, arI, envOf, putN, ↓reduceIte, Nat.reduceLT, Nat.reduceSub, Nat.reduceAdd, Int.reduceAdd, Int.reduceEq, Int.reduceLT, Int.reduceLE, arr_pos, arr_neg, ]
    rw [← hK, dB_t]; exact g
/-- A cube over the bits of the states. -/
def cubeV (c : List Int) (m : Int) : Prop := (0 ≤ m ∧ m ≤ 12) ∧ (c.length : Int) = m ∧ ∀ i, i < c.length → 0 ≤ c.getD i 0 ∧ c.getD i 0 ≤ 2
instance (c : List Int) (m : Int) : Decidable (cubeV c m) := by unfold cubeV; infer_instance
theorem C_impl_CubeValid (c : List Int) (m : Int) (hc : c.length ≤ 1048576) (Q : List AV → Prop) : mc.C f_impl_CubeValid [⟨L I, c⟩, ⟨I, m⟩] Q = Q [⟨B, decide (cubeV c m)⟩] := by
  refine Mc.Ends.c (mc.ends F_impl_CubeValid ?_)
  generalize hK : decide (cubeV c m) = K
  simp (contextual := true) (maxSteps := 1000000) (disch := omega) only [↓Sd, ↓So, ↓Sk, ↓den, ↓denA, Sa, Sb, Sc, Se, O1.d, O2.d, O3.d, cmI, arI, envOf, putN, ↓reduceIte, Nat.reduceLT, Nat.reduceSub, Nat.reduceAdd, Int.reduceAdd, Int.reduceEq, Int.reduceLT, Int.reduceLE, arr_pos, arr_neg, tr_impl_CubeValid, C_impl_in]
  refine ⟨fun h1 => ⟨fun h2 => ?_, fun h2 => ?_⟩, fun h1 => ?_⟩
  · refine lp_all (fun i => [⟨L I, c⟩, ⟨I, m⟩, ⟨I, (i : Int)⟩]) (fun i => 0 ≤ c.getD i 0 ∧ c.getD i 0 ≤ 2) c.length _ rfl ?_ ?_
    · intro i hi
      have hno : ¬ (0 ≤ c.getD i 0 ∧ c.getD i 0 ≤ 2) → false = K := fun g => by rw [← hK, decide_eq_false]; exact fun g1 => g (g1.2.2 i hi)
      simp (contextual := true) (maxSteps := 1000000) (disch := omega) only [↓Sd, ↓So, ↓Sk, ↓den, ↓denA, Sa, Sb, Sc, Se, O1.d, O2.d, O3.d, cmI, arI, envOf, putN, ↓reduceIte, Nat.reduceLT, Nat.reduceSub, Nat.reduceAdd, Int.reduceAdd, Int.reduceEq, Int.reduceLT, Int.reduceLE, arr_pos, arr_neg, C_impl_in]
      intro g
      have := hno g
      have h0 : (i : Int) ≥ 0 := by omega
      simpa [h0] using this
    · intro g
      simp (contextual := true) (maxSteps := 1000000) (disch := omega) only [↓Sd, ↓So, ↓Sk, ↓den, ↓denA, Sa, Sb, Sc, Se, O1.d, O2.d, O3.d, cmI, arI, envOf, putN, ↓reduceIte, Nat.reduceLT, Nat.reduceSub, Nat.reduceAdd, Int.reduceAdd, Int.reduceEq, Int.reduceLT, Int.reduceLE, arr_pos, arr_neg, ]
      rw [← hK, decide_eq_true (show cubeV c m from ⟨h1, h2, g⟩)]
      rfl
  · rw [← hK, decide_eq_false]; exact fun g => h2 g.2.1
  · rw [← hK, decide_eq_false]; exact fun g => h1 g.1
theorem C_spec_CubeValid (c : List Int) (m : Int) (hc : c.length ≤ 1048576) (Q : List AV → Prop) : mc.C f_spec_CubeValid [⟨L I, c⟩, ⟨I, m⟩] Q = Q [⟨B, decide (cubeV c m)⟩] := by
  refine Mc.Ends.c (mc.ends F_spec_CubeValid ?_)
  generalize hK : decide (cubeV c m) = K
  simp (contextual := true) (maxSteps := 1000000) (disch := omega) only [↓Sd, ↓So, ↓Sk, ↓den, ↓denA, Sa, Sb, Sc, Se, O1.d, O2.d, O3.d, cmI, arI, envOf, putN, ↓reduceIte, Nat.reduceLT, Nat.reduceSub, Nat.reduceAdd, Int.reduceAdd, Int.reduceEq, Int.reduceLT, Int.reduceLE, arr_pos, arr_neg, tr_spec_CubeValid]
  refine lp_all (fun i => [⟨L I, c⟩, ⟨I, m⟩, ⟨I, (i : Int)⟩]) (fun i => 0 ≤ c.getD i 0 ∧ c.getD i 0 ≤ 2) c.length _ rfl ?_ ?_
  · intro i hi
    have hno : ¬ (0 ≤ c.getD i 0 ∧ c.getD i 0 ≤ 2) → false = K := fun g => by rw [← hK, decide_eq_false]; exact fun g1 => g (g1.2.2 i hi)
    simp (contextual := true) (maxSteps := 1000000) (disch := omega) only [↓Sd, ↓So, ↓Sk, ↓den, ↓denA, Sa, Sb, Sc, Se, O1.d, O2.d, O3.d, cmI, arI, envOf, putN, ↓reduceIte, Nat.reduceLT, Nat.reduceSub, Nat.reduceAdd, Int.reduceAdd, Int.reduceEq, Int.reduceLT, Int.reduceLE, arr_pos, arr_neg, C_spec_l1In]
    exact hno
  · intro g
    simp (contextual := true) (maxSteps := 1000000) (disch := omega) only [↓Sd, ↓So, ↓Sk, ↓den, ↓denA, Sa, Sb, Sc, Se, O1.d, O2.d, O3.d, cmI, arI, envOf, putN, ↓reduceIte, Nat.reduceLT, Nat.reduceSub, Nat.reduceAdd, Int.reduceAdd, Int.reduceEq, Int.reduceLT, Int.reduceLE, arr_pos, arr_neg, C_spec_l1In]
    rw [← hK]
    refine ⟨fun h1 => decide_eq_decide.2 ⟨fun h2 => ⟨h1, h2, g⟩, fun h2 => h2.2.1⟩, fun h1 => ?_⟩
    rw [eq_comm, decide_eq_false]; exact fun g => h1 g.1
noncomputable def inC (s : Sy) (c : List Int) (n : Nat) : Bool := dB (cHas c (sb s (stN s n)))
theorem cube_len {s : Sy} {c : List Int} (hc : (c.length : Int) = bc s.1) {st : List Int} : c.length = (sb s st).length := by have := @sb_len s st; omega
theorem C_impl_cubeStates (s : Sy) (c : List Int) (h : valid s) (hc : (c.length : Int) = bc s.1) (Q : List AV → Prop) : mc.C f_impl_cubeStates [⟨L V3, s.1⟩, ⟨L TR, s.2⟩, ⟨L I, c⟩] Q = Q [⟨L I, upTo (inC s c) (szn s.1)⟩] := by
  have hz := szn_eq h
  have hb := bc_bd h
  have h5 := h.1.2
  have hv := h.2.2.1
  refine Mc.Ends.c (mc.ends F_impl_cubeStates ?_)
  simp (contextual := true) (maxSteps := 1000000) (disch := omega) only [↓Sd, ↓So, ↓Sk, ↓den, ↓denA, Sa, Sb, Sc, Se, O1.d, O2.d, O3.d, cmI, arI, envOf, putN, ↓reduceIte, Nat.reduceLT, Nat.reduceSub, Nat.reduceAdd, Int.reduceAdd, Int.reduceEq, Int.reduceLT, Int.reduceLE, arr_pos, arr_neg, tr_impl_cubeStates, C_impl_size s.1 h5 hv, ← hz.1, List.length_replicate]
  refine mc.lp_for (List Bool) (fun i o => [⟨L I, c⟩, ⟨I, (szn s.1 : Int)⟩, ⟨I, (i : Int)⟩, ⟨L V3, s.1⟩, ⟨L TR, s.2⟩, ⟨L B, o⟩]) (fun i o => o = tab (inC s c) i ++ List.replicate (szn s.1 - i) false) (szn s.1) 0 (List.replicate (szn s.1) false) _ rfl (Nat.zero_le _) rfl ?_ ?_
  · rintro i o hi rfl
    have hin := stN_in h hi
    have hst : stAt s.1 (i : Int) = stN s i := rfl
    simp (contextual := true) (maxSteps := 1000000) (disch := omega) only [↓Sd, ↓So, ↓Sk, ↓den, ↓denA, Sa, Sb, Sc, Se, O1.d, O2.d, O3.d, cmI, arI, envOf, putN, ↓reduceIte, Nat.reduceLT, Nat.reduceSub, Nat.reduceAdd, Int.reduceAdd, Int.reduceEq, Int.reduceLT, Int.reduceLE, arr_pos, arr_neg, C_impl_stateAt s i h5 hv (by omega), hst, C_impl_stateBits s (stN s i) h hin, C_impl_cubeHas c (sb s (stN s i)) (by omega) (cube_len hc), tab_len, List.length_replicate]
    exact tab_set hi rfl
  · rintro o rfl
    rw [Nat.sub_self, List.replicate_zero, List.append_nil]
    simp (contextual := true) (maxSteps := 1000000) (disch := omega) only [↓Sd, ↓So, ↓Sk, ↓den, ↓denA, Sa, Sb, Sc, Se, O1.d, O2.d, O3.d, cmI, arI, envOf, putN, ↓reduceIte, Nat.reduceLT, Nat.reduceSub, Nat.reduceAdd, Int.reduceAdd, Int.reduceEq, Int.reduceLT, Int.reduceLE, arr_pos, arr_neg, C_impl_listOf_tab (inC s c) (szn s.1) (by omega)]
theorem C_spec_l16States (s : Sy) (c : List Int) (hs : FewSy s) (h : valid s) (hc : (c.length : Int) = bc s.1) (Q : List AV → Prop) : mc.C f_spec_l16States [⟨L V3, s.1⟩, ⟨L TR, s.2⟩, ⟨L I, c⟩] Q = Q [⟨L I, upTo (inC s c) (szn s.1)⟩] := by
  have hz := szn_eq h
  have hb := bc_bd h
  refine Mc.Ends.c (mc.ends F_spec_l16States ?_)
  simp (contextual := true) (maxSteps := 1000000) (disch := omega) only [↓Sd, ↓So, ↓Sk, ↓den, ↓denA, Sa, Sb, Sc, Se, O1.d, O2.d, O3.d, cmI, arI, envOf, putN, ↓reduceIte, Nat.reduceLT, Nat.reduceSub, Nat.reduceAdd, Int.reduceAdd, Int.reduceEq, Int.reduceLT, Int.reduceLE, arr_pos, arr_neg, tr_spec_l16States]
  refine mc.lp_for (List Int) (fun i o => [⟨L I, c⟩, ⟨I, (i : Int)⟩, ⟨L V3, s.1⟩, ⟨L TR, s.2⟩, ⟨L I, o⟩]) (fun i o => o = upTo (inC s c) i) (szn s.1) 0 [] _ rfl (Nat.zero_le _) rfl ?_ ?_
  · rintro i o hi rfl
    have hin := stN_in h hi
    have hst : stAt s.1 (i : Int) = stN s i := rfl
    have hlen := @upTo_len (inC s c) i
    simp (contextual := true) (maxSteps := 1000000) (disch := omega) only [↓Sd, ↓So, ↓Sk, ↓den, ↓denA, Sa, Sb, Sc, Se, O1.d, O2.d, O3.d, cmI, arI, envOf, putN, ↓reduceIte, Nat.reduceLT, Nat.reduceSub, Nat.reduceAdd, Int.reduceAdd, Int.reduceEq, Int.reduceLT, Int.reduceLE, arr_pos, arr_neg, ↓wpJoin, C_spec_SizeOf s hs, h, C_spec_l4State s i hs h (by omega), hst, C_spec_l6State s (stN s i) h hin, C_spec_l16Has c (sb s (stN s i)) (by omega) (cube_len hc)]
    exact ⟨fun g => (upTo_s g).symm, fun g => (upTo_n g).symm⟩
  · rintro o rfl
    simp (contextual := true) (maxSteps := 1000000) (disch := omega) only [↓Sd, ↓So, ↓Sk, ↓den, ↓denA, Sa, Sb, Sc, Se, O1.d, O2.d, O3.d, cmI, arI, envOf, putN, ↓reduceIte, Nat.reduceLT, Nat.reduceSub, Nat.reduceAdd, Int.reduceAdd, Int.reduceEq, Int.reduceLT, Int.reduceLE, arr_pos, arr_neg, C_spec_SizeOf s hs, h]
theorem C_spec_l16Cube (s : Sy) (c : List Int) (hs : FewSy s) (hc : c.length ≤ 1048576) (Q : List AV → Prop) : mc.C f_spec_l16Cube [⟨L V3, s.1⟩, ⟨L TR, s.2⟩, ⟨L I, c⟩] Q = Q [⟨B, decide (valid s ∧ cubeV c (bc s.1))⟩] := by
  refine Mc.Ends.c (mc.ends F_spec_l16Cube ?_)
  generalize hK : decide (valid s ∧ cubeV c (bc s.1)) = K
  simp (contextual := true) (maxSteps := 1000000) (disch := omega) only [↓Sd, ↓So, ↓Sk, ↓den, ↓denA, Sa, Sb, Sc, Se, O1.d, O2.d, O3.d, cmI, arI, envOf, putN, ↓reduceIte, Nat.reduceLT, Nat.reduceSub, Nat.reduceAdd, Int.reduceAdd, Int.reduceEq, Int.reduceLT, Int.reduceLE, arr_pos, arr_neg, tr_spec_l16Cube, C_spec_SystemValid s hs]
  refine ⟨fun h => ?_, fun h => ?_⟩
  · have e : sumN (bw s.1) s.1.length = bc s.1 := rfl
    simp (contextual := true) (maxSteps := 1000000) (disch := omega) only [↓Sd, ↓So, ↓Sk, ↓den, ↓denA, Sa, Sb, Sc, Se, O1.d, O2.d, O3.d, cmI, arI, envOf, putN, ↓reduceIte, Nat.reduceLT, Nat.reduceSub, Nat.reduceAdd, Int.reduceAdd, Int.reduceEq, Int.reduceLT, Int.reduceLE, arr_pos, arr_neg, C_spec_l6Widths s h, C_spec_l6Sum (bw s.1) s.1.length h.1.2 (bw_bd s.1), e, C_spec_CubeValid c _ hc]
    rw [← hK]; exact decide_eq_decide.2 ⟨fun g => ⟨h, g⟩, fun g => g.2⟩
  · rw [← hK, decide_eq_false fun g => h g.1]

/-! ### What is blocked -/
/-- A cube is blocked by a frame. -/
def blk (s : Sy) (F c : List Int) : Prop := inC s c (num s.1 (fst0 s.1)).toNat = false ∧ ∀ x ∈ F, inC s c x.toNat = false → ∀ y ∈ (steps s).getD x.toNat [], inC s c y.toNat = false
theorem first_n {s : Sy} (h : valid s) : ∃ m : Nat, num s.1 (fst0 s.1) = m ∧ m < szn s.1 := by
  have h1 := num_bd h.2.2.1 (fst0_in h.2.2.1)
  have h2 := szn_eq h
  exact ⟨(num s.1 (fst0 s.1)).toNat, by omega, by omega⟩
theorem upTo_marks {p : Nat → Bool} {n : Nat} : tab (fun k => dB ((k : Int) ∈ upTo p n)) n = tab p n := tab_congr fun k hk => by rw [dB_upTo]; simp [hk]
theorem C_impl_blockedBy (s : Sy) (F c : List Int) (h : valid s) (hF : F.length ≤ 1048576 ∧ ∀ x ∈ F, 0 ≤ x ∧ x < (szn s.1 : Int)) (hc : (c.length : Int) = bc s.1) (Q : List AV → Prop) :
    mc.C f_impl_blockedBy [⟨L V3, s.1⟩, ⟨L TR, s.2⟩, ⟨L (L I), steps s⟩, ⟨L I, F⟩, ⟨L I, c⟩] Q = Q [⟨B, dB (blk s F c)⟩] := by
  have hz := szn_eq h
  have h5 := h.1.2
  have hv := h.2.2.1
  have ht := steps_tbl h
  have hT := ht.1
  obtain ⟨m, hm, hmn⟩ := first_n h
  refine Mc.Ends.c (mc.ends F_impl_blockedBy ?_)
  generalize hK : dB (blk s F c) = K
  simp (contextual := true) (maxSteps := 1000000) (disch := omega) only [↓Sd, ↓So, ↓Sk, ↓den, ↓denA, Sa, Sb, Sc, Se, O1.d, O2.d, O3.d, cmI, arI, envOf, putN, ↓reduceIte, Nat.reduceLT, Nat.reduceSub, Nat.reduceAdd, Int.reduceAdd, Int.reduceEq, Int.reduceLT, Int.reduceLE, arr_pos, arr_neg, tr_impl_blockedBy, C_impl_cubeStates s c h hc, C_impl_size s.1 h5 hv, C_impl_marks_i (upTo (inC s c) (szn s.1)) (sz s.1) (szn s.1) hz.1.symm (by omega) (by have := @upTo_len (inC s c) (szn s.1); omega) (lset_mem (upTo_lset (Nat.le_refl _))), upTo_marks, ↓wpJoin]
  simp (contextual := true) (maxSteps := 1000000) (disch := omega) only [↓Sd, ↓So, ↓Sk, ↓den, ↓denA, Sa, Sb, Sc, Se, O1.d, O2.d, O3.d, cmI, arI, envOf, putN, ↓reduceIte, Nat.reduceLT, Nat.reduceSub, Nat.reduceAdd, Int.reduceAdd, Int.reduceEq, Int.reduceLT, Int.reduceLE, arr_pos, arr_neg, C_impl_first s h5, C_impl_number s _ h5 hv (fst0_in hv), hm, tab_len, tab_get hmn]
  refine ⟨fun g => ?_, fun g => ?_⟩
  · rw [← hK, dB_f]; intro g1; have := g1.1; rw [hm] at this; simp only [Int.toNat_natCast] at this; rw [g] at this; cases this
  refine lp_all (fun i => [⟨L I, F⟩, ⟨I, (F.length : Int)⟩, ⟨I, (i : Int)⟩, ⟨L B, tab (inC s c) (szn s.1)⟩, ⟨L (L I), steps s⟩]) (fun i => inC s c (F.getD i 0).toNat = false → ∀ y ∈ (steps s).getD (F.getD i 0).toNat [], inC s c y.toNat = false) F.length _ rfl ?_ ?_
  · intro i hi
    have hx := hF.2 _ (getD_mem (d := 0) hi)
    obtain ⟨x, hxe⟩ : ∃ x : Nat, F.getD i 0 = x := ⟨(F.getD i 0).toNat, by omega⟩
    have hxn : x < szn s.1 := by omega
    have hno : ¬ (inC s c x = false → ∀ y ∈ (steps s).getD x [], inC s c y.toNat = false) → false = K := fun g => by
      rw [← hK, dB_f]
      refine fun g1 => g fun g2 => ?_
      have := g1.2 _ (getD_mem (d := 0) hi)
      rw [hxe] at this
      exact this g2
    have hrow := ht.row (i := x)
    have hrl : ((steps s).getD x []).length ≤ 1048576 := (ht.2 _ (getD_mem (by omega))).1
    simp (contextual := true) (maxSteps := 1000000) (disch := omega) only [↓Sd, ↓So, ↓Sk, ↓den, ↓denA, Sa, Sb, Sc, Se, O1.d, O2.d, O3.d, cmI, arI, envOf, putN, ↓reduceIte, Nat.reduceLT, Nat.reduceSub, Nat.reduceAdd, Int.reduceAdd, Int.reduceEq, Int.reduceLT, Int.reduceLE, arr_pos, arr_neg, ↓wpJoin, hxe, hT, tab_len, tab_get hxn]
    intro g
    refine lp_all (fun j => [⟨L I, (steps s).getD x []⟩, ⟨I, (((steps s).getD x []).length : Int)⟩, ⟨I, (j : Int)⟩, ⟨L I, F⟩, ⟨I, (i : Int)⟩, ⟨I, (F.length : Int)⟩, ⟨I, (i : Int)⟩, ⟨L B, tab (inC s c) (szn s.1)⟩, ⟨L (L I), steps s⟩]) (fun j => inC s c (((steps s).getD x []).getD j 0).toNat = false) ((steps s).getD x []).length _ rfl ?_ ?_
    · intro j hj
      have hy := hrow _ (getD_mem (d := 0) hj)
      obtain ⟨y, hye⟩ : ∃ y : Nat, ((steps s).getD x []).getD j 0 = y := ⟨(((steps s).getD x []).getD j 0).toNat, by omega⟩
      have hyn : y < szn s.1 := by omega
      simp (contextual := true) (maxSteps := 1000000) (disch := omega) only [↓Sd, ↓So, ↓Sk, ↓den, ↓denA, Sa, Sb, Sc, Se, O1.d, O2.d, O3.d, cmI, arI, envOf, putN, ↓reduceIte, Nat.reduceLT, Nat.reduceSub, Nat.reduceAdd, Int.reduceAdd, Int.reduceEq, Int.reduceLT, Int.reduceLE, arr_pos, arr_neg, hye, tab_len, tab_get hyn]
      intro g1
      have h0 : (i : Int) ≥ 0 := by omega
      have := hno fun g2 => by
        have := g2 g _ (getD_mem (d := 0) hj)
        rw [hye] at this
        simp only [Int.toNat_natCast] at this
        rw [g1] at this; cases this
      simpa [h0] using this
    · intro g1
      simp (contextual := true) (maxSteps := 1000000) (disch := omega) only [↓Sd, ↓So, ↓Sk, ↓den, ↓denA, Sa, Sb, Sc, Se, O1.d, O2.d, O3.d, cmI, arI, envOf, putN, ↓reduceIte, Nat.reduceLT, Nat.reduceSub, Nat.reduceAdd, Int.reduceAdd, Int.reduceEq, Int.reduceLT, Int.reduceLE, arr_pos, arr_neg, ]
      exact all_get (p := fun y : Int => inC s c y.toNat = false) (d := 0) g1
  · intro g1
    simp (contextual := true) (maxSteps := 1000000) (disch := omega) only [↓Sd, ↓So, ↓Sk, ↓den, ↓denA, Sa, Sb, Sc, Se, O1.d, O2.d, O3.d, cmI, arI, envOf, putN, ↓reduceIte, Nat.reduceLT, Nat.reduceSub, Nat.reduceAdd, Int.reduceAdd, Int.reduceEq, Int.reduceLT, Int.reduceLE, arr_pos, arr_neg, ]
    rw [← hK, dB_t]
    · rfl
    · refine ⟨by rw [hm]; simpa using g, fun x hx => ?_⟩
      obtain ⟨i, hi, rfl⟩ := List.getElem_of_mem hx
      have := g1 i hi
      rwa [getD_lt hi] at this
theorem C_spec_l4Mix0 (a b : List Int) (N : Nat) (hN : N = 400) (ha : lset a 400) (hb : lset b 400) (Q : List AV → Prop) : mc.C f_spec_l4Mix [⟨L I, a⟩, ⟨L I, b⟩, ⟨I, 0⟩] Q = Q [⟨L I, upTo (fun k => dB ((k : Int) ∈ a) && dB ((k : Int) ∈ b)) N⟩] := by
  have la := lset_len ha (by omega)
  have lb := lset_len hb (by omega)
  have ma := lset_mem ha
  have mb := lset_mem hb
  refine Mc.Ends.c (mc.ends F_spec_l4Mix ?_)
  simp (contextual := true) (maxSteps := 1000000) (disch := omega) only [↓Sd, ↓So, ↓Sk, ↓den, ↓denA, Sa, Sb, Sc, Se, O1.d, O2.d, O3.d, cmI, arI, envOf, putN, ↓reduceIte, Nat.reduceLT, Nat.reduceSub, Nat.reduceAdd, Int.reduceAdd, Int.reduceEq, Int.reduceLT, Int.reduceLE, arr_pos, arr_neg, tr_spec_l4Mix, C_spec_l4Set a (by omega), C_spec_l4Set b (by omega), ha, hb, C_spec_l4Marks_i a 400 N (by omega) (by omega) (by omega) (fun x hx => by have := ma x hx; omega), C_spec_l4Marks_i b 400 N (by omega) (by omega) (by omega) (fun x hx => by have := mb x hx; omega)]
  refine mc.lp_for (List Int) (fun i o => [⟨I, 0⟩, ⟨I, (i : Int)⟩, ⟨L I, o⟩, ⟨L B, tab (fun k => dB ((k : Int) ∈ a)) N⟩, ⟨L B, tab (fun k => dB ((k : Int) ∈ b)) N⟩]) (fun i o => o = upTo (fun k => dB ((k : Int) ∈ a) && dB ((k : Int) ∈ b)) i) N 0 [] _ rfl (Nat.zero_le _) rfl ?_ ?_
  · rintro i o hi rfl
    have hl := @upTo_len (fun k => dB ((k : Int) ∈ a) && dB ((k : Int) ∈ b)) i
    simp (contextual := true) (maxSteps := 1000000) (disch := omega) only [↓Sd, ↓So, ↓Sk, ↓den, ↓denA, Sa, Sb, Sc, Se, O1.d, O2.d, O3.d, cmI, arI, envOf, putN, ↓reduceIte, Nat.reduceLT, Nat.reduceSub, Nat.reduceAdd, Int.reduceAdd, Int.reduceEq, Int.reduceLT, Int.reduceLE, arr_pos, arr_neg, ]
    refine mc.wp_join (fun us => us = [⟨I, 0⟩, ⟨I, (i : Int)⟩, ⟨L I, upTo (fun k => dB ((k : Int) ∈ a) && dB ((k : Int) ∈ b)) (i + 1)⟩, ⟨L B, tab (fun k => dB ((k : Int) ∈ a)) N⟩, ⟨L B, tab (fun k => dB ((k : Int) ∈ b)) N⟩]) ?_ (by rintro _ rfl; simp (contextual := true) (maxSteps := 1000000) (disch := omega) only [↓Sd, ↓So, ↓Sk, ↓den, ↓denA, Sa, Sb, Sc, Se, O1.d, O2.d, O3.d, cmI, arI, envOf, putN, ↓reduceIte, Nat.reduceLT, Nat.reduceSub, Nat.reduceAdd, Int.reduceAdd, Int.reduceEq, Int.reduceLT, Int.reduceLE, arr_pos, arr_neg, ])
    simp only [upTo]
    simp (contextual := true) (maxSteps := 1000000) (disch := omega) only [↓Sd, ↓So, ↓Sk, ↓den, ↓denA, Sa, Sb, Sc, Se, O1.d, O2.d, O3.d, cmI, arI, envOf, putN, ↓reduceIte, Nat.reduceLT, Nat.reduceSub, Nat.reduceAdd, Int.reduceAdd, Int.reduceEq, Int.reduceLT, Int.reduceLE, arr_pos, arr_neg, tab_len, tab_get hi, Bool.and_eq_true, Bool.true_and, Bool.and_true, Bool.and_false, Bool.false_and]
  · rintro o rfl
    simp (contextual := true) (maxSteps := 1000000) (disch := omega) only [↓Sd, ↓So, ↓Sk, ↓den, ↓denA, Sa, Sb, Sc, Se, O1.d, O2.d, O3.d, cmI, arI, envOf, putN, ↓reduceIte, Nat.reduceLT, Nat.reduceSub, Nat.reduceAdd, Int.reduceAdd, Int.reduceEq, Int.reduceLT, Int.reduceLE, arr_pos, arr_neg, ]
theorem C_spec_SetBoth (a b : List Int) (ha : lset a 400) (hb : lset b 400) (Q : List AV → Prop) : mc.C f_spec_SetBoth [⟨L I, a⟩, ⟨L I, b⟩] Q = Q [⟨L I, upTo (fun k => dB ((k : Int) ∈ a) && dB ((k : Int) ∈ b)) 400⟩] := by
  refine Mc.Ends.c (mc.ends F_spec_SetBoth ?_)
  obtain ⟨N, hN⟩ : ∃ N : Nat, N = 400 := ⟨_, rfl⟩
  rw [← hN]
  simp (contextual := true) (maxSteps := 1000000) (disch := omega) only [↓Sd, ↓So, ↓Sk, ↓den, ↓denA, Sa, Sb, Sc, Se, O1.d, O2.d, O3.d, cmI, arI, envOf, putN, ↓reduceIte, Nat.reduceLT, Nat.reduceSub, Nat.reduceAdd, Int.reduceAdd, Int.reduceEq, Int.reduceLT, Int.reduceLE, arr_pos, arr_neg, tr_spec_SetBoth, C_spec_l4Mix0 a b N hN ha hb]
theorem lset_mono {l : List Int} {n m : Int} (h : lset l n) (hm : n ≤ m) : lset l m := fun i hi => ⟨⟨(h i hi).1.1, by have := (h i hi).1.2; omega⟩, (h i hi).2⟩
theorem upTo_pos {p : Nat → Bool} {n : Nat} : 0 < (upTo p n).length ↔ ∃ k, k < n ∧ p k = true := by
  constructor
  · intro h
    obtain ⟨k, h1, _, h3⟩ := upTo_mem.1 (getD_mem (d := 0) h)
    exact ⟨k, h1, h3⟩
  · rintro ⟨k, h1, h2⟩
    exact List.length_pos_of_mem (upTo_mem.2 ⟨k, h1, rfl, h2⟩)
theorem C_spec_l17Ordered (l : List Int) (N : Nat) (hN : N = 400) (hl : l.length ≤ 1048576) (h : ∀ x ∈ l, 0 ≤ x ∧ x < (N : Int)) (Q : List AV → Prop) : mc.C f_spec_l17Ordered [⟨L I, l⟩] Q = Q [⟨L I, upTo (fun k => dB ((k : Int) ∈ l)) N⟩] := by
  refine Mc.Ends.c (mc.ends F_spec_l17Ordered ?_)
  simp (contextual := true) (maxSteps := 1000000) (disch := omega) only [↓Sd, ↓So, ↓Sk, ↓den, ↓denA, Sa, Sb, Sc, Se, O1.d, O2.d, O3.d, cmI, arI, envOf, putN, ↓reduceIte, Nat.reduceLT, Nat.reduceSub, Nat.reduceAdd, Int.reduceAdd, Int.reduceEq, Int.reduceLT, Int.reduceLE, arr_pos, arr_neg, tr_spec_l17Ordered]
  refine mc.lp_for (List Bool) (fun i o => [⟨L I, l⟩, ⟨I, (i : Int)⟩, ⟨L B, o⟩]) (fun i o => o = tab (fun k => dB ((k : Int) ∈ l.take i)) N) l.length 0 (List.replicate N false) _ (by rw [hN]; rfl) (Nat.zero_le _) ?_ ?_ ?_
  · rw [rep_tab]; exact tab_congr fun k _ => (dB_f (by simp)).symm
  · rintro i o hi rfl
    have hx := h _ (getD_mem (d := 0) hi)
    simp (contextual := true) (maxSteps := 1000000) (disch := omega) only [↓Sd, ↓So, ↓Sk, ↓den, ↓denA, Sa, Sb, Sc, Se, O1.d, O2.d, O3.d, cmI, arI, envOf, putN, ↓reduceIte, Nat.reduceLT, Nat.reduceSub, Nat.reduceAdd, Int.reduceAdd, Int.reduceEq, Int.reduceLT, Int.reduceLE, arr_pos, arr_neg, tab_len, tab_set']
    refine tab_congr fun k hk => ?_
    by_cases hk2 : k = (l.getD i 0).toNat
    · rw [if_pos hk2, dB_t]; exact (mem_take_next hi).2 (.inr (by omega))
    · rw [if_neg hk2]; refine dB_congr ?_
      rw [mem_take_next hi]
      exact ⟨.inl, fun h => h.elim id fun h => absurd h (by omega)⟩
  · rintro o rfl
    rw [List.take_length]
    simp (contextual := true) (maxSteps := 1000000) (disch := omega) only [↓Sd, ↓So, ↓Sk, ↓den, ↓denA, Sa, Sb, Sc, Se, O1.d, O2.d, O3.d, cmI, arI, envOf, putN, ↓reduceIte, Nat.reduceLT, Nat.reduceSub, Nat.reduceAdd, Int.reduceAdd, Int.reduceEq, Int.reduceLT, Int.reduceLE, arr_pos, arr_neg, C_spec_l4List_tab _ N (by omega : N ≤ 1048576)]
theorem C_spec_l17Blocked (s : Sy) (F c : List Int) (hs : FewSy s) (h : valid s) (hF : lset F (szn s.1)) (hc : (c.length : Int) = bc s.1) (Q : List AV → Prop) :
    mc.C f_spec_l17Blocked [⟨L V3, s.1⟩, ⟨L TR, s.2⟩, ⟨L (L I), steps s⟩, ⟨L I, F⟩, ⟨L I, c⟩] Q = Q [⟨B, dB (blk s F c)⟩] := by
  have hz := szn_eq h
  have h5 := h.1.2
  have hv := h.2.2.1
  have ht := steps_tbl h
  have hT := ht.1
  obtain ⟨m, hm, hmn⟩ := first_n h
  have hCl := @upTo_len (inC s c) (szn s.1)
  have hCs : lset (upTo (inC s c) (szn s.1)) 400 := upTo_lset (m := 400) (by omega)
  have hFs : lset F 400 := lset_mono hF (by omega)
  have hFm := lset_mem hF
  refine Mc.Ends.c (mc.ends F_spec_l17Blocked ?_)
  generalize hK : dB (blk s F c) = K
  simp (contextual := true) (maxSteps := 1000000) (disch := omega) only [↓Sd, ↓So, ↓Sk, ↓den, ↓denA, Sa, Sb, Sc, Se, O1.d, O2.d, O3.d, cmI, arI, envOf, putN, ↓reduceIte, Nat.reduceLT, Nat.reduceSub, Nat.reduceAdd, Int.reduceAdd, Int.reduceEq, Int.reduceLT, Int.reduceLE, arr_pos, arr_neg, tr_spec_l17Blocked, C_spec_l16States s c hs h hc, C_spec_FirstState s hs h, C_spec_l4Number s _ h5 hv (fst0_in hv), hm, C_spec_l2Has _ (m : Int) (by omega : (upTo (inC s c) (szn s.1)).length ≤ 1048576), dB_upTo, hmn, C_spec_SetWithout F (upTo (inC s c) (szn s.1)) hFs hCs]
  simp only [decide_true, Bool.true_and]
  refine ⟨fun g => ?_, fun g => ?_⟩
  · rw [← hK, dB_f]; intro g1; have := g1.1; rw [hm] at this; simp only [Int.toNat_natCast] at this; rw [g] at this; cases this
  generalize hfr : upTo (fun k => dB ((k : Int) ∈ F) && !(decide (k < szn s.1) && inC s c k)) 400 = fr
  have hfm : ∀ x, x ∈ fr ↔ x ∈ F ∧ inC s c x.toNat = false := by
    intro x
    rw [← hfr, upTo_mem]
    constructor
    · rintro ⟨k, h1, rfl, h2⟩
      simp only [Bool.and_eq_true, Bool.not_eq_true', Bool.and_eq_false_iff, decide_eq_false_iff_not] at h2
      have h3 := dB_iff.1 h2.1
      have h4 := hFm _ h3
      exact ⟨h3, h2.2.elim (fun h5 => absurd h4.2 (by omega)) (by simp)⟩
    · rintro ⟨h1, h2⟩
      have h4 := hFm _ h1
      refine ⟨x.toNat, by omega, by omega, ?_⟩
      rw [show ((x.toNat : Nat) : Int) = x by omega, dB_t h1, h2]
      simp
  have hfl : fr.length ≤ 400 := by rw [← hfr]; exact upTo_len
  refine lp_all (fun i => [⟨L (L I), steps s⟩, ⟨I, (i : Int)⟩, ⟨L I, upTo (inC s c) (szn s.1)⟩, ⟨L I, fr⟩]) (fun i => ∀ y ∈ (steps s).getD (fr.getD i 0).toNat [], inC s c y.toNat = false) fr.length _ rfl ?_ ?_
  · intro i hi
    have hxf := (hfm _).1 (getD_mem (d := 0) hi)
    have hx := hFm _ hxf.1
    obtain ⟨x, hxe⟩ : ∃ x : Nat, fr.getD i 0 = x := ⟨(fr.getD i 0).toNat, by omega⟩
    rw [hxe] at hxf
    have hxn : x < szn s.1 := by omega
    have hrow := ht.row (i := x)
    have hrl : ((steps s).getD x []).length ≤ 1048576 := (ht.2 _ (getD_mem (by omega))).1
    obtain ⟨N, hN⟩ : ∃ N : Nat, N = 400 := ⟨_, rfl⟩
    simp (contextual := true) (maxSteps := 1000000) (disch := omega) only [↓Sd, ↓So, ↓Sk, ↓den, ↓denA, Sa, Sb, Sc, Se, O1.d, O2.d, O3.d, cmI, arI, envOf, putN, ↓reduceIte, Nat.reduceLT, Nat.reduceSub, Nat.reduceAdd, Int.reduceAdd, Int.reduceEq, Int.reduceLT, Int.reduceLE, arr_pos, arr_neg, hxe, hT, C_spec_l17Ordered ((steps s).getD x []) N hN hrl (fun y hy => by have := hrow y hy; omega)]
    have ho : lset (upTo (fun k => dB ((k : Int) ∈ (steps s).getD x [])) N) 400 := upTo_lset (m := 400) (by omega)
    simp (contextual := true) (maxSteps := 1000000) (disch := omega) only [↓Sd, ↓So, ↓Sk, ↓den, ↓denA, Sa, Sb, Sc, Se, O1.d, O2.d, O3.d, cmI, arI, envOf, putN, ↓reduceIte, Nat.reduceLT, Nat.reduceSub, Nat.reduceAdd, Int.reduceAdd, Int.reduceEq, Int.reduceLT, Int.reduceLE, arr_pos, arr_neg, C_spec_SetBoth _ _ ho hCs]
    have hiff : 0 < (upTo (fun k => dB ((k : Int) ∈ upTo (fun k => dB ((k : Int) ∈ (steps s).getD x [])) N) && dB ((k : Int) ∈ upTo (inC s c) (szn s.1))) 400).length ↔ ¬ ∀ y ∈ (steps s).getD x [], inC s c y.toNat = false := by
      rw [upTo_pos]
      constructor
      · rintro ⟨k, h1, h2⟩ h3
        simp only [dB_upTo, Bool.and_eq_true, decide_eq_true_eq] at h2
        have := h3 _ (dB_iff.1 h2.1.2)
        simp only [Int.toNat_natCast] at this
        rw [h2.2.2] at this; cases this
      · intro h3
        refine Classical.byContradiction fun h4 => h3 fun y hy => ?_
        have hyb := hrow y hy
        refine Bool.eq_false_iff.2 fun h5 => h4 ⟨y.toNat, by omega, ?_⟩
        simp only [dB_upTo, Bool.and_eq_true, decide_eq_true_eq]
        exact ⟨⟨by omega, dB_t (by rw [show ((y.toNat : Nat) : Int) = y by omega]; exact hy)⟩, by omega, h5⟩
    refine ⟨fun g1 => ?_, fun g1 => ?_⟩
    · rw [← hK, dB_f]
      intro g2
      exact hiff.1 (by omega) (g2.2 _ hxf.1 (by simpa using hxf.2))
    · exact Classical.byContradiction fun g2 => g1 (by have := hiff.2 g2; omega)
  · intro g1
    simp (contextual := true) (maxSteps := 1000000) (disch := omega) only [↓Sd, ↓So, ↓Sk, ↓den, ↓denA, Sa, Sb, Sc, Se, O1.d, O2.d, O3.d, cmI, arI, envOf, putN, ↓reduceIte, Nat.reduceLT, Nat.reduceSub, Nat.reduceAdd, Int.reduceAdd, Int.reduceEq, Int.reduceLT, Int.reduceLE, arr_pos, arr_neg, ]
    rw [← hK, dB_t]
    refine ⟨by rw [hm]; simpa using g, fun x hx hxc => ?_⟩
    obtain ⟨i, hi, he⟩ := List.getElem_of_mem ((hfm x).2 ⟨hx, hxc⟩)
    have := g1 i hi
    rwa [getD_lt hi, he] at this
/-- The value of BlockedBy. -/
def blkV (s : Sy) (F c : List Int) : Prop := setV s F ∧ cubeV c (bc s.1) ∧ blk s F c
theorem C_impl_BlockedBy (s : Sy) (F c : List Int) (hs : FewSy s) (hF : F.length ≤ 1048576) (hc : c.length ≤ 1048576) (Q : List AV → Prop) : mc.C f_impl_BlockedBy [⟨L V3, s.1⟩, ⟨L TR, s.2⟩, ⟨L I, F⟩, ⟨L I, c⟩] Q = Q [⟨B, dB (blkV s F c)⟩] := by
  refine Mc.Ends.c (mc.ends F_impl_BlockedBy ?_)
  generalize hK : dB (blkV s F c) = K
  simp (contextual := true) (maxSteps := 1000000) (disch := omega) only [↓Sd, ↓So, ↓Sk, ↓den, ↓denA, Sa, Sb, Sc, Se, O1.d, O2.d, O3.d, cmI, arI, envOf, putN, ↓reduceIte, Nat.reduceLT, Nat.reduceSub, Nat.reduceAdd, Int.reduceAdd, Int.reduceEq, Int.reduceLT, Int.reduceLE, arr_pos, arr_neg, tr_impl_BlockedBy, C_impl_SetValid s F hs hF]
  refine ⟨fun h => ?_, fun h => by rw [← hK, dB_f]; exact fun g => h g.1⟩
  simp (contextual := true) (maxSteps := 1000000) (disch := omega) only [↓Sd, ↓So, ↓Sk, ↓den, ↓denA, Sa, Sb, Sc, Se, O1.d, O2.d, O3.d, cmI, arI, envOf, putN, ↓reduceIte, Nat.reduceLT, Nat.reduceSub, Nat.reduceAdd, Int.reduceAdd, Int.reduceEq, Int.reduceLT, Int.reduceLE, arr_pos, arr_neg, C_impl_bitCount s h.1, C_impl_CubeValid c _ hc]
  refine ⟨fun g => ?_, fun g => by rw [← hK, dB_f]; exact fun g1 => g g1.2.1⟩
  simp (contextual := true) (maxSteps := 1000000) (disch := omega) only [↓Sd, ↓So, ↓Sk, ↓den, ↓denA, Sa, Sb, Sc, Se, O1.d, O2.d, O3.d, cmI, arI, envOf, putN, ↓reduceIte, Nat.reduceLT, Nat.reduceSub, Nat.reduceAdd, Int.reduceAdd, Int.reduceEq, Int.reduceLT, Int.reduceLE, arr_pos, arr_neg, C_impl_nexts s h.1, C_impl_blockedBy s F c h.1 ⟨hF, h.mem⟩ g.2.1]
  rw [← hK]; exact dB_congr ⟨fun g1 => ⟨h, g, g1⟩, fun g1 => g1.2.2⟩
theorem C_spec_BlockedBy (s : Sy) (F c : List Int) (hs : FewSy s) (hF : F.length ≤ 1048576) (hc : c.length ≤ 1048576) (Q : List AV → Prop) : mc.C f_spec_BlockedBy [⟨L V3, s.1⟩, ⟨L TR, s.2⟩, ⟨L I, F⟩, ⟨L I, c⟩] Q = Q [⟨B, dB (blkV s F c)⟩] := by
  refine Mc.Ends.c (mc.ends F_spec_BlockedBy ?_)
  generalize hK : dB (blkV s F c) = K
  simp (contextual := true) (maxSteps := 1000000) (disch := omega) only [↓Sd, ↓So, ↓Sk, ↓den, ↓denA, Sa, Sb, Sc, Se, O1.d, O2.d, O3.d, cmI, arI, envOf, putN, ↓reduceIte, Nat.reduceLT, Nat.reduceSub, Nat.reduceAdd, Int.reduceAdd, Int.reduceEq, Int.reduceLT, Int.reduceLE, arr_pos, arr_neg, tr_spec_BlockedBy, C_spec_l16Cube s c hs hc]
  refine ⟨fun g0 => ?_, fun g => by rw [← hK, dB_f]; exact fun g1 => g ⟨g1.1.1, g1.2.1⟩⟩
  have g := g0.2
  simp (contextual := true) (maxSteps := 1000000) (disch := omega) only [↓Sd, ↓So, ↓Sk, ↓den, ↓denA, Sa, Sb, Sc, Se, O1.d, O2.d, O3.d, cmI, arI, envOf, putN, ↓reduceIte, Nat.reduceLT, Nat.reduceSub, Nat.reduceAdd, Int.reduceAdd, Int.reduceEq, Int.reduceLT, Int.reduceLE, arr_pos, arr_neg, C_spec_SetValid s F hs hF]
  refine ⟨fun h => ?_, fun h => by rw [← hK, dB_f]; exact fun g1 => h g1.1⟩
  simp (contextual := true) (maxSteps := 1000000) (disch := omega) only [↓Sd, ↓So, ↓Sk, ↓den, ↓denA, Sa, Sb, Sc, Se, O1.d, O2.d, O3.d, cmI, arI, envOf, putN, ↓reduceIte, Nat.reduceLT, Nat.reduceSub, Nat.reduceAdd, Int.reduceAdd, Int.reduceEq, Int.reduceLT, Int.reduceLE, arr_pos, arr_neg, C_spec_l4Steps s hs h.1, C_spec_l17Blocked s F c hs h.1 h.n g.2.1]
  rw [← hK]; exact dB_congr ⟨fun g1 => ⟨h, g, g1⟩, fun g1 => g1.2.2⟩
/-- A cube made wider bit by bit. -/
noncomputable def wdn (P : List Int → Prop) (c : List Int) : Nat → List Int
  | 0 => c
  | i + 1 => if dB (P ((wdn P c i).set i 2)) = true then (wdn P c i).set i 2 else wdn P c i
theorem wdn_len {P : List Int → Prop} {c : List Int} : ∀ {i : Nat}, (wdn P c i).length = c.length
  | 0 => rfl
  | i + 1 => by
    simp only [wdn]
    split
    · rw [List.length_set, wdn_len]
    · exact wdn_len
theorem wdn_same {P : List Int → Prop} {c : List Int} {d : Int} : ∀ {i : Nat}, Same c (wdn P c i) d i
  | 0 => Same.refl
  | i + 1 => by
    have ih := @wdn_same P c d i
    simp only [wdn]
    split
    · exact ih.set
    · exact ⟨ih.1, fun j hj => ih.2 j (by omega)⟩
theorem set_self {α : Type} {l : List α} {i : Nat} {x d : α} (hi : i < l.length) (h : l.getD i d = x) : l.set i x = l := by
  rw [← h, getD_lt hi, List.set_getElem_self]
noncomputable def gen (s : Sy) (F : List Int) (n : Nat) : List Int := wdn (blk s F) (sb s (stN s n)) (sb s (stN s n)).length
theorem stN_sb_len {s : Sy} {n : Nat} : ((sb s (stN s n)).length : Int) = bc s.1 := sb_len
theorem gen_len {s : Sy} {F : List Int} {n : Nat} : ((gen s F n).length : Int) = bc s.1 := by rw [gen, wdn_len]; exact sb_len
theorem C_impl_generalized (s : Sy) (F : List Int) (n : Nat) (h : valid s) (hn : n < szn s.1) (hF : F.length ≤ 1048576 ∧ ∀ x ∈ F, 0 ≤ x ∧ x < (szn s.1 : Int)) (Q : List AV → Prop) :
    mc.C f_impl_generalized [⟨L V3, s.1⟩, ⟨L TR, s.2⟩, ⟨L (L I), steps s⟩, ⟨L I, F⟩, ⟨I, (n : Int)⟩] Q = Q (if dB (blk s F (sb s (stN s n))) = true then [⟨L I, gen s F n⟩, ⟨B, true⟩] else [⟨L I, []⟩, ⟨B, false⟩]) := by
  have hz := szn_eq h
  have hb := bc_bd h
  have h5 := h.1.2
  have hv := h.2.2.1
  have hin := stN_in h hn
  have hst : stAt s.1 (n : Int) = stN s n := rfl
  have hlen := @stN_sb_len s n
  refine Mc.Ends.c (mc.ends F_impl_generalized ?_)
  simp (contextual := true) (maxSteps := 1000000) (disch := omega) only [↓Sd, ↓So, ↓Sk, ↓den, ↓denA, Sa, Sb, Sc, Se, O1.d, O2.d, O3.d, cmI, arI, envOf, putN, ↓reduceIte, Nat.reduceLT, Nat.reduceSub, Nat.reduceAdd, Int.reduceAdd, Int.reduceEq, Int.reduceLT, Int.reduceLE, arr_pos, arr_neg, tr_impl_generalized, C_impl_stateAt s n h5 hv (by omega), hst, C_impl_stateBits s (stN s n) h hin, C_impl_blockedBy s F (sb s (stN s n)) h hF hlen]
  intro g
  simp (contextual := true) (maxSteps := 1000000) (disch := omega) only [↓Sd, ↓So, ↓Sk, ↓den, ↓denA, Sa, Sb, Sc, Se, O1.d, O2.d, O3.d, cmI, arI, envOf, putN, ↓reduceIte, Nat.reduceLT, Nat.reduceSub, Nat.reduceAdd, Int.reduceAdd, Int.reduceEq, Int.reduceLT, Int.reduceLE, arr_pos, arr_neg, C_impl_clone_int (sb s (stN s n)) (by omega)]
  generalize hc : sb s (stN s n) = c at *
  refine mc.lp_for (List Int) (fun i o => [⟨I, (c.length : Int)⟩, ⟨I, (i : Int)⟩, ⟨L V3, s.1⟩, ⟨L TR, s.2⟩, ⟨L (L I), steps s⟩, ⟨L I, F⟩, ⟨L I, o⟩, ⟨L I, c⟩]) (fun i o => o = wdn (blk s F) c i) c.length 0 c _ rfl (Nat.zero_le _) rfl ?_ ?_
  · rintro i o hi rfl
    have hl := @wdn_len (blk s F) c i
    have hsm := (@wdn_same (blk s F) c 0 i).2 i (Nat.le_refl _)
    have hl2 : (((wdn (blk s F) c i).set i 2).length : Int) = bc s.1 := by rw [List.length_set, hl]; exact hlen
    have e : (wdn (blk s F) c i).set i (c.getD i 0) = wdn (blk s F) c i := set_self (d := 0) (by omega) hsm
    simp (contextual := true) (maxSteps := 1000000) (disch := omega) only [↓Sd, ↓So, ↓Sk, ↓den, ↓denA, Sa, Sb, Sc, Se, O1.d, O2.d, O3.d, cmI, arI, envOf, putN, ↓reduceIte, Nat.reduceLT, Nat.reduceSub, Nat.reduceAdd, Int.reduceAdd, Int.reduceEq, Int.reduceLT, Int.reduceLE, arr_pos, arr_neg, ↓wpJoin, C_impl_blockedBy s F ((wdn (blk s F) c i).set i 2) h hF hl2, List.length_set, List.set_set, e]
    simp only [wdn]
    refine ⟨fun g1 => by rw [if_neg (by rw [g1]; simp)], fun g1 => by rw [if_pos (by simpa using g1)]⟩
  · rintro o rfl
    simp (contextual := true) (maxSteps := 1000000) (disch := omega) only [↓Sd, ↓So, ↓Sk, ↓den, ↓denA, Sa, Sb, Sc, Se, O1.d, O2.d, O3.d, cmI, arI, envOf, putN, ↓reduceIte, Nat.reduceLT, Nat.reduceSub, Nat.reduceAdd, Int.reduceAdd, Int.reduceEq, Int.reduceLT, Int.reduceLE, arr_pos, arr_neg, ]
    rw [gen, hc]
theorem C_spec_l17Wide (s : Sy) (F : List Int) (n : Nat) (hs : FewSy s) (h : valid s) (hn : n < szn s.1) (hF : lset F (szn s.1)) (hB : dB (blk s F (sb s (stN s n))) = true) (Q : List AV → Prop) :
    mc.C f_spec_l17Wide [⟨L V3, s.1⟩, ⟨L TR, s.2⟩, ⟨L (L I), steps s⟩, ⟨L I, F⟩, ⟨I, (n : Int)⟩] Q = Q [⟨L I, gen s F n⟩] := by
  have hz := szn_eq h
  have hb := bc_bd h
  have hin := stN_in h hn
  have hst : stAt s.1 (n : Int) = stN s n := rfl
  have hlen := @stN_sb_len s n
  refine Mc.Ends.c (mc.ends F_spec_l17Wide ?_)
  simp (contextual := true) (maxSteps := 1000000) (disch := omega) only [↓Sd, ↓So, ↓Sk, ↓den, ↓denA, Sa, Sb, Sc, Se, O1.d, O2.d, O3.d, cmI, arI, envOf, putN, ↓reduceIte, Nat.reduceLT, Nat.reduceSub, Nat.reduceAdd, Int.reduceAdd, Int.reduceEq, Int.reduceLT, Int.reduceLE, arr_pos, arr_neg, tr_spec_l17Wide, C_spec_l4State s n hs h (by omega), hst, C_spec_l6State s (stN s n) h hin, C_spec_l17Blocked s F (sb s (stN s n)) hs h hF hlen, hB]
  generalize hc : sb s (stN s n) = c at *
  refine mc.lp_for (List Int) (fun i o => [⟨L (L I), steps s⟩, ⟨L I, F⟩, ⟨I, (i : Int)⟩, ⟨L V3, s.1⟩, ⟨L TR, s.2⟩, ⟨L I, o⟩]) (fun i o => o = wdn (blk s F) c i) c.length 0 c _ rfl (Nat.zero_le _) rfl ?_ ?_
  · rintro i o hi rfl
    have hl := @wdn_len (blk s F) c i
    have hl2 : (((wdn (blk s F) c i).set i 2).length : Int) = bc s.1 := by rw [List.length_set, hl]; exact hlen
    simp (contextual := true) (maxSteps := 1000000) (disch := omega) only [↓Sd, ↓So, ↓Sk, ↓den, ↓denA, Sa, Sb, Sc, Se, O1.d, O2.d, O3.d, cmI, arI, envOf, putN, ↓reduceIte, Nat.reduceLT, Nat.reduceSub, Nat.reduceAdd, Int.reduceAdd, Int.reduceEq, Int.reduceLT, Int.reduceLE, arr_pos, arr_neg, ↓wpJoin, C_spec_l3Copy (wdn (blk s F) c i) (by omega), C_spec_l17Blocked s F ((wdn (blk s F) c i).set i 2) hs h hF hl2]
    simp only [wdn]
    refine ⟨fun g1 => by rw [if_pos g1], fun g1 => by rw [if_neg g1]⟩
  · rintro o rfl
    have hl := @wdn_len (blk s F) c c.length
    simp (contextual := true) (maxSteps := 1000000) (disch := omega) only [↓Sd, ↓So, ↓Sk, ↓den, ↓denA, Sa, Sb, Sc, Se, O1.d, O2.d, O3.d, cmI, arI, envOf, putN, ↓reduceIte, Nat.reduceLT, Nat.reduceSub, Nat.reduceAdd, Int.reduceAdd, Int.reduceEq, Int.reduceLT, Int.reduceLE, arr_pos, arr_neg, hl]
    rw [gen, hc]
def genOk (s : Sy) (F : List Int) (n : Int) : Prop := setV s F ∧ (0 ≤ n ∧ n ≤ sz s.1 - 1) ∧ blk s F (sb s (stN s n.toNat))
noncomputable def genV (s : Sy) (F : List Int) (n : Int) : List Int := @ite _ (genOk s F n) (Classical.propDecidable _) (gen s F n.toNat) []
theorem genV_t {s : Sy} {F : List Int} {n : Int} (h : genOk s F n) : genV s F n = gen s F n.toNat := if_pos h
theorem genV_f {s : Sy} {F : List Int} {n : Int} (h : ¬ genOk s F n) : genV s F n = [] := if_neg h
theorem C_impl_Generalized (s : Sy) (F : List Int) (n : Int) (hs : FewSy s) (hF : F.length ≤ 1048576) (Q : List AV → Prop) : mc.C f_impl_Generalized [⟨L V3, s.1⟩, ⟨L TR, s.2⟩, ⟨L I, F⟩, ⟨I, n⟩] Q = Q [⟨L I, genV s F n⟩, ⟨B, dB (genOk s F n)⟩] := by
  refine Mc.Ends.c (mc.ends F_impl_Generalized ?_)
  have hno : ¬ genOk s F n → ([] = genV s F n ∧ false = dB (genOk s F n)) := fun g => ⟨(genV_f g).symm, (dB_f g).symm⟩
  generalize hK : genV s F n = K at *
  generalize hK2 : dB (genOk s F n) = K2 at *
  simp (contextual := true) (maxSteps := 1000000) (disch := omega) only [↓Sd, ↓So, ↓Sk, ↓den, ↓denA, Sa, Sb, Sc, Se, O1.d, O2.d, O3.d, cmI, arI, envOf, putN, ↓reduceIte, Nat.reduceLT, Nat.reduceSub, Nat.reduceAdd, Int.reduceAdd, Int.reduceEq, Int.reduceLT, Int.reduceLE, arr_pos, arr_neg, tr_impl_Generalized, C_impl_SetValid s F hs hF]
  refine ⟨fun h => hno fun g => h g.1, fun h => ?_⟩
  have hz := sz_ok h.1
  simp (contextual := true) (maxSteps := 1000000) (disch := omega) only [↓Sd, ↓So, ↓Sk, ↓den, ↓denA, Sa, Sb, Sc, Se, O1.d, O2.d, O3.d, cmI, arI, envOf, putN, ↓reduceIte, Nat.reduceLT, Nat.reduceSub, Nat.reduceAdd, Int.reduceAdd, Int.reduceEq, Int.reduceLT, Int.reduceLE, arr_pos, arr_neg, C_impl_size s.1 h.1.1.2 h.1.2.2.1, C_impl_in]
  refine ⟨fun g => hno fun g1 => g g1.2.1, fun g => ?_⟩
  obtain ⟨k, rfl⟩ : ∃ k : Nat, n = k := ⟨n.toNat, by omega⟩
  have hk : k < szn s.1 := by have := szn_eq h.1; omega
  simp (contextual := true) (maxSteps := 1000000) (disch := omega) only [↓Sd, ↓So, ↓Sk, ↓den, ↓denA, Sa, Sb, Sc, Se, O1.d, O2.d, O3.d, cmI, arI, envOf, putN, ↓reduceIte, Nat.reduceLT, Nat.reduceSub, Nat.reduceAdd, Int.reduceAdd, Int.reduceEq, Int.reduceLT, Int.reduceLE, arr_pos, arr_neg, C_impl_nexts s h.1, C_impl_generalized s F k h.1 hk ⟨hF, h.mem⟩]
  by_cases hB : blk s F (sb s (stN s k))
  · have hok : genOk s F (k : Int) := ⟨h, g, by simpa using hB⟩
    rw [genV_t hok] at hK
    rw [dB_t hok] at hK2
    rw [dB_t hB, if_pos rfl]
    simp (contextual := true) (maxSteps := 1000000) (disch := omega) only [↓Sd, ↓So, ↓Sk, ↓den, ↓denA, Sa, Sb, Sc, Se, O1.d, O2.d, O3.d, cmI, arI, envOf, putN, ↓reduceIte, Nat.reduceLT, Nat.reduceSub, Nat.reduceAdd, Int.reduceAdd, Int.reduceEq, Int.reduceLT, Int.reduceLE, arr_pos, arr_neg, ← hK, ← hK2]
  · have hok : ¬ genOk s F (k : Int) := fun g1 => hB (by simpa using g1.2.2)
    rw [dB_f hB]
    simp (contextual := true) (maxSteps := 1000000) (disch := omega) only [↓Sd, ↓So, ↓Sk, ↓den, ↓denA, Sa, Sb, Sc, Se, O1.d, O2.d, O3.d, cmI, arI, envOf, putN, ↓reduceIte, Nat.reduceLT, Nat.reduceSub, Nat.reduceAdd, Int.reduceAdd, Int.reduceEq, Int.reduceLT, Int.reduceLE, arr_pos, arr_neg, ]
    exact hno hok
theorem C_spec_Generalized (s : Sy) (F : List Int) (n : Int) (hs : FewSy s) (hF : F.length ≤ 1048576) (Q : List AV → Prop) : mc.C f_spec_Generalized [⟨L V3, s.1⟩, ⟨L TR, s.2⟩, ⟨L I, F⟩, ⟨I, n⟩] Q = Q [⟨L I, genV s F n⟩, ⟨B, dB (genOk s F n)⟩] := by
  refine Mc.Ends.c (mc.ends F_spec_Generalized ?_)
  have hno : ¬ genOk s F n → ([] = genV s F n ∧ false = dB (genOk s F n)) := fun g => ⟨(genV_f g).symm, (dB_f g).symm⟩
  generalize hK : genV s F n = K at *
  generalize hK2 : dB (genOk s F n) = K2 at *
  simp (contextual := true) (maxSteps := 1000000) (disch := omega) only [↓Sd, ↓So, ↓Sk, ↓den, ↓denA, Sa, Sb, Sc, Se, O1.d, O2.d, O3.d, cmI, arI, envOf, putN, ↓reduceIte, Nat.reduceLT, Nat.reduceSub, Nat.reduceAdd, Int.reduceAdd, Int.reduceEq, Int.reduceLT, Int.reduceLE, arr_pos, arr_neg, tr_spec_Generalized, C_spec_SetValid s F hs hF]
  refine ⟨fun h => hno fun g => h g.1, fun h => ?_⟩
  have hz := sz_ok h.1
  have hz2 := szn_eq h.1
  simp (contextual := true) (maxSteps := 1000000) (disch := omega) only [↓Sd, ↓So, ↓Sk, ↓den, ↓denA, Sa, Sb, Sc, Se, O1.d, O2.d, O3.d, cmI, arI, envOf, putN, ↓reduceIte, Nat.reduceLT, Nat.reduceSub, Nat.reduceAdd, Int.reduceAdd, Int.reduceEq, Int.reduceLT, Int.reduceLE, arr_pos, arr_neg, C_spec_SizeOf s hs, if_pos h.1, C_spec_l1In]
  refine ⟨fun g => hno fun g1 => g g1.2.1, fun g => ?_⟩
  obtain ⟨k, rfl⟩ : ∃ k : Nat, n = k := ⟨n.toNat, by omega⟩
  have hk : k < szn s.1 := by omega
  have hin := stN_in h.1 hk
  have hst : stAt s.1 (k : Int) = stN s k := rfl
  simp (contextual := true) (maxSteps := 1000000) (disch := omega) only [↓Sd, ↓So, ↓Sk, ↓den, ↓denA, Sa, Sb, Sc, Se, O1.d, O2.d, O3.d, cmI, arI, envOf, putN, ↓reduceIte, Nat.reduceLT, Nat.reduceSub, Nat.reduceAdd, Int.reduceAdd, Int.reduceEq, Int.reduceLT, Int.reduceLE, arr_pos, arr_neg, C_spec_l4Steps s hs h.1, C_spec_l4State s k hs h.1 (by omega), hst, C_spec_l6State s (stN s k) h.1 hin, C_spec_l17Blocked s F (sb s (stN s k)) hs h.1 h.n stN_sb_len]
  by_cases hB : blk s F (sb s (stN s k))
  · have hok : genOk s F (k : Int) := ⟨h, g, by simpa using hB⟩
    rw [genV_t hok] at hK
    rw [dB_t hok] at hK2
    have hB' := dB_t hB
    simp (contextual := true) (maxSteps := 1000000) (disch := omega) only [↓Sd, ↓So, ↓Sk, ↓den, ↓denA, Sa, Sb, Sc, Se, O1.d, O2.d, O3.d, cmI, arI, envOf, putN, ↓reduceIte, Nat.reduceLT, Nat.reduceSub, Nat.reduceAdd, Int.reduceAdd, Int.reduceEq, Int.reduceLT, Int.reduceLE, arr_pos, arr_neg, hB', C_spec_l17Wide s F k hs h.1 hk h.n hB', ← hK, ← hK2]
  · have hok : ¬ genOk s F (k : Int) := fun g1 => hB (by simpa using g1.2.2)
    simp (contextual := true) (maxSteps := 1000000) (disch := omega) only [↓Sd, ↓So, ↓Sk, ↓den, ↓denA, Sa, Sb, Sc, Se, O1.d, O2.d, O3.d, cmI, arI, envOf, putN, ↓reduceIte, Nat.reduceLT, Nat.reduceSub, Nat.reduceAdd, Int.reduceAdd, Int.reduceEq, Int.reduceLT, Int.reduceLE, arr_pos, arr_neg, dB_f hB]
    exact hno hok

/-! ### Laws -/
theorem law_FnExactBlockedBy (s : Sy) (F c : List Int) (hs : LtSy s) (hF : Lt63 F) (hc : Lt63 c) : mc.C f_laws_FnExactBlockedBy [⟨L V3, s.1⟩, ⟨L TR, s.2⟩, ⟨L I, F⟩, ⟨L I, c⟩] (· = [⟨B, true⟩]) := by
  unfold Lt63 at hF hc
  refine mc.c_of F_laws_FnExactBlockedBy ?_
  simp (contextual := true) (maxSteps := 1000000) (disch := omega) only [↓Sd, ↓So, ↓Sk, ↓den, ↓denA, Sa, Sb, Sc, Se, O1.d, O2.d, O3.d, cmI, arI, envOf, putN, ↓reduceIte, Nat.reduceLT, Nat.reduceSub, Nat.reduceAdd, Int.reduceAdd, Int.reduceEq, Int.reduceLT, Int.reduceLE, arr_pos, arr_neg, tr_laws_FnExactBlockedBy]
  intro h1 h2
  refine sz_System s _ (by omega) hs fun j h3 h4 => ?_
  simp (contextual := true) (maxSteps := 1000000) (disch := omega) only [↓Sd, ↓So, ↓Sk, ↓den, ↓denA, Sa, Sb, Sc, Se, O1.d, O2.d, O3.d, cmI, arI, envOf, putN, ↓reduceIte, Nat.reduceLT, Nat.reduceSub, Nat.reduceAdd, Int.reduceAdd, Int.reduceEq, Int.reduceLT, Int.reduceLE, arr_pos, arr_neg, ]
  intro h5
  have hs := h4 (by omega)
  have hF : Few F := by unfold Few; omega
  have hc : Few c := by unfold Few; omega
  simp (contextual := true) (maxSteps := 1000000) (disch := omega) only [↓Sd, ↓So, ↓Sk, ↓den, ↓denA, Sa, Sb, Sc, Se, O1.d, O2.d, O3.d, cmI, arI, envOf, putN, ↓reduceIte, Nat.reduceLT, Nat.reduceSub, Nat.reduceAdd, Int.reduceAdd, Int.reduceEq, Int.reduceLT, Int.reduceLE, arr_pos, arr_neg, to_System s hs, to_IntS F hF, to_IntS c hc, C_spec_BlockedBy s F c hs hF hc, C_impl_BlockedBy s F c hs hF hc, eq_System s hs, eq_IntS F hF, eq_IntS c hc]
theorem law_FnExactGeneralized (s : Sy) (l : List Int) (k : Int) (hs : LtSy s) (hl : Lt63 l) : mc.C f_laws_FnExactGeneralized [⟨L V3, s.1⟩, ⟨L TR, s.2⟩, ⟨L I, l⟩, ⟨I, k⟩] (· = [⟨B, true⟩]) := by
  refine mc.c_of F_laws_FnExactGeneralized ?_
  simp (contextual := true) (maxSteps := 1000000) (disch := omega) only [↓Sd, ↓So, ↓Sk, ↓den, ↓denA, Sa, Sb, Sc, Se, O1.d, O2.d, O3.d, cmI, arI, envOf, putN, ↓reduceIte, Nat.reduceLT, Nat.reduceSub, Nat.reduceAdd, Int.reduceAdd, Int.reduceEq, Int.reduceLT, Int.reduceLE, arr_pos, arr_neg, tr_laws_FnExactGeneralized]
  intro h1
  refine sz_System s _ (by omega) hs fun j h2 h3 => ?_
  simp (contextual := true) (maxSteps := 1000000) (disch := omega) only [↓Sd, ↓So, ↓Sk, ↓den, ↓denA, Sa, Sb, Sc, Se, O1.d, O2.d, O3.d, cmI, arI, envOf, putN, ↓reduceIte, Nat.reduceLT, Nat.reduceSub, Nat.reduceAdd, Int.reduceAdd, Int.reduceEq, Int.reduceLT, Int.reduceLE, arr_pos, arr_neg, ]
  intro h4
  have hs := h3 (by omega)
  have hf : Few l := by unfold Few; omega
  obtain ⟨K, hK⟩ : ∃ K, genV s l k = K := ⟨_, rfl⟩
  have hr : K.length ≤ 400 := by
    rw [← hK]
    by_cases g : genOk s l k
    · have h5 := bc_bd g.1.1
      have h6 := @gen_len s l k.toNat
      rw [genV_t g]; omega
    · rw [genV_f g]; simp
  simp (contextual := true) (maxSteps := 1000000) (disch := omega) only [↓Sd, ↓So, ↓Sk, ↓den, ↓denA, Sa, Sb, Sc, Se, O1.d, O2.d, O3.d, cmI, arI, envOf, putN, ↓reduceIte, Nat.reduceLT, Nat.reduceSub, Nat.reduceAdd, Int.reduceAdd, Int.reduceEq, Int.reduceLT, Int.reduceLE, arr_pos, arr_neg, to_System s hs, to_IntS l hf, C_spec_Generalized s l k hs hf, C_impl_Generalized s l k hs hf, hK, eq_IntS K (few_i (by omega)), eq_System s hs, eq_IntS l hf]
  refine mk_System s 1 (by omega) hs fun k' v r hk' => ?_
  simp (contextual := true) (maxSteps := 1000000) (disch := omega) only [↓Sd, ↓So, ↓Sk, ↓den, ↓denA, Sa, Sb, Sc, Se, O1.d, O2.d, O3.d, cmI, arI, envOf, putN, ↓reduceIte, Nat.reduceLT, Nat.reduceSub, Nat.reduceAdd, Int.reduceAdd, Int.reduceEq, Int.reduceLT, Int.reduceLE, arr_pos, arr_neg, mk_IntS l k' (by omega) hf, eq_IntS K (few_i (by omega)), mk_IntS K 1 (by omega) (by omega), held_IntS K.length 1 (by omega) (by omega), to_System s hs, to_IntS l hf, C_impl_Generalized s l k hs hf, hK]
end Go.Proofs.YthcpmnejbncckaaGreat
