/- What the trees come to: plain mathematics; no condition. -/
import Derived.Test.YtinfckfdphemiaaGreatSmMath0
/- Sets of numbers, both ways. -/
namespace Go.Proofs.YtinfckfdphemiaaGreat
open Go Go.Sm Go.Sm.Q
set_option linter.unusedSimpArgs false
set_option linter.unusedVariables false

noncomputable def dB (p : Prop) : Bool := @decide p (Classical.propDecidable p)
theorem dB_iff {p : Prop} : dB p = true ↔ p := @decide_eq_true_iff p (Classical.propDecidable p)
theorem dB_t {p : Prop} (h : p) : dB p = true := dB_iff.2 h
theorem dB_f {p : Prop} (h : ¬ p) : dB p = false := by cases h1 : dB p with | false => rfl | true => exact absurd (dB_iff.1 h1) h
theorem dB_congr {p q : Prop} (h : p ↔ q) : dB p = dB q := by rw [propext h]
theorem dB_eq {p : Prop} [Decidable p] : dB p = decide p := by by_cases h : p <;> simp [h, dB]
theorem tab_congr {α : Type} {f g : Nat → α} {n : Nat} (h : ∀ k, k < n → f k = g k) : tab f n = tab g n := by
  unfold tab
  exact List.map_congr_left fun k hk => h k (List.mem_range.1 hk)
theorem tab_set' {α : Type} {f : Nat → α} {n j : Nat} {x : α} : (tab f n).set j x = tab (fun k => if k = j then x else f k) n := by
  apply List.ext_getElem
  · simp [tab]
  · intro i h1 h2
    simp only [tab, List.length_set, List.length_map, List.length_range] at h1 h2
    rw [List.getElem_set]
    simp only [tab, List.getElem_map, List.getElem_range]
    by_cases h : j = i
    · rw [if_pos h, if_pos h.symm]
    · rw [if_neg h, if_neg (fun e => h e.symm)]
theorem rep_tab {α : Type} {z : α} {n : Nat} : List.replicate n z = tab (fun _ => z) n := by
  apply List.ext_getElem <;> simp [tab]
/-- Numbers that go up, from nought on and below a bound. -/
def lset (l : List Int) (n : Int) : Prop := ∀ i, i < l.length → (0 ≤ l.getD i 0 ∧ l.getD i 0 ≤ n - 1) ∧ (0 < i → l.getD (i - 1) 0 < l.getD i 0)
instance (l : List Int) (n : Int) : Decidable (lset l n) := by unfold lset; infer_instance
theorem lset_mem {l : List Int} {n : Int} (h : lset l n) : ∀ x ∈ l, 0 ≤ x ∧ x < n := by
  intro x hx
  obtain ⟨i, hi, rfl⟩ := List.getElem_of_mem hx
  have := (h i hi).1
  rw [getD_lt hi] at this
  omega
theorem lset_ge {l : List Int} {n : Int} (h : lset l n) : ∀ i, i < l.length → (i : Int) ≤ l.getD i 0 := by
  intro i
  induction i with
  | zero => intro hi; exact (h 0 hi).1.1
  | succ i ih =>
    intro hi
    have h1 := ih (by omega)
    have h2 := (h (i + 1) hi).2 (by omega)
    simp only [Nat.add_sub_cancel] at h2
    omega
theorem lset_len {l : List Int} {n : Int} (h : lset l n) (hn : 0 ≤ n) : (l.length : Int) ≤ n := by
  rcases Nat.eq_zero_or_pos l.length with h0 | h0
  · omega
  · have h1 := lset_ge h (l.length - 1) (by omega)
    have h2 := (h (l.length - 1) (by omega)).1.2
    omega
theorem lset_snoc {l : List Int} {n x : Int} (h : lset l n) (hx : 0 ≤ x ∧ x < n) (hl : ∀ y ∈ l, y < x) : lset (l ++ [x]) n := by
  intro i hi
  simp only [List.length_append, List.length_cons, List.length_nil, Nat.zero_add] at hi
  rw [getD_snoc, getD_snoc]
  by_cases h1 : i < l.length
  · rw [if_pos h1, if_pos (by omega)]; exact h i h1
  · have h2 : i = l.length := by omega
    rw [if_neg h1, if_pos h2]
    refine ⟨by omega, fun h3 => ?_⟩
    rw [if_pos (by omega)]
    exact hl _ (getD_mem (by omega))
theorem upTo_lt {p : Nat → Bool} {n : Nat} : ∀ x ∈ upTo p n, x < n := fun x hx => by obtain ⟨k, h1, h2, _⟩ := upTo_mem.1 hx; omega
theorem upTo_lset {p : Nat → Bool} {m : Nat} : ∀ {n : Nat}, n ≤ m → lset (upTo p n) m
  | 0, _ => fun i hi => absurd hi (Nat.not_lt_zero _)
  | n + 1, h => by
    simp only [upTo]
    split
    · exact lset_snoc (upTo_lset (by omega)) (by omega) upTo_lt
    · exact upTo_lset (by omega)
theorem lset_take {l : List Int} {n : Int} (h : lset l n) (k : Nat) : lset (l.take k) n := by
  intro i hi
  rw [List.length_take] at hi
  have := h i (by omega)
  have e : ∀ j, j ≤ i → (l.take k).getD j 0 = l.getD j 0 := fun j hj => by
    simp only [List.getD_eq_getElem?_getD, List.getElem?_take]
    rw [if_pos (by omega)]
  rw [e i (Nat.le_refl _), e (i - 1) (by omega)]
  exact this
theorem mem_take_next {l : List Int} {i : Nat} {x : Int} (h : i < l.length) : x ∈ l.take (i + 1) ↔ x ∈ l.take i ∨ x = l.getD i 0 := by
  rw [← take_next (d := 0) h]; simp
theorem C_spec_l4Marks (l : List Int) (n : Nat) (hn : n ≤ 1048576) (hl : l.length ≤ 1048576) (h : ∀ x ∈ l, 0 ≤ x ∧ x < n) (Q : List AV → Prop) : mc.C f_spec_l4Marks [⟨L I, l⟩, ⟨I, (n : Int)⟩] Q = Q [⟨L B, tab (fun k => dB ((k : Int) ∈ l)) n⟩] := by
  refine Mc.Ends.c (mc.ends F_spec_l4Marks ?_)
  simp (contextual := true) (maxSteps := 1000000) (disch := omega) only [↓Sd, ↓So, ↓Sk, ↓den, ↓denA, Sa, Sb, Sc, Se, O1.d, O2.d, O3.d, cmI, arI, envOf, putN, ↓reduceIte, Nat.reduceLT, Nat.reduceSub, Nat.reduceAdd, Int.reduceAdd, Int.reduceEq, Int.reduceLT, Int.reduceLE, arr_pos, arr_neg, tr_spec_l4Marks]
  refine mc.lp_for (List Bool) (fun i o => [⟨L I, l⟩, ⟨I, (i : Int)⟩, ⟨L B, o⟩]) (fun i o => o = tab (fun k => dB ((k : Int) ∈ l.take i)) n) l.length 0 (List.replicate n false) _ rfl (Nat.zero_le _) ?_ ?_ ?_
  · rw [rep_tab]; exact tab_congr fun k _ => (dB_f (by simp)).symm
  · rintro i o hi rfl
    have hx := h _ (getD_mem (d := 0) hi)
    simp (contextual := true) (maxSteps := 1000000) (disch := omega) only [↓Sd, ↓So, ↓Sk, ↓den, ↓denA, Sa, Sb, Sc, Se, O1.d, O2.d, O3.d, cmI, arI, envOf, putN, ↓reduceIte, Nat.reduceLT, Nat.reduceSub, Nat.reduceAdd, Int.reduceAdd, Int.reduceEq, Int.reduceLT, Int.reduceLE, arr_pos, arr_neg, tab_len, tab_set']
    refine tab_congr fun k hk => ?_
    by_cases hk2 : k = (l.getD i 0).toNat
    · rw [if_pos hk2, dB_t]; exact (mem_take_next hi).2 (.inr (by omega))
    · rw [if_neg hk2]; refine dB_congr ?_
      rw [mem_take_next hi]
      exact ⟨.inl, fun h => h.elim id fun h => absurd h (by omega)⟩
  · rintro o rfl
    rw [List.take_length]
    simp (contextual := true) (maxSteps := 1000000) (disch := omega) only [↓Sd, ↓So, ↓Sk, ↓den, ↓denA, Sa, Sb, Sc, Se, O1.d, O2.d, O3.d, cmI, arI, envOf, putN, ↓reduceIte, Nat.reduceLT, Nat.reduceSub, Nat.reduceAdd, Int.reduceAdd, Int.reduceEq, Int.reduceLT, Int.reduceLE, arr_pos, arr_neg, ]
theorem C_spec_l4Marks_i (l : List Int) (m : Int) (n : Nat) (e : m = n) (hn : n ≤ 1048576) (hl : l.length ≤ 1048576) (h : ∀ x ∈ l, 0 ≤ x ∧ x < n) (Q : List AV → Prop) : mc.C f_spec_l4Marks [⟨L I, l⟩, ⟨I, m⟩] Q = Q [⟨L B, tab (fun k => dB ((k : Int) ∈ l)) n⟩] := e ▸ C_spec_l4Marks l n hn hl h Q
theorem C_spec_l4List (l : List Bool) (hl : l.length ≤ 1048576) (Q : List AV → Prop) : mc.C f_spec_l4List [⟨L B, l⟩] Q = Q [⟨L I, upTo (fun k => l.getD k false) l.length⟩] := by
  refine Mc.Ends.c (mc.ends F_spec_l4List ?_)
  simp (contextual := true) (maxSteps := 1000000) (disch := omega) only [↓Sd, ↓So, ↓Sk, ↓den, ↓denA, Sa, Sb, Sc, Se, O1.d, O2.d, O3.d, cmI, arI, envOf, putN, ↓reduceIte, Nat.reduceLT, Nat.reduceSub, Nat.reduceAdd, Int.reduceAdd, Int.reduceEq, Int.reduceLT, Int.reduceLE, arr_pos, arr_neg, tr_spec_l4List]
  refine mc.lp_for (List Int) (fun i o => [⟨L B, l⟩, ⟨I, (i : Int)⟩, ⟨L I, o⟩]) (fun i o => o = upTo (fun k => l.getD k false) i) l.length 0 [] _ rfl (Nat.zero_le _) rfl ?_ ?_
  · rintro i o hi rfl
    have h1 := @upTo_len (fun k => l.getD k false) i
    simp (contextual := true) (maxSteps := 1000000) (disch := omega) only [↓Sd, ↓So, ↓Sk, ↓den, ↓denA, Sa, Sb, Sc, Se, O1.d, O2.d, O3.d, cmI, arI, envOf, putN, ↓reduceIte, Nat.reduceLT, Nat.reduceSub, Nat.reduceAdd, Int.reduceAdd, Int.reduceEq, Int.reduceLT, Int.reduceLE, arr_pos, arr_neg, ↓wpJoin, ]
    exact ⟨fun g => (upTo_s g).symm, fun g => (upTo_n g).symm⟩
  · rintro o rfl
    simp (contextual := true) (maxSteps := 1000000) (disch := omega) only [↓Sd, ↓So, ↓Sk, ↓den, ↓denA, Sa, Sb, Sc, Se, O1.d, O2.d, O3.d, cmI, arI, envOf, putN, ↓reduceIte, Nat.reduceLT, Nat.reduceSub, Nat.reduceAdd, Int.reduceAdd, Int.reduceEq, Int.reduceLT, Int.reduceLE, arr_pos, arr_neg, ]
theorem C_spec_l4List_tab (p : Nat → Bool) (n : Nat) (hn : n ≤ 1048576) (Q : List AV → Prop) : mc.C f_spec_l4List [⟨L B, tab p n⟩] Q = Q [⟨L I, upTo p n⟩] := by
  rw [C_spec_l4List _ (by rw [tab_len]; exact hn), tab_len, upTo_congr fun k hk => tab_get hk]
/-- Which numbers are behind marked ones. -/
def behind (T : List (List Int)) (p : Nat → Bool) (n : Nat) (k : Nat) : Prop := ∃ a, a < n ∧ p a = true ∧ (k : Int) ∈ T.getD a []
theorem C_spec_l4Behind (T : List (List Int)) (p : Nat → Bool) (n : Nat) (hn : n ≤ 1048576) (hT : T.length = n) (hr : ∀ r ∈ T, r.length ≤ 1048576 ∧ ∀ x ∈ r, 0 ≤ x ∧ x < n) (Q : List AV → Prop) : mc.C f_spec_l4Behind [⟨L (L I), T⟩, ⟨L B, tab p n⟩] Q = Q [⟨L B, tab (fun k => dB (behind T p n k)) n⟩] := by
  refine Mc.Ends.c (mc.ends F_spec_l4Behind ?_)
  simp (contextual := true) (maxSteps := 1000000) (disch := omega) only [↓Sd, ↓So, ↓Sk, ↓den, ↓denA, Sa, Sb, Sc, Se, O1.d, O2.d, O3.d, cmI, arI, envOf, putN, ↓reduceIte, Nat.reduceLT, Nat.reduceSub, Nat.reduceAdd, Int.reduceAdd, Int.reduceEq, Int.reduceLT, Int.reduceLE, arr_pos, arr_neg, tr_spec_l4Behind, hT]
  refine mc.lp_for (List Bool) (fun i o => [⟨L (L I), T⟩, ⟨L B, tab p n⟩, ⟨I, (i : Int)⟩, ⟨L B, o⟩]) (fun i o => o = tab (fun k => dB (behind T p i k)) n) n 0 (List.replicate n false) _ rfl (Nat.zero_le _) ?_ ?_ ?_
  · rw [rep_tab]; exact tab_congr fun k _ => (dB_f (by rintro ⟨a, h, _⟩; omega)).symm
  · rintro i o hi rfl
    have hrow := hr _ (getD_mem (d := []) (by omega : i < T.length))
    simp (contextual := true) (maxSteps := 1000000) (disch := omega) only [↓Sd, ↓So, ↓Sk, ↓den, ↓denA, Sa, Sb, Sc, Se, O1.d, O2.d, O3.d, cmI, arI, envOf, putN, ↓reduceIte, Nat.reduceLT, Nat.reduceSub, Nat.reduceAdd, Int.reduceAdd, Int.reduceEq, Int.reduceLT, Int.reduceLE, arr_pos, arr_neg, hT]
    refine mc.lp_for (List Bool) (fun j o => [⟨L (L I), T⟩, ⟨L B, tab p n⟩, ⟨I, (i : Int)⟩, ⟨I, (j : Int)⟩, ⟨L B, o⟩]) (fun j o => o = tab (fun k => dB (behind T p i k ∨ p i = true ∧ (k : Int) ∈ (T.getD i []).take j)) n) (T.getD i []).length 0 _ _ rfl (Nat.zero_le _) ?_ ?_ ?_
    · exact tab_congr fun k _ => dB_congr (by simp)
    · rintro j o hj rfl
      have hx := hrow.2 _ (getD_mem (d := 0) hj)
      simp (contextual := true) (maxSteps := 1000000) (disch := omega) only [↓Sd, ↓So, ↓Sk, ↓den, ↓denA, Sa, Sb, Sc, Se, O1.d, O2.d, O3.d, cmI, arI, envOf, putN, ↓reduceIte, Nat.reduceLT, Nat.reduceSub, Nat.reduceAdd, Int.reduceAdd, Int.reduceEq, Int.reduceLT, Int.reduceLE, arr_pos, arr_neg, ↓wpJoin, hT, tab_len, tab_get hi, tab_set']
      refine fun g => tab_congr fun k hk => ?_
      by_cases hk2 : k = ((T.getD i []).getD j 0).toNat
      · rw [if_pos hk2, dB_t]; exact .inr ((mem_take_next hj).2 (.inr (by omega)))
      · rw [if_neg hk2]; refine dB_congr ?_
        rw [mem_take_next hj]
        exact ⟨fun h => h.elim .inl fun h => .inr (.inl h), fun h => h.elim .inl fun h => .inr (h.elim id fun h => absurd h (by omega))⟩
    · rintro o rfl
      rw [List.take_length]
      simp (contextual := true) (maxSteps := 1000000) (disch := omega) only [↓Sd, ↓So, ↓Sk, ↓den, ↓denA, Sa, Sb, Sc, Se, O1.d, O2.d, O3.d, cmI, arI, envOf, putN, ↓reduceIte, Nat.reduceLT, Nat.reduceSub, Nat.reduceAdd, Int.reduceAdd, Int.reduceEq, Int.reduceLT, Int.reduceLE, arr_pos, arr_neg, hT]
      refine tab_congr fun k hk => dB_congr ⟨?_, ?_⟩
      · rintro (⟨a, h1, h2⟩ | h)
        · exact ⟨a, by omega, h2⟩
        · exact ⟨i, by omega, h⟩
      · rintro ⟨a, h1, h2⟩
        rcases Nat.lt_succ_iff_lt_or_eq.1 h1 with h | rfl
        · exact .inl ⟨a, h, h2⟩
        · exact .inr h2
  · rintro o rfl
    simp (contextual := true) (maxSteps := 1000000) (disch := omega) only [↓Sd, ↓So, ↓Sk, ↓den, ↓denA, Sa, Sb, Sc, Se, O1.d, O2.d, O3.d, cmI, arI, envOf, putN, ↓reduceIte, Nat.reduceLT, Nat.reduceSub, Nat.reduceAdd, Int.reduceAdd, Int.reduceEq, Int.reduceLT, Int.reduceLE, arr_pos, arr_neg, hT]
theorem C_spec_l4Set (l : List Int) (hl : l.length ≤ 1048576) (Q : List AV → Prop) : mc.C f_spec_l4Set [⟨L I, l⟩] Q = Q [⟨B, decide (lset l 400)⟩] := by
  refine Mc.Ends.c (mc.ends F_spec_l4Set ?_)
  generalize hK : decide (lset l 400) = K
  simp (contextual := true) (maxSteps := 1000000) (disch := omega) only [↓Sd, ↓So, ↓Sk, ↓den, ↓denA, Sa, Sb, Sc, Se, O1.d, O2.d, O3.d, cmI, arI, envOf, putN, ↓reduceIte, Nat.reduceLT, Nat.reduceSub, Nat.reduceAdd, Int.reduceAdd, Int.reduceEq, Int.reduceLT, Int.reduceLE, arr_pos, arr_neg, tr_spec_l4Set]
  refine lp_all (fun i => [⟨L I, l⟩, ⟨I, (i : Int)⟩]) (fun i => (0 ≤ l.getD i 0 ∧ l.getD i 0 ≤ 400 - 1) ∧ (0 < i → l.getD (i - 1) 0 < l.getD i 0)) l.length _ rfl ?_ ?_
  · intro i hi
    have hno : ¬ ((0 ≤ l.getD i 0 ∧ l.getD i 0 ≤ 400 - 1) ∧ (0 < i → l.getD (i - 1) 0 < l.getD i 0)) → false = K := fun h => by rw [← hK, decide_eq_false]; exact fun h1 => h (h1 i hi)
    simp (contextual := true) (maxSteps := 1000000) (disch := omega) only [↓Sd, ↓So, ↓Sk, ↓den, ↓denA, Sa, Sb, Sc, Se, O1.d, O2.d, O3.d, cmI, arI, envOf, putN, ↓reduceIte, Nat.reduceLT, Nat.reduceSub, Nat.reduceAdd, Int.reduceAdd, Int.reduceEq, Int.reduceLT, Int.reduceLE, arr_pos, arr_neg, ↓wpJoin, C_spec_l1In]
    grind
  · intro h
    simp (contextual := true) (maxSteps := 1000000) (disch := omega) only [↓Sd, ↓So, ↓Sk, ↓den, ↓denA, Sa, Sb, Sc, Se, O1.d, O2.d, O3.d, cmI, arI, envOf, putN, ↓reduceIte, Nat.reduceLT, Nat.reduceSub, Nat.reduceAdd, Int.reduceAdd, Int.reduceEq, Int.reduceLT, Int.reduceLE, arr_pos, arr_neg, ]
    rw [← hK, decide_eq_true]; exact h
end Go.Proofs.YtinfckfdphemiaaGreat
/- What is reached, both ways. -/
namespace Go.Proofs.YtinfckfdphemiaaGreat
open Go Go.Sm Go.Sm.Q
set_option linter.unusedSimpArgs false
set_option linter.unusedVariables false

theorem upTo_shrink {p q : Nat → Bool} {N M : Nat} (h : N ≤ M) (h1 : ∀ k, k < N → p k = q k) (h2 : ∀ k, N ≤ k → k < M → p k = false) : upTo p M = upTo q N := by
  induction M with
  | zero => have : N = 0 := by omega
            subst this; rfl
  | succ M ih =>
    rcases Nat.lt_or_eq_of_le h with h3 | rfl
    · rw [upTo_n (by rw [h2 M (by omega) (by omega)]; simp)]
      exact ih (by omega) fun k h4 h5 => h2 k h4 (by omega)
    · exact upTo_congr h1
theorem dB_upTo {p : Nat → Bool} {n k : Nat} : dB ((k : Int) ∈ upTo p n) = (decide (k < n) && p k) := by
  by_cases h : k < n ∧ p k = true
  · rw [dB_t (upTo_mem.2 ⟨k, h.1, rfl, h.2⟩)]; simp [h]
  · rw [dB_f]
    · by_cases h1 : k < n
      · have : p k = false := by cases h2 : p k with | false => rfl | true => exact absurd ⟨h1, h2⟩ h
        simp [this]
      · simp [h1]
    · intro h1
      obtain ⟨j, h2, h3, h4⟩ := upTo_mem.1 h1
      have : k = j := by omega
      subst this
      exact h ⟨h2, h4⟩
theorem upTo_mono {p q : Nat → Bool} : ∀ {n : Nat}, (∀ k, k < n → p k = true → q k = true) → (upTo p n).length ≤ (upTo q n).length ∧ ((upTo q n).length ≤ (upTo p n).length → ∀ k, k < n → q k = true → p k = true)
  | 0, _ => ⟨Nat.le_refl _, fun _ k hk => absurd hk (Nat.not_lt_zero _)⟩
  | n + 1, h => by
    obtain ⟨h1, h2⟩ := upTo_mono (n := n) fun k hk => h k (by omega)
    by_cases hp : p n = true
    · have hq := h n (by omega) hp
      rw [upTo_s hp, upTo_s hq]
      simp only [List.length_append, List.length_cons, List.length_nil]
      refine ⟨by omega, fun h3 k hk hqk => ?_⟩
      rcases Nat.lt_succ_iff_lt_or_eq.1 hk with h4 | rfl
      · exact h2 (by omega) k h4 hqk
      · exact hp
    · rw [upTo_n hp]
      by_cases hq : q n = true
      · rw [upTo_s hq]
        simp only [List.length_append, List.length_cons, List.length_nil]
        exact ⟨by omega, fun h3 => absurd h3 (by omega)⟩
      · rw [upTo_n hq]
        refine ⟨h1, fun h3 k hk hqk => ?_⟩
        rcases Nat.lt_succ_iff_lt_or_eq.1 hk with h4 | rfl
        · exact h2 h3 k h4 hqk
        · exact absurd hqk hq
theorem C_spec_l4Mix1 (a b : List Int) (N : Nat) (hN : N = 400) (ha : lset a 400) (hb : lset b 400) (Q : List AV → Prop) : mc.C f_spec_l4Mix [⟨L I, a⟩, ⟨L I, b⟩, ⟨I, 1⟩] Q = Q [⟨L I, upTo (fun k => dB ((k : Int) ∈ a) || dB ((k : Int) ∈ b)) N⟩] := by
  have la := lset_len ha (by omega)
  have lb := lset_len hb (by omega)
  have ma := lset_mem ha
  have mb := lset_mem hb
  refine Mc.Ends.c (mc.ends F_spec_l4Mix ?_)
  simp (contextual := true) (maxSteps := 1000000) (disch := omega) only [↓Sd, ↓So, ↓Sk, ↓den, ↓denA, Sa, Sb, Sc, Se, O1.d, O2.d, O3.d, cmI, arI, envOf, putN, ↓reduceIte, Nat.reduceLT, Nat.reduceSub, Nat.reduceAdd, Int.reduceAdd, Int.reduceEq, Int.reduceLT, Int.reduceLE, arr_pos, arr_neg, tr_spec_l4Mix, C_spec_l4Set a (by omega), C_spec_l4Set b (by omega), ha, hb, C_spec_l4Marks_i a 400 N (by omega) (by omega) (by omega) (fun x hx => by have := ma x hx; omega), C_spec_l4Marks_i b 400 N (by omega) (by omega) (by omega) (fun x hx => by have := mb x hx; omega)]
  refine mc.lp_for (List Int) (fun i o => [⟨I, 1⟩, ⟨I, (i : Int)⟩, ⟨L I, o⟩, ⟨L B, tab (fun k => dB ((k : Int) ∈ a)) N⟩, ⟨L B, tab (fun k => dB ((k : Int) ∈ b)) N⟩]) (fun i o => o = upTo (fun k => dB ((k : Int) ∈ a) || dB ((k : Int) ∈ b)) i) N 0 [] _ rfl (Nat.zero_le _) rfl ?_ ?_
  · rintro i o hi rfl
    have hl := @upTo_len (fun k => dB ((k : Int) ∈ a) || dB ((k : Int) ∈ b)) i
    simp (contextual := true) (maxSteps := 1000000) (disch := omega) only [↓Sd, ↓So, ↓Sk, ↓den, ↓denA, Sa, Sb, Sc, Se, O1.d, O2.d, O3.d, cmI, arI, envOf, putN, ↓reduceIte, Nat.reduceLT, Nat.reduceSub, Nat.reduceAdd, Int.reduceAdd, Int.reduceEq, Int.reduceLT, Int.reduceLE, arr_pos, arr_neg, ]
    refine mc.wp_join (fun us => us = [⟨I, 1⟩, ⟨I, (i : Int)⟩, ⟨L I, upTo (fun k => dB ((k : Int) ∈ a) || dB ((k : Int) ∈ b)) (i + 1)⟩, ⟨L B, tab (fun k => dB ((k : Int) ∈ a)) N⟩, ⟨L B, tab (fun k => dB ((k : Int) ∈ b)) N⟩]) ?_ (by rintro _ rfl; simp (contextual := true) (maxSteps := 1000000) (disch := omega) only [↓Sd, ↓So, ↓Sk, ↓den, ↓denA, Sa, Sb, Sc, Se, O1.d, O2.d, O3.d, cmI, arI, envOf, putN, ↓reduceIte, Nat.reduceLT, Nat.reduceSub, Nat.reduceAdd, Int.reduceAdd, Int.reduceEq, Int.reduceLT, Int.reduceLE, arr_pos, arr_neg, ])
    simp only [upTo]
    simp (contextual := true) (maxSteps := 1000000) (disch := omega) only [↓Sd, ↓So, ↓Sk, ↓den, ↓denA, Sa, Sb, Sc, Se, O1.d, O2.d, O3.d, cmI, arI, envOf, putN, ↓reduceIte, Nat.reduceLT, Nat.reduceSub, Nat.reduceAdd, Int.reduceAdd, Int.reduceEq, Int.reduceLT, Int.reduceLE, arr_pos, arr_neg, tab_len, tab_get hi, Bool.true_or, Bool.or_true, Bool.or_self]
  · rintro o rfl
    simp (contextual := true) (maxSteps := 1000000) (disch := omega) only [↓Sd, ↓So, ↓Sk, ↓den, ↓denA, Sa, Sb, Sc, Se, O1.d, O2.d, O3.d, cmI, arI, envOf, putN, ↓reduceIte, Nat.reduceLT, Nat.reduceSub, Nat.reduceAdd, Int.reduceAdd, Int.reduceEq, Int.reduceLT, Int.reduceLE, arr_pos, arr_neg, ]
theorem C_spec_l4Mix2 (a b : List Int) (N : Nat) (hN : N = 400) (ha : lset a 400) (hb : lset b 400) (Q : List AV → Prop) : mc.C f_spec_l4Mix [⟨L I, a⟩, ⟨L I, b⟩, ⟨I, 2⟩] Q = Q [⟨L I, upTo (fun k => dB ((k : Int) ∈ a) && !dB ((k : Int) ∈ b)) N⟩] := by
  have la := lset_len ha (by omega)
  have lb := lset_len hb (by omega)
  have ma := lset_mem ha
  have mb := lset_mem hb
  refine Mc.Ends.c (mc.ends F_spec_l4Mix ?_)
  simp (contextual := true) (maxSteps := 1000000) (disch := omega) only [↓Sd, ↓So, ↓Sk, ↓den, ↓denA, Sa, Sb, Sc, Se, O1.d, O2.d, O3.d, cmI, arI, envOf, putN, ↓reduceIte, Nat.reduceLT, Nat.reduceSub, Nat.reduceAdd, Int.reduceAdd, Int.reduceEq, Int.reduceLT, Int.reduceLE, arr_pos, arr_neg, tr_spec_l4Mix, C_spec_l4Set a (by omega), C_spec_l4Set b (by omega), ha, hb, C_spec_l4Marks_i a 400 N (by omega) (by omega) (by omega) (fun x hx => by have := ma x hx; omega), C_spec_l4Marks_i b 400 N (by omega) (by omega) (by omega) (fun x hx => by have := mb x hx; omega)]
  refine mc.lp_for (List Int) (fun i o => [⟨I, 2⟩, ⟨I, (i : Int)⟩, ⟨L I, o⟩, ⟨L B, tab (fun k => dB ((k : Int) ∈ a)) N⟩, ⟨L B, tab (fun k => dB ((k : Int) ∈ b)) N⟩]) (fun i o => o = upTo (fun k => dB ((k : Int) ∈ a) && !dB ((k : Int) ∈ b)) i) N 0 [] _ rfl (Nat.zero_le _) rfl ?_ ?_
  · rintro i o hi rfl
    have hl := @upTo_len (fun k => dB ((k : Int) ∈ a) && !dB ((k : Int) ∈ b)) i
    simp (contextual := true) (maxSteps := 1000000) (disch := omega) only [↓Sd, ↓So, ↓Sk, ↓den, ↓denA, Sa, Sb, Sc, Se, O1.d, O2.d, O3.d, cmI, arI, envOf, putN, ↓reduceIte, Nat.reduceLT, Nat.reduceSub, Nat.reduceAdd, Int.reduceAdd, Int.reduceEq, Int.reduceLT, Int.reduceLE, arr_pos, arr_neg, ]
    refine mc.wp_join (fun us => us = [⟨I, 2⟩, ⟨I, (i : Int)⟩, ⟨L I, upTo (fun k => dB ((k : Int) ∈ a) && !dB ((k : Int) ∈ b)) (i + 1)⟩, ⟨L B, tab (fun k => dB ((k : Int) ∈ a)) N⟩, ⟨L B, tab (fun k => dB ((k : Int) ∈ b)) N⟩]) ?_ (by rintro _ rfl; simp (contextual := true) (maxSteps := 1000000) (disch := omega) only [↓Sd, ↓So, ↓Sk, ↓den, ↓denA, Sa, Sb, Sc, Se, O1.d, O2.d, O3.d, cmI, arI, envOf, putN, ↓reduceIte, Nat.reduceLT, Nat.reduceSub, Nat.reduceAdd, Int.reduceAdd, Int.reduceEq, Int.reduceLT, Int.reduceLE, arr_pos, arr_neg, ])
    simp only [upTo]
    simp (contextual := true) (maxSteps := 1000000) (disch := omega) only [↓Sd, ↓So, ↓Sk, ↓den, ↓denA, Sa, Sb, Sc, Se, O1.d, O2.d, O3.d, cmI, arI, envOf, putN, ↓reduceIte, Nat.reduceLT, Nat.reduceSub, Nat.reduceAdd, Int.reduceAdd, Int.reduceEq, Int.reduceLT, Int.reduceLE, arr_pos, arr_neg, tab_len, tab_get hi, Bool.and_eq_true, Bool.not_eq_true', Bool.true_and, Bool.and_true, Bool.and_false, Bool.false_and, Bool.not_false, Bool.not_true]
  · rintro o rfl
    simp (contextual := true) (maxSteps := 1000000) (disch := omega) only [↓Sd, ↓So, ↓Sk, ↓den, ↓denA, Sa, Sb, Sc, Se, O1.d, O2.d, O3.d, cmI, arI, envOf, putN, ↓reduceIte, Nat.reduceLT, Nat.reduceSub, Nat.reduceAdd, Int.reduceAdd, Int.reduceEq, Int.reduceLT, Int.reduceLE, arr_pos, arr_neg, ]
theorem C_spec_SetEither (a b : List Int) (ha : lset a 400) (hb : lset b 400) (Q : List AV → Prop) : mc.C f_spec_SetEither [⟨L I, a⟩, ⟨L I, b⟩] Q = Q [⟨L I, upTo (fun k => dB ((k : Int) ∈ a) || dB ((k : Int) ∈ b)) 400⟩] := by
  refine Mc.Ends.c (mc.ends F_spec_SetEither ?_)
  obtain ⟨N, hN⟩ : ∃ N : Nat, N = 400 := ⟨_, rfl⟩
  rw [← hN]
  simp (contextual := true) (maxSteps := 1000000) (disch := omega) only [↓Sd, ↓So, ↓Sk, ↓den, ↓denA, Sa, Sb, Sc, Se, O1.d, O2.d, O3.d, cmI, arI, envOf, putN, ↓reduceIte, Nat.reduceLT, Nat.reduceSub, Nat.reduceAdd, Int.reduceAdd, Int.reduceEq, Int.reduceLT, Int.reduceLE, arr_pos, arr_neg, tr_spec_SetEither, C_spec_l4Mix1 a b N hN ha hb]
theorem C_spec_SetWithout (a b : List Int) (ha : lset a 400) (hb : lset b 400) (Q : List AV → Prop) : mc.C f_spec_SetWithout [⟨L I, a⟩, ⟨L I, b⟩] Q = Q [⟨L I, upTo (fun k => dB ((k : Int) ∈ a) && !dB ((k : Int) ∈ b)) 400⟩] := by
  refine Mc.Ends.c (mc.ends F_spec_SetWithout ?_)
  obtain ⟨N, hN⟩ : ∃ N : Nat, N = 400 := ⟨_, rfl⟩
  rw [← hN]
  simp (contextual := true) (maxSteps := 1000000) (disch := omega) only [↓Sd, ↓So, ↓Sk, ↓den, ↓denA, Sa, Sb, Sc, Se, O1.d, O2.d, O3.d, cmI, arI, envOf, putN, ↓reduceIte, Nat.reduceLT, Nat.reduceSub, Nat.reduceAdd, Int.reduceAdd, Int.reduceEq, Int.reduceLT, Int.reduceLE, arr_pos, arr_neg, tr_spec_SetWithout, C_spec_l4Mix2 a b N hN ha hb]
theorem either_upTo {p q : Nat → Bool} {n : Nat} (h : n ≤ 400) : upTo (fun k => dB ((k : Int) ∈ upTo p n) || dB ((k : Int) ∈ upTo q n)) 400 = upTo (fun k => p k || q k) n :=
  upTo_shrink h (fun k hk => by simp [dB_upTo, hk]) fun k h1 _ => by have : ¬ k < n := by omega
                                                                     simp [dB_upTo, this]
theorem without_upTo {p q : Nat → Bool} {n : Nat} (h : n ≤ 400) : upTo (fun k => dB ((k : Int) ∈ upTo p n) && !dB ((k : Int) ∈ upTo q n)) 400 = upTo (fun k => p k && !q k) n :=
  upTo_shrink h (fun k hk => by simp [dB_upTo, hk]) fun k h1 _ => by have : ¬ k < n := by omega
                                                                     simp [dB_upTo, this]
/-- What is reached from some numbers. -/
inductive Rch (T : List (List Int)) (F : List Int) : Nat → Prop
  | base {k : Nat} : (k : Int) ∈ F → Rch T F k
  | step {a k : Nat} : Rch T F a → (k : Int) ∈ T.getD a [] → Rch T F k
/-- A table of steps: rows of numbers of states. -/
def Tbl (T : List (List Int)) (n : Nat) : Prop := T.length = n ∧ ∀ r ∈ T, r.length ≤ 1048576 ∧ ∀ x ∈ r, 0 ≤ x ∧ x < n
theorem Tbl.row {T : List (List Int)} {n i : Nat} (h : Tbl T n) : ∀ x ∈ T.getD i [], 0 ≤ x ∧ x < n := by
  intro x hx
  by_cases hi : i < T.length
  · exact (h.2 _ (getD_mem hi)).2 x hx
  · rw [List.getD_eq_getElem?_getD, List.getElem?_eq_none (by omega)] at hx
    cases hx
theorem Rch.lt {T : List (List Int)} {F : List Int} {n k : Nat} (h : Tbl T n) (hF : ∀ x ∈ F, x < n) (hk : Rch T F k) : k < n := by
  induction hk with
  | base h1 => have := hF _ h1; omega
  | step _ h1 => have := h.row _ h1; omega
theorem steps_tbl {s : Sy} (h : valid s) : Tbl (steps s) (szn s.1) := by
  have hz := szn_eq h
  refine ⟨tab_len, fun r hr => ?_⟩
  simp only [steps, tab, List.mem_map, List.mem_range] at hr
  obtain ⟨i, hi, rfl⟩ := hr
  refine ⟨by simp only [stepR, List.length_map]; exact Nat.le_trans (nxt_len h) (by omega), fun x hx => ?_⟩
  simp only [stepR, List.mem_map] at hx
  obtain ⟨y, hy, rfl⟩ := hx
  have := num_bd h.2.2.1 (nxt_in y hy)
  omega
/-- The set that is reached, told by what is closed. -/
theorem rch_of_closed {T : List (List Int)} {F : List Int} {n : Nat} {p : Nat → Bool} (h : Tbl T n) (hF : ∀ x ∈ F, 0 ≤ x ∧ x < n) (h1 : ∀ k, k < n → (k : Int) ∈ F → p k = true) (h2 : ∀ k, k < n → p k = true → Rch T F k)
    (h3 : ∀ a, a < n → p a = true → ∀ k : Nat, (k : Int) ∈ T.getD a [] → p k = true) : ∀ k, k < n → p k = dB (Rch T F k) := by
  have key : ∀ k, Rch T F k → k < n ∧ p k = true := by
    intro k hk
    induction hk with
    | base h4 => have := hF _ h4; exact ⟨by omega, h1 _ (by omega) h4⟩
    | step _ h4 ih => have := h.row _ h4; exact ⟨by omega, h3 _ ih.1 ih.2 _ h4⟩
  intro k hk
  by_cases h4 : p k = true
  · rw [h4, dB_t (h2 k hk h4)]
  · rw [dB_f fun h5 => h4 (key k h5).2]; simpa using h4
theorem upTo_one {m : Nat} : ∀ {n : Nat}, upTo (fun k => k == m) n = if m < n then [(m : Int)] else []
  | 0 => by simp [upTo]
  | n + 1 => by
    by_cases h : n = m
    · subst h
      rw [upTo_s (by simp), upTo_one, if_neg (by omega), if_pos (by omega)]; rfl
    · rw [upTo_n (by simpa using h), upTo_one]
      by_cases h2 : m < n
      · rw [if_pos h2, if_pos (by omega)]
      · rw [if_neg h2, if_neg (by omega)]
/-- The numbers of the states that are reached. -/
noncomputable def rset (s : Sy) : List Int := upTo (fun k => dB (Rch (steps s) [num s.1 (fst0 s.1)] k)) (szn s.1)
theorem C_spec_ReachBy (s : Sy) (hs : FewSy s) (h : nar s) {Q : List AV → Prop} (hQ : ∀ k : Int, Q [⟨L I, rset s⟩, ⟨I, k⟩]) : mc.C f_spec_ReachBy [⟨L V3, s.1⟩, ⟨L TR, s.2⟩] Q := by
  have hv := h.1
  have hz := szn_eq hv
  have hb := h.2
  have hfi := fst0_in hv.2.2.1
  have hn := num_bd hv.2.2.1 hfi
  have ht := steps_tbl hv
  have hb0 : 0 ≤ bc s.1 := (sumN_bd (f := bw s.1) (fun i => bn_bd _) s.1.length).1
  refine mc.c_of F_spec_ReachBy ?_
  simp (contextual := true) (maxSteps := 1000000) (disch := omega) only [↓Sd, ↓So, ↓Sk, ↓den, ↓denA, Sa, Sb, Sc, Se, O1.d, O2.d, O3.d, cmI, arI, envOf, putN, ↓reduceIte, Nat.reduceLT, Nat.reduceSub, Nat.reduceAdd, Int.reduceAdd, Int.reduceEq, Int.reduceLT, Int.reduceLE, arr_pos, arr_neg, tr_spec_ReachBy, C_spec_l10Wide s hs, if_pos h, C_spec_l4Steps s hs hv, C_spec_FirstState s hs hv, C_spec_l4Number s _ hv.1.2 hv.2.2.1 hfi]
  obtain ⟨m, hm⟩ : ∃ m : Nat, num s.1 (fst0 s.1) = m := ⟨(num s.1 (fst0 s.1)).toNat, by omega⟩
  have hmn : m < szn s.1 := by omega
  have hrs : rset s = upTo (fun k => dB (Rch (steps s) [(m : Int)] k)) (szn s.1) := by rw [rset, hm]
  rw [hm]
  rw [hrs] at hQ
  generalize steps s = T at *
  generalize szn s.1 = n at *
  clear hrs hm hn hb hb0 hfi
  have hF : ∀ x ∈ [(m : Int)], 0 ≤ x ∧ x < n := by intro x hx; simp only [List.mem_singleton] at hx; omega
  refine mc.lp_inv (fun j us => ∃ (p : Nat → Bool) (rd : Int) (ag : Bool), us = [⟨I, rd⟩, ⟨B, ag⟩, ⟨L (L I), T⟩, ⟨L I, upTo p n⟩] ∧ p m = true ∧ (∀ k, k < n → p k = true → Rch T [(m : Int)] k) ∧
    (ag = false → ∀ a, a < n → p a = true → ∀ k : Nat, (k : Int) ∈ T.getD a [] → p k = true) ∧ (0 ≤ rd ∧ rd ≤ 500) ∧ (ag = true → rd ≤ (upTo p n).length) ∧ j = if ag = true then n + 1 - (upTo p n).length else 0) (n + 1 - (upTo (fun k => k == m) n).length) _
    ⟨fun k => k == m, 0, true, ?_, ?_, ?_, ?_, ⟨by omega, by omega⟩, fun _ => by omega, by simp⟩ ?_
  · rw [upTo_one, if_pos hmn]
  · simp
  · intro k hk hp; simp only [beq_iff_eq] at hp; subst hp; exact .base (by simp)
  · intro h; cases h
  rintro j us ⟨p, rd, ag, rfl, i1, i2, i3, i4, i5, rfl⟩
  have hlen := @upTo_len p n
  cases ag with
  | false =>
    simp (contextual := true) (maxSteps := 1000000) (disch := omega) only [↓Sd, ↓So, ↓Sk, ↓den, ↓denA, Sa, Sb, Sc, Se, O1.d, O2.d, O3.d, cmI, arI, envOf, putN, ↓reduceIte, Nat.reduceLT, Nat.reduceSub, Nat.reduceAdd, Int.reduceAdd, Int.reduceEq, Int.reduceLT, Int.reduceLE, arr_pos, arr_neg, ]
    have := upTo_congr (rch_of_closed ht hF (fun k hk hk2 => by simp only [List.mem_singleton] at hk2; rw [show k = m by omega]; exact i1) i2 (i3 rfl))
    rw [this]
    exact hQ _
  | true =>
    have i5 := i5 rfl
    have hset : upTo p n = upTo p n := rfl
    simp (contextual := true) (maxSteps := 1000000) (disch := omega) only [↓Sd, ↓So, ↓Sk, ↓den, ↓denA, Sa, Sb, Sc, Se, O1.d, O2.d, O3.d, cmI, arI, envOf, putN, ↓reduceIte, Nat.reduceLT, Nat.reduceSub, Nat.reduceAdd, Int.reduceAdd, Int.reduceEq, Int.reduceLT, Int.reduceLE, arr_pos, arr_neg, ht.1, C_spec_l4Marks (upTo p n) n (by omega) (by omega) (fun x hx => by have h1 := lset_mem (upTo_lset (Nat.le_refl n)) x hx; exact h1)]
    rw [tab_congr (g := p) (n := n) fun k hk => by rw [dB_upTo]; simp [hk]]
    rw [C_spec_l4Behind T p n (by omega) ht.1 ht.2]
    simp (contextual := true) (maxSteps := 1000000) (disch := omega) only [↓Sd, ↓So, ↓Sk, ↓den, ↓denA, Sa, Sb, Sc, Se, O1.d, O2.d, O3.d, cmI, arI, envOf, putN, ↓reduceIte, Nat.reduceLT, Nat.reduceSub, Nat.reduceAdd, Int.reduceAdd, Int.reduceEq, Int.reduceLT, Int.reduceLE, arr_pos, arr_neg, C_spec_l4List_tab _ n (by omega : n ≤ 1048576), C_spec_SetEither _ _ (upTo_lset (p := p) (m := 400) (n := n) (by omega)) (upTo_lset (p := fun k => dB (behind T p n k)) (m := 400) (n := n) (by omega)), either_upTo (by omega : n ≤ 400)]
    have hmono := upTo_mono (p := p) (q := fun k => p k || dB (behind T p n k)) (n := n) fun k _ hk => by simp [hk]
    have hlen2 := @upTo_len (fun k => p k || dB (behind T p n k)) n
    refine ⟨_, ?_, fun k => p k || dB (behind T p n k), rd + 1, _, ⟨rfl, rfl, rfl⟩, by simp [i1], ?_, ?_, ⟨by omega, by omega⟩, ?_, rfl⟩
    · split
      · rename_i hg; have := of_decide_eq_true hg; omega
      · omega
    · intro k hk hp
      simp only [Bool.or_eq_true] at hp
      rcases hp with hp | hp
      · exact i2 k hk hp
      · obtain ⟨a, h1, h2, h3⟩ := dB_iff.1 hp
        exact .step (i2 a h1 h2) h3
    · intro hg a ha hpa k hk
      have hg := of_decide_eq_false hg
      have hpa := hmono.2 (by omega) a ha hpa
      have : dB (behind T p n k) = true := dB_t ⟨a, ha, hpa, hk⟩
      simp [this]
    · intro hg; have := of_decide_eq_true hg; omega
theorem mk_or {c : Prop} [Decidable c] {b : Bool} (h : b = true) : (if c then true else b) = true := by
  split
  · rfl
  · exact h
/-- How many numbers are not marked. -/
def cntF (p : Nat → Bool) (n : Nat) : Nat := (upTo (fun k => !p k) n).length
theorem cntF_le {p : Nat → Bool} {n : Nat} : cntF p n ≤ n := upTo_len
theorem cntF_set {p : Nat → Bool} {j : Nat} (hp : p j = false) : ∀ {n : Nat}, j < n → cntF (fun k => if k = j then true else p k) n + 1 = cntF p n
  | 0, h => absurd h (Nat.not_lt_zero _)
  | n + 1, h => by
    unfold cntF
    by_cases hj : n = j
    · subst hj
      rw [upTo_n (by simp), upTo_s (by simp [hp]), upTo_congr (q := fun k => !p k) fun k hk => by
        have : ¬ k = n := by omega
        simp [this]]
      simp
    · have ih : (upTo (fun k => !(if k = j then true else p k)) n).length + 1 = (upTo (fun k => !p k) n).length := cntF_set hp (by omega)
      by_cases hq : p n = true
      · rw [upTo_n (by simp [hj, hq]), upTo_n (by simp [hq])]; exact ih
      · rw [upTo_s (by simp [hj, hq]), upTo_s (by simp [hq])]
        simp only [List.length_append, List.length_cons, List.length_nil]
        omega
theorem C_slices_Clone_int (l : List Int) (hl : l.length ≤ 1048576) (h0 : l ≠ []) (Q : List AV → Prop) : mc.C f_slices_Clone_Sint_int [⟨L I, l⟩] Q = Q [⟨L I, l⟩] := by
  refine Mc.Ends.c (mc.ends F_slices_Clone_Sint_int ?_)
  simp (contextual := true) (maxSteps := 1000000) (disch := omega) only [↓Sd, ↓So, ↓Sk, ↓den, ↓denA, Sa, Sb, Sc, Se, O1.d, O2.d, O3.d, cmI, arI, envOf, putN, ↓reduceIte, Nat.reduceLT, Nat.reduceSub, Nat.reduceAdd, Int.reduceAdd, Int.reduceEq, Int.reduceLT, Int.reduceLE, arr_pos, arr_neg, tr_slices_Clone_Sint_int, List.isEmpty_eq_false_iff, h0, List.nil_append]
theorem C_impl_reach (T : List (List Int)) (F : List Int) (n : Nat) (h0 : F ≠ []) (hn : n ≤ 1000) (ht : Tbl T n) (hF : ∀ x ∈ F, 0 ≤ x ∧ x < n) (hFl : F.length ≤ 1000) (Q : List AV → Prop) : mc.C f_impl_reach [⟨L (L I), T⟩, ⟨L I, F⟩] Q = Q [⟨L B, tab (fun k => dB (Rch T F k)) n⟩] := by
  have hl := ht.1
  refine Mc.Ends.c (mc.ends F_impl_reach ?_)
  simp (contextual := true) (maxSteps := 1000000) (disch := omega) only [↓Sd, ↓So, ↓Sk, ↓den, ↓denA, Sa, Sb, Sc, Se, O1.d, O2.d, O3.d, cmI, arI, envOf, putN, ↓reduceIte, Nat.reduceLT, Nat.reduceSub, Nat.reduceAdd, Int.reduceAdd, Int.reduceEq, Int.reduceLT, Int.reduceLE, arr_pos, arr_neg, tr_impl_reach, hl, C_slices_Clone_int F (by omega) h0]
  refine mc.lp_for (List Bool) (fun i o => [⟨L (L I), T⟩, ⟨L I, F⟩, ⟨I, (F.length : Int)⟩, ⟨I, (i : Int)⟩, ⟨L B, o⟩, ⟨L I, F⟩]) (fun i o => o = tab (fun k => dB ((k : Int) ∈ F.take i)) n) F.length 0 (List.replicate n false) _ rfl (Nat.zero_le _) ?_ ?_ ?_
  · rw [rep_tab]; exact tab_congr fun k _ => (dB_f (by simp)).symm
  · rintro i o hi rfl
    have hx := hF _ (getD_mem (d := 0) hi)
    simp (contextual := true) (maxSteps := 1000000) (disch := omega) only [↓Sd, ↓So, ↓Sk, ↓den, ↓denA, Sa, Sb, Sc, Se, O1.d, O2.d, O3.d, cmI, arI, envOf, putN, ↓reduceIte, Nat.reduceLT, Nat.reduceSub, Nat.reduceAdd, Int.reduceAdd, Int.reduceEq, Int.reduceLT, Int.reduceLE, arr_pos, arr_neg, tab_len, tab_set']
    refine tab_congr fun k hk => ?_
    by_cases hk2 : k = (F.getD i 0).toNat
    · rw [if_pos hk2, dB_t]; exact (mem_take_next hi).2 (.inr (by omega))
    · rw [if_neg hk2]; refine dB_congr ?_
      rw [mem_take_next hi]
      exact ⟨.inl, fun h => h.elim id fun h => absurd h (by omega)⟩
  rintro o rfl
  rw [List.take_length]
  simp (contextual := true) (maxSteps := 1000000) (disch := omega) only [↓Sd, ↓So, ↓Sk, ↓den, ↓denA, Sa, Sb, Sc, Se, O1.d, O2.d, O3.d, cmI, arI, envOf, putN, ↓reduceIte, Nat.reduceLT, Nat.reduceSub, Nat.reduceAdd, Int.reduceAdd, Int.reduceEq, Int.reduceLT, Int.reduceLE, arr_pos, arr_neg, ]
  refine mc.lp_inv (fun j us => ∃ (p : Nat → Bool) (q : List Int), us = [⟨L (L I), T⟩, ⟨L B, tab p n⟩, ⟨L I, q⟩] ∧ (∀ x ∈ q, (0 ≤ x ∧ x < n) ∧ p x.toNat = true) ∧ (∀ k, k < n → (k : Int) ∈ F → p k = true) ∧ (∀ k, k < n → p k = true → Rch T F k) ∧
    (∀ a, a < n → p a = true → (a : Int) ∉ q → ∀ k : Nat, (k : Int) ∈ T.getD a [] → p k = true) ∧ q.length + cntF p n ≤ 2000 ∧ j = 2 * cntF p n + q.length) _ _
    ⟨fun k => dB ((k : Int) ∈ F), F, rfl, ?_, fun k _ h => dB_t h, fun k _ h => .base (dB_iff.1 h), fun a _ h1 h2 => absurd (dB_iff.1 h1) h2, ?_, rfl⟩ ?_
  · intro x hx
    have := hF x hx
    exact ⟨this, dB_t (by rw [show ((x.toNat : Nat) : Int) = x by omega]; exact hx)⟩
  · have := @cntF_le (fun k => dB ((k : Int) ∈ F)) n; omega
  rintro j us ⟨p, q, rfl, i1, i2, i3, i4, i5, rfl⟩
  cases q with
  | nil =>
    simp (contextual := true) (maxSteps := 1000000) (disch := omega) only [↓Sd, ↓So, ↓Sk, ↓den, ↓denA, Sa, Sb, Sc, Se, O1.d, O2.d, O3.d, cmI, arI, envOf, putN, ↓reduceIte, Nat.reduceLT, Nat.reduceSub, Nat.reduceAdd, Int.reduceAdd, Int.reduceEq, Int.reduceLT, Int.reduceLE, arr_pos, arr_neg, ]
    exact tab_congr (rch_of_closed ht hF i2 i3 fun a ha hp k hk => i4 a ha hp (by simp) k hk)
  | cons x q =>
    obtain ⟨⟨hx0, hx1⟩, hxp⟩ := i1 x (List.mem_cons_self ..)
    have hrow := ht.row (i := x.toNat)
    have hrl : (T.getD x.toNat []).length ≤ 1048576 := (ht.2 _ (getD_mem (by omega))).1
    simp only [List.length_cons] at i5
    obtain ⟨row, hr⟩ : ∃ row, T.getD x.toNat [] = row := ⟨_, rfl⟩
    rw [hr] at hrow hrl
    simp (contextual := true) (maxSteps := 1000000) (disch := omega) only [↓Sd, ↓So, ↓Sk, ↓den, ↓denA, Sa, Sb, Sc, Se, O1.d, O2.d, O3.d, cmI, arI, envOf, putN, ↓reduceIte, Nat.reduceLT, Nat.reduceSub, Nat.reduceAdd, Int.reduceAdd, Int.reduceEq, Int.reduceLT, Int.reduceLE, arr_pos, arr_neg, hl, hr, List.drop_succ_cons, List.drop_zero]
    refine mc.lp_for ((Nat → Bool) × List Int) (fun j s => [⟨L (L I), T⟩, ⟨L I, row⟩, ⟨I, (row.length : Int)⟩, ⟨I, (j : Int)⟩, ⟨L B, tab s.1 n⟩, ⟨L I, s.2⟩]) (fun j s => (∀ x ∈ s.2, (0 ≤ x ∧ x < n) ∧ s.1 x.toNat = true) ∧ (∀ k, k < n → p k = true → s.1 k = true) ∧ (∀ k, k < n → s.1 k = true → Rch T F k) ∧
      (∀ k : Nat, (k : Int) ∈ row.take j → s.1 k = true) ∧ (∀ a, a < n → s.1 a = true → (a : Int) ∉ s.2 → (a : Int) ≠ x → ∀ k : Nat, (k : Int) ∈ T.getD a [] → s.1 k = true) ∧ s.2.length + cntF s.1 n ≤ q.length + cntF p n ∧ cntF s.1 n ≤ cntF p n) row.length 0 (p, q) _ rfl (Nat.zero_le _)
      ⟨fun y hy => i1 y (List.mem_cons_of_mem _ hy), fun _ _ h => h, i3, by simp, fun a h1 h2 h3 h4 => i4 a h1 h2 (by simp only [List.mem_cons, not_or]; exact ⟨h4, h3⟩), Nat.le_refl _, Nat.le_refl _⟩ ?_ ?_
    · rintro j ⟨p', q'⟩ hj ⟨a1, a2, a3, a4, a5, a6, a7⟩
      simp only at a1 a2 a3 a4 a5 a6 a7
      have hy := hrow _ (getD_mem (d := 0) hj)
      obtain ⟨y, hy2⟩ : ∃ y : Nat, row.getD j 0 = y := ⟨(row.getD j 0).toNat, by omega⟩
      have hyn : y < n := by omega
      have hyr : Rch T F y := .step (i3 x.toNat (by omega) hxp) (by rw [hr, ← hy2]; exact getD_mem hj)
      simp (contextual := true) (maxSteps := 1000000) (disch := omega) only [↓Sd, ↓So, ↓Sk, ↓den, ↓denA, Sa, Sb, Sc, Se, O1.d, O2.d, O3.d, cmI, arI, envOf, putN, ↓reduceIte, Nat.reduceLT, Nat.reduceSub, Nat.reduceAdd, Int.reduceAdd, Int.reduceEq, Int.reduceLT, Int.reduceLE, arr_pos, arr_neg, ↓wpJoin, hy2, tab_len, tab_get hyn, tab_set']
      refine ⟨fun g => ?_, fun g => ?_⟩
      · have hc := cntF_set g hyn
        refine ⟨(fun k => if k = y then true else p' k, q' ++ [(y : Int)]), ⟨rfl, rfl⟩, ?_, ?_, ?_, ?_, ?_, ?_, ?_⟩
        · intro z hz
          rcases List.mem_append.1 hz with h | h
          · have := a1 z h; exact ⟨this.1, mk_or this.2⟩
          · simp only [List.mem_singleton] at h; subst h; exact ⟨by omega, by simp⟩
        · intro k hk h; exact mk_or (a2 k hk h)
        · intro k hk h
          by_cases hky : k = y
          · rw [hky]; exact hyr
          · exact a3 k hk (by simpa [hky] using h)
        · intro k hk
          simp only []
          split
          · rfl
          · rename_i hky
            rcases (mem_take_next hj).1 hk with h | h
            · exact a4 k h
            · exact absurd (by omega) hky
        · intro a ha h1 h2 h3 k hk
          simp only [List.mem_append, List.mem_singleton, not_or] at h2
          have hay : ¬ a = y := fun h => h2.2 (by rw [h])
          simp only []
          split
          · rfl
          · exact a5 a ha (by simpa [hay] using h1) h2.1 h3 k hk
        · simp only [List.length_append, List.length_cons, List.length_nil]; omega
        · simp only []; omega
      · refine ⟨(p', q'), ⟨rfl, rfl⟩, a1, a2, a3, fun k hk => ?_, a5, a6, a7⟩
        rcases (mem_take_next hj).1 hk with h | h
        · exact a4 k h
        · rw [show k = y by omega]; simpa using g
    · rintro ⟨p', q'⟩ ⟨a1, a2, a3, a4, a5, a6, a7⟩
      rw [List.take_length] at a4
      simp only at a6 a7
      simp (contextual := true) (maxSteps := 1000000) (disch := omega) only [↓Sd, ↓So, ↓Sk, ↓den, ↓denA, Sa, Sb, Sc, Se, O1.d, O2.d, O3.d, cmI, arI, envOf, putN, ↓reduceIte, Nat.reduceLT, Nat.reduceSub, Nat.reduceAdd, Int.reduceAdd, Int.reduceEq, Int.reduceLT, Int.reduceLE, arr_pos, arr_neg, ]
      refine ⟨_, ?_, p', q', ⟨rfl, rfl⟩, a1, fun k hk h => a2 k hk (i2 k hk h), a3, fun a ha h1 h2 k hk => ?_, by omega, rfl⟩
      · omega
      · by_cases hax : (a : Int) = x
        · rw [← hr] at a4; exact a4 k (by rw [← hax]; exact hk)
        · exact a5 a ha h1 h2 hax k hk
end Go.Proofs.YtinfckfdphemiaaGreat
/- What always holds, both ways; the law. -/
namespace Go.Proofs.YtinfckfdphemiaaGreat
open Go Go.Sm Go.Sm.Q
set_option linter.unusedSimpArgs false
set_option linter.unusedVariables false

/-- Is the state with a number reached? -/
noncomputable def rchB (s : Sy) (k : Nat) : Bool := dB (Rch (steps s) [num s.1 (fst0 s.1)] k)
theorem first_num {s : Sy} (h : valid s) : ∀ x ∈ [num s.1 (fst0 s.1)], 0 ≤ x ∧ x < (szn s.1 : Int) := by
  intro x hx
  have h1 := num_bd h.2.2.1 (fst0_in h.2.2.1)
  have h2 := szn_eq h
  simp only [List.mem_singleton] at hx
  omega
theorem C_impl_reachOf (s : Sy) (h : valid s) (Q : List AV → Prop) : mc.C f_impl_reachOf [⟨L V3, s.1⟩, ⟨L TR, s.2⟩] Q = Q [⟨L B, tab (rchB s) (szn s.1)⟩] := by
  have hz := szn_eq h
  refine Mc.Ends.c (mc.ends F_impl_reachOf ?_)
  simp (contextual := true) (maxSteps := 1000000) (disch := omega) only [↓Sd, ↓So, ↓Sk, ↓den, ↓denA, Sa, Sb, Sc, Se, O1.d, O2.d, O3.d, cmI, arI, envOf, putN, ↓reduceIte, Nat.reduceLT, Nat.reduceSub, Nat.reduceAdd, Int.reduceAdd, Int.reduceEq, Int.reduceLT, Int.reduceLE, arr_pos, arr_neg, tr_impl_reachOf, C_impl_nexts s h, C_impl_first s h.1.2, C_impl_number s _ h.1.2 h.2.2.1 (fst0_in h.2.2.1), C_impl_reach _ _ (szn s.1) (by simp) (by omega) (steps_tbl h) (first_num h) (by simp)]
  rfl
def allIf (p q : Nat → Bool) (n : Nat) : Prop := ∀ k, k < n → p k = true → q k = true
theorem C_impl_always (s : Sy) (l : List Tm) (p : Nat → Bool) (h : valid s) (hl : kf l s.1.length ≠ 0) (Q : List AV → Prop) : mc.C f_impl_always [⟨L V3, s.1⟩, ⟨L TR, s.2⟩, ⟨L T4, l⟩, ⟨L B, tab p (szn s.1)⟩] Q = Q [⟨B, dB (allIf p (holdsN s l) (szn s.1))⟩] := by
  have hz := szn_eq h
  refine Mc.Ends.c (mc.ends F_impl_always ?_)
  generalize hK : dB (allIf p (holdsN s l) (szn s.1)) = K
  simp (contextual := true) (maxSteps := 1000000) (disch := omega) only [↓Sd, ↓So, ↓Sk, ↓den, ↓denA, Sa, Sb, Sc, Se, O1.d, O2.d, O3.d, cmI, arI, envOf, putN, ↓reduceIte, Nat.reduceLT, Nat.reduceSub, Nat.reduceAdd, Int.reduceAdd, Int.reduceEq, Int.reduceLT, Int.reduceLE, arr_pos, arr_neg, tr_impl_always, C_impl_where s l h hl, tab_len]
  refine lp_all (fun i => [⟨L B, tab p (szn s.1)⟩, ⟨I, (szn s.1 : Int)⟩, ⟨I, (i : Int)⟩, ⟨L B, tab (holdsN s l) (szn s.1)⟩]) (fun i => p i = true → holdsN s l i = true) (szn s.1) _ rfl ?_ ?_
  · intro i hi
    have hno : ¬ (p i = true → holdsN s l i = true) → false = K := fun g => by rw [← hK, dB_f]; exact fun h1 => g (h1 i hi)
    simp (contextual := true) (maxSteps := 1000000) (disch := omega) only [↓Sd, ↓So, ↓Sk, ↓den, ↓denA, Sa, Sb, Sc, Se, O1.d, O2.d, O3.d, cmI, arI, envOf, putN, ↓reduceIte, Nat.reduceLT, Nat.reduceSub, Nat.reduceAdd, Int.reduceAdd, Int.reduceEq, Int.reduceLT, Int.reduceLE, arr_pos, arr_neg, ↓wpJoin, tab_len, tab_get hi]
    grind
  · intro g
    simp (contextual := true) (maxSteps := 1000000) (disch := omega) only [↓Sd, ↓So, ↓Sk, ↓den, ↓denA, Sa, Sb, Sc, Se, O1.d, O2.d, O3.d, cmI, arI, envOf, putN, ↓reduceIte, Nat.reduceLT, Nat.reduceSub, Nat.reduceAdd, Int.reduceAdd, Int.reduceEq, Int.reduceLT, Int.reduceLE, arr_pos, arr_neg, ]
    rw [← hK, dB_t]; exact g
theorem C_impl_truthOf (s : Sy) (l : List Tm) (hs : FewSy s) (hf : Few l) (Q : List AV → Prop) : mc.C f_impl_truthOf [⟨L V3, s.1⟩, ⟨L TR, s.2⟩, ⟨L T4, l⟩] Q = Q [⟨B, decide (valid s ∧ kf l s.1.length = 2)⟩] := by
  refine Mc.Ends.c (mc.ends F_impl_truthOf ?_)
  generalize hK : decide (valid s ∧ kf l s.1.length = 2) = K
  simp (contextual := true) (maxSteps := 1000000) (disch := omega) only [↓Sd, ↓So, ↓Sk, ↓den, ↓denA, Sa, Sb, Sc, Se, O1.d, O2.d, O3.d, cmI, arI, envOf, putN, ↓reduceIte, Nat.reduceLT, Nat.reduceSub, Nat.reduceAdd, Int.reduceAdd, Int.reduceEq, Int.reduceLT, Int.reduceLE, arr_pos, arr_neg, tr_impl_truthOf, C_impl_SystemValid s hs, C_impl_kindOf l _ hf] <;> grind
theorem C_impl_Always (s : Sy) (l : List Tm) (hs : FewSy s) (hf : Few l) (Q : List AV → Prop) : mc.C f_impl_Always [⟨L V3, s.1⟩, ⟨L TR, s.2⟩, ⟨L T4, l⟩] Q = Q [⟨B, dB (valid s ∧ kf l s.1.length = 2 ∧ allIf (rchB s) (holdsN s l) (szn s.1))⟩] := by
  refine Mc.Ends.c (mc.ends F_impl_Always ?_)
  simp (contextual := true) (maxSteps := 1000000) (disch := omega) only [↓Sd, ↓So, ↓Sk, ↓den, ↓denA, Sa, Sb, Sc, Se, O1.d, O2.d, O3.d, cmI, arI, envOf, putN, ↓reduceIte, Nat.reduceLT, Nat.reduceSub, Nat.reduceAdd, Int.reduceAdd, Int.reduceEq, Int.reduceLT, Int.reduceLE, arr_pos, arr_neg, tr_impl_Always, C_impl_truthOf s l hs hf]
  refine ⟨fun h => ?_, fun h => (dB_f fun g => h ⟨g.1, g.2.1⟩).symm⟩
  simp (contextual := true) (maxSteps := 1000000) (disch := omega) only [↓Sd, ↓So, ↓Sk, ↓den, ↓denA, Sa, Sb, Sc, Se, O1.d, O2.d, O3.d, cmI, arI, envOf, putN, ↓reduceIte, Nat.reduceLT, Nat.reduceSub, Nat.reduceAdd, Int.reduceAdd, Int.reduceEq, Int.reduceLT, Int.reduceLE, arr_pos, arr_neg, C_impl_reachOf s h.1, C_impl_always s l _ h.1 (by omega)]
  first
    | done
    | exact dB_congr ⟨fun g => ⟨h.1, h.2, g⟩, fun g => g.2.2⟩
def alwaysBy (s : Sy) (l : List Tm) : Prop := nar s ∧ kf l s.1.length = 2 ∧ allIf (rchB s) (holdsN s l) (szn s.1)
theorem C_impl_AlwaysBy (s : Sy) (l : List Tm) (hs : FewSy s) (hf : Few l) (Q : List AV → Prop) : mc.C f_impl_AlwaysBy [⟨L V3, s.1⟩, ⟨L TR, s.2⟩, ⟨L T4, l⟩] Q = Q [⟨B, dB (alwaysBy s l)⟩] := by
  refine Mc.Ends.c (mc.ends F_impl_AlwaysBy ?_)
  simp (contextual := true) (maxSteps := 1000000) (disch := omega) only [↓Sd, ↓So, ↓Sk, ↓den, ↓denA, Sa, Sb, Sc, Se, O1.d, O2.d, O3.d, cmI, arI, envOf, putN, ↓reduceIte, Nat.reduceLT, Nat.reduceSub, Nat.reduceAdd, Int.reduceAdd, Int.reduceEq, Int.reduceLT, Int.reduceLE, arr_pos, arr_neg, tr_impl_AlwaysBy, C_impl_halfNarrow s hs, C_impl_Always s l hs hf]
  exact ⟨fun h => dB_congr ⟨fun g => ⟨h, g.2⟩, fun g => ⟨g.1.1, g.2⟩⟩, fun h => (dB_f fun g => h g.1).symm⟩
theorem upTo_nil {p : Nat → Bool} {n : Nat} : (upTo p n).length = 0 ↔ ∀ k, k < n → p k = false := by
  constructor
  · intro h k hk
    cases hp : p k with
    | false => rfl
    | true =>
      have := (upTo_mem (p := p) (n := n) (x := k)).2 ⟨k, hk, rfl, hp⟩
      rw [List.eq_nil_of_length_eq_zero h] at this
      cases this
  · intro h
    cases hl : upTo p n with
    | nil => rfl
    | cons x l =>
      obtain ⟨k, h1, _, h3⟩ := (upTo_mem (p := p) (n := n) (x := x)).1 (by rw [hl]; simp)
      rw [h k h1] at h3
      cases h3
theorem C_spec_AlwaysBy (s : Sy) (l : List Tm) (hs : FewSy s) (hf : Few l) {Q : List AV → Prop} (hQ : Q [⟨B, dB (alwaysBy s l)⟩]) : mc.C f_spec_AlwaysBy [⟨L V3, s.1⟩, ⟨L TR, s.2⟩, ⟨L T4, l⟩] Q := by
  refine mc.c_of F_spec_AlwaysBy ?_
  simp (contextual := true) (maxSteps := 1000000) (disch := omega) only [↓Sd, ↓So, ↓Sk, ↓den, ↓denA, Sa, Sb, Sc, Se, O1.d, O2.d, O3.d, cmI, arI, envOf, putN, ↓reduceIte, Nat.reduceLT, Nat.reduceSub, Nat.reduceAdd, Int.reduceAdd, Int.reduceEq, Int.reduceLT, Int.reduceLE, arr_pos, arr_neg, tr_spec_AlwaysBy, C_spec_l10Wide s hs, C_spec_l2Is l s.1.length 2 hf (by omega)]
  have hb0 : 0 ≤ bc s.1 := (sumN_bd (f := bw s.1) (fun i => bn_bd _) s.1.length).1
  refine ⟨fun h => ?_, fun h => ⟨fun h2 => ?_, fun h2 => ?_⟩⟩
  · rw [dB_f] at hQ
    · exact hQ
    · intro g; rw [if_pos g.1] at h; omega
  · rw [dB_f] at hQ
    · exact hQ
    · intro g; exact h2 g.2.1
  · have hn : nar s := Classical.byContradiction fun g => by rw [if_neg g] at h; omega
    have hz := szn_eq hn.1
    refine C_spec_ReachBy s hs hn fun k => ?_
    simp (contextual := true) (maxSteps := 1000000) (disch := omega) only [↓Sd, ↓So, ↓Sk, ↓den, ↓denA, Sa, Sb, Sc, Se, O1.d, O2.d, O3.d, cmI, arI, envOf, putN, ↓reduceIte, Nat.reduceLT, Nat.reduceSub, Nat.reduceAdd, Int.reduceAdd, Int.reduceEq, Int.reduceLT, Int.reduceLE, arr_pos, arr_neg, C_spec_StatesWhere s l hs hf hn.1 h2, C_spec_SetWithout (rset s) (upTo (holdsN s l) (szn s.1)) (upTo_lset (m := 400) (by omega)) (upTo_lset (m := 400) (by omega))]
    have e : rset s = upTo (rchB s) (szn s.1) := rfl
    rw [e, without_upTo (by omega)]
    have e2 : (((upTo (fun k => rchB s k && !holdsN s l k) (szn s.1)).length : Int) == 0) = dB (alwaysBy s l) := by
      by_cases h3 : alwaysBy s l
      · rw [dB_t h3, upTo_nil.2 fun k hk => ?_]
        · rfl
        · cases hr : rchB s k with
          | false => rfl
          | true => simp [h3.2.2 k hk hr]
      · rw [dB_f h3]
        refine beq_eq_false_iff_ne.2 fun h4 => h3 ⟨hn, h2, fun k hk hr => ?_⟩
        have := upTo_nil.1 (Int.ofNat_eq_zero.1 h4) k hk
        simpa [hr] using this
    rw [e2]
    exact hQ
theorem law_FnExactAlwaysBy (s : Sy) (l : List Tm) (hs : LtSy s) (hl : Lt63 l) : mc.C f_laws_FnExactAlwaysBy [⟨L V3, s.1⟩, ⟨L TR, s.2⟩, ⟨L T4, l⟩] (· = [⟨B, true⟩]) := by
  refine mc.c_of F_laws_FnExactAlwaysBy ?_
  simp (contextual := true) (maxSteps := 1000000) (disch := omega) only [↓Sd, ↓So, ↓Sk, ↓den, ↓denA, Sa, Sb, Sc, Se, O1.d, O2.d, O3.d, cmI, arI, envOf, putN, ↓reduceIte, Nat.reduceLT, Nat.reduceSub, Nat.reduceAdd, Int.reduceAdd, Int.reduceEq, Int.reduceLT, Int.reduceLE, arr_pos, arr_neg, tr_laws_FnExactAlwaysBy]
  refine sz_System s _ (by omega) hs fun k h1 h2 => ?_
  simp (contextual := true) (maxSteps := 1000000) (disch := omega) only [↓Sd, ↓So, ↓Sk, ↓den, ↓denA, Sa, Sb, Sc, Se, O1.d, O2.d, O3.d, cmI, arI, envOf, putN, ↓reduceIte, Nat.reduceLT, Nat.reduceSub, Nat.reduceAdd, Int.reduceAdd, Int.reduceEq, Int.reduceLT, Int.reduceLE, arr_pos, arr_neg, ]
  intro h3
  refine sz_TermS l k (by omega) hl fun j h4 h5 => ?_
  simp (contextual := true) (maxSteps := 1000000) (disch := omega) only [↓Sd, ↓So, ↓Sk, ↓den, ↓denA, Sa, Sb, Sc, Se, O1.d, O2.d, O3.d, cmI, arI, envOf, putN, ↓reduceIte, Nat.reduceLT, Nat.reduceSub, Nat.reduceAdd, Int.reduceAdd, Int.reduceEq, Int.reduceLT, Int.reduceLE, arr_pos, arr_neg, ]
  intro h6
  have hs := h2 (by omega)
  have hl := h5 (by omega)
  simp (contextual := true) (maxSteps := 1000000) (disch := omega) only [↓Sd, ↓So, ↓Sk, ↓den, ↓denA, Sa, Sb, Sc, Se, O1.d, O2.d, O3.d, cmI, arI, envOf, putN, ↓reduceIte, Nat.reduceLT, Nat.reduceSub, Nat.reduceAdd, Int.reduceAdd, Int.reduceEq, Int.reduceLT, Int.reduceLE, arr_pos, arr_neg, to_System s hs, to_TermS l hl]
  refine C_spec_AlwaysBy s l hs hl ?_
  simp (contextual := true) (maxSteps := 1000000) (disch := omega) only [↓Sd, ↓So, ↓Sk, ↓den, ↓denA, Sa, Sb, Sc, Se, O1.d, O2.d, O3.d, cmI, arI, envOf, putN, ↓reduceIte, Nat.reduceLT, Nat.reduceSub, Nat.reduceAdd, Int.reduceAdd, Int.reduceEq, Int.reduceLT, Int.reduceLE, arr_pos, arr_neg, to_System s hs, to_TermS l hl, C_impl_AlwaysBy s l hs hl, eq_System s hs, eq_TermS l hl]
end Go.Proofs.YtinfckfdphemiaaGreat
