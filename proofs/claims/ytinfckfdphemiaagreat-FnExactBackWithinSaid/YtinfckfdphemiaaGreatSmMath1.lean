/- What the trees come to: plain mathematics; no condition. -/
import Derived.Test.YtinfckfdphemiaaGreatSmMath0
/- What the trees come to. -/
namespace Go.Proofs.YtinfckfdphemiaaGreat
open Go Go.Sm Go.Sm.Q
set_option linter.unusedSimpArgs false
set_option linter.unusedVariables false
theorem C_impl_pasts (T : List (List Int)) (n : Nat) (ht : Tb8 T n) (Q : List AV → Prop) : mc.C f_impl_pasts [⟨L (L I), T⟩] Q = Q [⟨L (L I), pasts T n⟩] := by
  obtain ⟨ht, hn, h8⟩ := ht
  have hl := ht.1
  refine Mc.Ends.c (mc.ends F_impl_pasts ?_)
  simp (contextual := true) (maxSteps := 1000000) (disch := omega) only [↓Sd, ↓So, ↓Sk, ↓den, ↓denA, Sa, Sb, Sc, Se, O1.d, O2.d, O3.d, cmI, arI, envOf, putN, ↓reduceIte, Nat.reduceLT, Nat.reduceSub, Nat.reduceAdd, Int.reduceAdd, Int.reduceEq, Int.reduceLT, Int.reduceLE, arr_pos, arr_neg, tr_impl_pasts, hl]
  refine mc.lp_for (List (List Int)) (fun i o => [⟨L (L I), T⟩, ⟨I, (n : Int)⟩, ⟨I, (i : Int)⟩, ⟨L (L I), o⟩]) (fun i o => o = tab (fun k => pastL T k i) n) n 0 (List.replicate n []) _ rfl (Nat.zero_le _) ?_ ?_ ?_
  · rw [rep_tab]; rfl
  · rintro i o hi rfl
    have hrow := ht.row (i := i)
    have hrl : (T.getD i []).length ≤ 8 := h8 _ (getD_mem (by omega))
    simp (contextual := true) (maxSteps := 1000000) (disch := omega) only [↓Sd, ↓So, ↓Sk, ↓den, ↓denA, Sa, Sb, Sc, Se, O1.d, O2.d, O3.d, cmI, arI, envOf, putN, ↓reduceIte, Nat.reduceLT, Nat.reduceSub, Nat.reduceAdd, Int.reduceAdd, Int.reduceEq, Int.reduceLT, Int.reduceLE, arr_pos, arr_neg, hl]
    refine mc.lp_for (List (List Int)) (fun j o => [⟨I, (i : Int)⟩, ⟨L (L I), T⟩, ⟨I, (n : Int)⟩, ⟨I, (i : Int)⟩, ⟨L I, T.getD i []⟩, ⟨I, ((T.getD i []).length : Int)⟩, ⟨I, (j : Int)⟩, ⟨L (L I), o⟩]) (fun j o => o = tab (fun k => pastL T k i ++ List.replicate (((T.getD i []).take j).count (k : Int)) (i : Int)) n) (T.getD i []).length 0 _ _ rfl (Nat.zero_le _) ?_ ?_ ?_
    · exact tab_congr fun k _ => by simp
    · rintro j o hj rfl
      have hx := hrow _ (getD_mem (d := 0) hj)
      obtain ⟨x, hxe⟩ : ∃ x : Nat, (T.getD i []).getD j 0 = x := ⟨((T.getD i []).getD j 0).toNat, by omega⟩
      have hxn : x < n := by omega
      have hpl := pastL_len (k := x) h8 (m := i)
      have hc : ((T.getD i []).take j).count (x : Int) ≤ 8 := Nat.le_trans List.count_le_length (by rw [List.length_take]; omega)
      have hlen : (pastL T x i).length + (List.replicate (((T.getD i []).take j).count (x : Int)) (i : Int)).length ≤ 4000 := by
        rw [List.length_replicate]; omega
      simp (contextual := true) (maxSteps := 1000000) (disch := omega) only [↓Sd, ↓So, ↓Sk, ↓den, ↓denA, Sa, Sb, Sc, Se, O1.d, O2.d, O3.d, cmI, arI, envOf, putN, ↓reduceIte, Nat.reduceLT, Nat.reduceSub, Nat.reduceAdd, Int.reduceAdd, Int.reduceEq, Int.reduceLT, Int.reduceLE, arr_pos, arr_neg, hxe, tab_len, tab_get hxn, tab_set']
      refine tab_congr fun k hk => ?_
      rw [count_next hj, hxe]
      by_cases hkx : k = x
      · subst hkx; rw [if_pos rfl, if_pos rfl, List.replicate_succ', List.append_assoc]
      · rw [if_neg hkx, if_neg (by omega), Nat.add_zero]
    · rintro o rfl
      rw [List.take_length]
      simp (contextual := true) (maxSteps := 1000000) (disch := omega) only [↓Sd, ↓So, ↓Sk, ↓den, ↓denA, Sa, Sb, Sc, Se, O1.d, O2.d, O3.d, cmI, arI, envOf, putN, ↓reduceIte, Nat.reduceLT, Nat.reduceSub, Nat.reduceAdd, Int.reduceAdd, Int.reduceEq, Int.reduceLT, Int.reduceLE, arr_pos, arr_neg, ]
      rfl
  · rintro o rfl
    simp (contextual := true) (maxSteps := 1000000) (disch := omega) only [↓Sd, ↓So, ↓Sk, ↓den, ↓denA, Sa, Sb, Sc, Se, O1.d, O2.d, O3.d, cmI, arI, envOf, putN, ↓reduceIte, Nat.reduceLT, Nat.reduceSub, Nat.reduceAdd, Int.reduceAdd, Int.reduceEq, Int.reduceLT, Int.reduceLE, arr_pos, arr_neg, ]
    rfl
theorem pasts_len {T : List (List Int)} {n : Nat} : (pasts T n).length = n := tab_len
theorem pasts_get {T : List (List Int)} {n k : Nat} (h : k < n) : (pasts T n).getD k [] = pastL T k n := tab_get h
theorem pasts_tbl {T : List (List Int)} {n : Nat} (h : Tb8 T n) : Tbl (pasts T n) n := by
  refine ⟨tab_len, fun r hr => ?_⟩
  simp only [pasts, tab, List.mem_map, List.mem_range] at hr
  obtain ⟨k, hk, rfl⟩ := hr
  have h1 := pastL_len (k := k) h.2.2 (m := n)
  have h2 := h.2.1
  refine ⟨by omega, fun x hx => ?_⟩
  obtain ⟨a, h3, rfl, _⟩ := pastL_mem.1 hx
  omega
/-- What is told of the numbers of a set. -/
noncomputable def ovr (T : List (List Int)) (l : List Int) (k : Nat) : Bool := dB (∃ x ∈ l, (k : Int) ∈ T.getD x.toNat [])
theorem C_impl_over (T : List (List Int)) (l : List Int) (n : Nat) (hn : n ≤ 1000) (ht : Tbl T n) (hl : l.length ≤ 1048576) (h : ∀ x ∈ l, 0 ≤ x ∧ x < n) (Q : List AV → Prop) : mc.C f_impl_over [⟨L (L I), T⟩, ⟨L I, l⟩] Q = Q [⟨L I, upTo (ovr T l) n⟩] := by
  have hT := ht.1
  refine Mc.Ends.c (mc.ends F_impl_over ?_)
  simp (contextual := true) (maxSteps := 1000000) (disch := omega) only [↓Sd, ↓So, ↓Sk, ↓den, ↓denA, Sa, Sb, Sc, Se, O1.d, O2.d, O3.d, cmI, arI, envOf, putN, ↓reduceIte, Nat.reduceLT, Nat.reduceSub, Nat.reduceAdd, Int.reduceAdd, Int.reduceEq, Int.reduceLT, Int.reduceLE, arr_pos, arr_neg, tr_impl_over, hT]
  refine mc.lp_for (List Bool) (fun i o => [⟨L (L I), T⟩, ⟨L I, l⟩, ⟨I, (l.length : Int)⟩, ⟨I, (i : Int)⟩, ⟨L B, o⟩]) (fun i o => o = tab (ovr T (l.take i)) n) l.length 0 (List.replicate n false) _ rfl (Nat.zero_le _) ?_ ?_ ?_
  · rw [rep_tab]; exact tab_congr fun k _ => (dB_f (by simp)).symm
  · rintro i o hi rfl
    have hx := h _ (getD_mem (d := 0) hi)
    obtain ⟨x, hxe⟩ : ∃ x : Nat, l.getD i 0 = x := ⟨(l.getD i 0).toNat, by omega⟩
    have hxn : x < n := by omega
    have hrow := ht.row (i := x)
    have hrl : (T.getD x []).length ≤ 1048576 := (ht.2 _ (getD_mem (by omega))).1
    simp (contextual := true) (maxSteps := 1000000) (disch := omega) only [↓Sd, ↓So, ↓Sk, ↓den, ↓denA, Sa, Sb, Sc, Se, O1.d, O2.d, O3.d, cmI, arI, envOf, putN, ↓reduceIte, Nat.reduceLT, Nat.reduceSub, Nat.reduceAdd, Int.reduceAdd, Int.reduceEq, Int.reduceLT, Int.reduceLE, arr_pos, arr_neg, hT, hxe]
    refine mc.lp_for (List Bool) (fun j o => [⟨L (L I), T⟩, ⟨L I, l⟩, ⟨I, (l.length : Int)⟩, ⟨I, (i : Int)⟩, ⟨L I, T.getD x []⟩, ⟨I, ((T.getD x []).length : Int)⟩, ⟨I, (j : Int)⟩, ⟨L B, o⟩]) (fun j o => o = tab (fun k => dB (ovr T (l.take i) k = true ∨ (k : Int) ∈ (T.getD x []).take j)) n) (T.getD x []).length 0 _ _ rfl (Nat.zero_le _) ?_ ?_ ?_
    · exact tab_congr fun k _ => by simp [dB_eq]
    · rintro j o hj rfl
      have hy := hrow _ (getD_mem (d := 0) hj)
      simp (contextual := true) (maxSteps := 1000000) (disch := omega) only [↓Sd, ↓So, ↓Sk, ↓den, ↓denA, Sa, Sb, Sc, Se, O1.d, O2.d, O3.d, cmI, arI, envOf, putN, ↓reduceIte, Nat.reduceLT, Nat.reduceSub, Nat.reduceAdd, Int.reduceAdd, Int.reduceEq, Int.reduceLT, Int.reduceLE, arr_pos, arr_neg, tab_len, tab_set']
      refine tab_congr fun k hk => ?_
      by_cases hk2 : k = ((T.getD x []).getD j 0).toNat
      · rw [if_pos hk2, dB_t]; exact .inr ((mem_take_next hj).2 (.inr (by omega)))
      · rw [if_neg hk2]; refine dB_congr ?_
        rw [mem_take_next hj]
        exact ⟨fun h => h.elim .inl fun h => .inr (.inl h), fun h => h.elim .inl fun h => .inr (h.elim id fun h => absurd h (by omega))⟩
    · rintro o rfl
      rw [List.take_length]
      simp (contextual := true) (maxSteps := 1000000) (disch := omega) only [↓Sd, ↓So, ↓Sk, ↓den, ↓denA, Sa, Sb, Sc, Se, O1.d, O2.d, O3.d, cmI, arI, envOf, putN, ↓reduceIte, Nat.reduceLT, Nat.reduceSub, Nat.reduceAdd, Int.reduceAdd, Int.reduceEq, Int.reduceLT, Int.reduceLE, arr_pos, arr_neg, ]
      refine tab_congr fun k hk => dB_congr ⟨?_, ?_⟩
      · rintro (h | h)
        · obtain ⟨y, h1, h2⟩ := dB_iff.1 h
          exact ⟨y, (mem_take_next hi).2 (.inl h1), h2⟩
        · exact ⟨(x : Int), (mem_take_next hi).2 (.inr hxe.symm), by simpa using h⟩
      · rintro ⟨y, h1, h2⟩
        rcases (mem_take_next hi).1 h1 with h | h
        · exact .inl (dB_t ⟨y, h, h2⟩)
        · rw [h, hxe] at h2; exact .inr (by simpa using h2)
  · rintro o rfl
    rw [List.take_length]
    simp (contextual := true) (maxSteps := 1000000) (disch := omega) only [↓Sd, ↓So, ↓Sk, ↓den, ↓denA, Sa, Sb, Sc, Se, O1.d, O2.d, O3.d, cmI, arI, envOf, putN, ↓reduceIte, Nat.reduceLT, Nat.reduceSub, Nat.reduceAdd, Int.reduceAdd, Int.reduceEq, Int.reduceLT, Int.reduceLE, arr_pos, arr_neg, C_impl_listOf_tab (ovr T l) n (by omega)]
theorem ovr_upTo {T : List (List Int)} {p : Nat → Bool} {n k : Nat} : ovr T (upTo p n) k = dB (behind T p n k) := by
  refine dB_congr ⟨?_, ?_⟩
  · rintro ⟨x, h1, h2⟩
    obtain ⟨a, h3, rfl, h4⟩ := upTo_mem.1 h1
    exact ⟨a, h3, h4, by simpa using h2⟩
  · rintro ⟨a, h1, h2, h3⟩
    exact ⟨(a : Int), upTo_mem.2 ⟨a, h1, rfl, h2⟩, by simpa using h3⟩
/-- Which numbers are ahead of marked ones. -/
def ahead (T : List (List Int)) (p : Nat → Bool) (n : Nat) (k : Nat) : Prop := ∃ b, b < n ∧ p b = true ∧ (b : Int) ∈ T.getD k []
theorem behind_pasts {T : List (List Int)} {p : Nat → Bool} {n k : Nat} (hk : k < n) : behind (pasts T n) p n k ↔ ahead T p n k := by
  constructor
  · rintro ⟨a, h1, h2, h3⟩
    rw [pasts_get h1] at h3
    obtain ⟨b, h4, h5, h6⟩ := pastL_mem.1 h3
    have : b = k := by omega
    subst this
    exact ⟨a, h1, h2, h6⟩
  · rintro ⟨b, h1, h2, h3⟩
    exact ⟨b, h1, h2, by rw [pasts_get h1]; exact pastL_mem.2 ⟨k, hk, rfl, h3⟩⟩
theorem C_spec_l4Ahead (T : List (List Int)) (p : Nat → Bool) (n : Nat) (hn : n ≤ 1048576) (ht : Tbl T n) (Q : List AV → Prop) : mc.C f_spec_l4Ahead [⟨L (L I), T⟩, ⟨L B, tab p n⟩] Q = Q [⟨L B, tab (fun k => dB (ahead T p n k)) n⟩] := by
  have hT := ht.1
  refine Mc.Ends.c (mc.ends F_spec_l4Ahead ?_)
  simp (contextual := true) (maxSteps := 1000000) (disch := omega) only [↓Sd, ↓So, ↓Sk, ↓den, ↓denA, Sa, Sb, Sc, Se, O1.d, O2.d, O3.d, cmI, arI, envOf, putN, ↓reduceIte, Nat.reduceLT, Nat.reduceSub, Nat.reduceAdd, Int.reduceAdd, Int.reduceEq, Int.reduceLT, Int.reduceLE, arr_pos, arr_neg, tr_spec_l4Ahead, hT]
  refine mc.lp_for (List Bool) (fun i o => [⟨L (L I), T⟩, ⟨L B, tab p n⟩, ⟨I, (i : Int)⟩, ⟨L B, o⟩]) (fun i o => o = tab (fun k => decide (k < i) && dB (ahead T p n k)) n) n 0 (List.replicate n false) _ rfl (Nat.zero_le _) ?_ ?_ ?_
  · rw [rep_tab]; exact tab_congr fun k _ => by simp
  · rintro i o hi rfl
    have hrow := ht.row (i := i)
    have hrl : (T.getD i []).length ≤ 1048576 := (ht.2 _ (getD_mem (by omega))).1
    simp (contextual := true) (maxSteps := 1000000) (disch := omega) only [↓Sd, ↓So, ↓Sk, ↓den, ↓denA, Sa, Sb, Sc, Se, O1.d, O2.d, O3.d, cmI, arI, envOf, putN, ↓reduceIte, Nat.reduceLT, Nat.reduceSub, Nat.reduceAdd, Int.reduceAdd, Int.reduceEq, Int.reduceLT, Int.reduceLE, arr_pos, arr_neg, hT]
    refine mc.lp_for (List Bool) (fun j o => [⟨L (L I), T⟩, ⟨L B, tab p n⟩, ⟨I, (i : Int)⟩, ⟨I, (j : Int)⟩, ⟨L B, o⟩]) (fun j o => o = tab (fun k => (decide (k < i) && dB (ahead T p n k)) || decide (k = i) && dB (∃ b, b < n ∧ p b = true ∧ (b : Int) ∈ (T.getD i []).take j)) n) (T.getD i []).length 0 _ _ rfl (Nat.zero_le _) ?_ ?_ ?_
    · exact tab_congr fun k _ => by rw [dB_f (p := ∃ b, b < n ∧ p b = true ∧ (b : Int) ∈ (T.getD i []).take 0) (by simp)]; simp
    · rintro j o hj rfl
      have hy := hrow _ (getD_mem (d := 0) hj)
      obtain ⟨y, hye⟩ : ∃ y : Nat, (T.getD i []).getD j 0 = y := ⟨((T.getD i []).getD j 0).toNat, by omega⟩
      have hyn : y < n := by omega
      simp (contextual := true) (maxSteps := 1000000) (disch := omega) only [↓Sd, ↓So, ↓Sk, ↓den, ↓denA, Sa, Sb, Sc, Se, O1.d, O2.d, O3.d, cmI, arI, envOf, putN, ↓reduceIte, Nat.reduceLT, Nat.reduceSub, Nat.reduceAdd, Int.reduceAdd, Int.reduceEq, Int.reduceLT, Int.reduceLE, arr_pos, arr_neg, ↓wpJoin, hT, hye, tab_len, tab_get hyn, tab_set']
      refine ⟨fun g => tab_congr fun k hk => ?_, fun g => tab_congr fun k hk => ?_⟩
      · by_cases hki : k = i
        · subst hki
          rw [if_pos rfl, dB_t (p := ∃ b, b < n ∧ p b = true ∧ (b : Int) ∈ (T.getD k []).take (j + 1)) ⟨y, hyn, g, (mem_take_next hj).2 (.inr hye.symm)⟩]
          simp
        · simp [hki]
      · congr 2
        refine dB_congr ⟨fun ⟨b, h1, h2, h3⟩ => ⟨b, h1, h2, (mem_take_next hj).2 (.inl h3)⟩, fun ⟨b, h1, h2, h3⟩ => ⟨b, h1, h2, ?_⟩⟩
        rcases (mem_take_next hj).1 h3 with h | h
        · exact h
        · have : b = y := by omega
          subst this; exact absurd h2 g
    · rintro o rfl
      rw [List.take_length]
      simp (contextual := true) (maxSteps := 1000000) (disch := omega) only [↓Sd, ↓So, ↓Sk, ↓den, ↓denA, Sa, Sb, Sc, Se, O1.d, O2.d, O3.d, cmI, arI, envOf, putN, ↓reduceIte, Nat.reduceLT, Nat.reduceSub, Nat.reduceAdd, Int.reduceAdd, Int.reduceEq, Int.reduceLT, Int.reduceLE, arr_pos, arr_neg, hT]
      refine tab_congr fun k hk => ?_
      by_cases hki : k = i
      · subst hki; simp; rfl
      · by_cases hlt : k < i
        · simp [hki, hlt, show k < i + 1 by omega]
        · simp [hki, hlt, show ¬ k < i + 1 by omega]
  · rintro o rfl
    simp (contextual := true) (maxSteps := 1000000) (disch := omega) only [↓Sd, ↓So, ↓Sk, ↓den, ↓denA, Sa, Sb, Sc, Se, O1.d, O2.d, O3.d, cmI, arI, envOf, putN, ↓reduceIte, Nat.reduceLT, Nat.reduceSub, Nat.reduceAdd, Int.reduceAdd, Int.reduceEq, Int.reduceLT, Int.reduceLE, arr_pos, arr_neg, hT]
    exact tab_congr fun k hk => by simp [hk]
def turned (T : List (List Int)) (n : Nat) : List (List Int) := tab (fun k => upTo (fun m => (T.getD m []).contains (k : Int)) n) n
theorem turned_tbl {T : List (List Int)} {n : Nat} (hn : n ≤ 1048576) : Tbl (turned T n) n := by
  refine ⟨tab_len, fun r hr => ?_⟩
  simp only [turned, tab, List.mem_map, List.mem_range] at hr
  obtain ⟨k, hk, rfl⟩ := hr
  refine ⟨Nat.le_trans upTo_len hn, fun x hx => ?_⟩
  obtain ⟨a, h3, rfl, _⟩ := upTo_mem.1 hx
  omega
theorem turned_get {T : List (List Int)} {n k a : Nat} (h : k < n) : (a : Int) ∈ (turned T n).getD k [] ↔ a < n ∧ (k : Int) ∈ T.getD a [] := by
  rw [turned, tab_get h, upTo_mem]
  constructor
  · rintro ⟨b, h1, h2, h3⟩
    have : a = b := by omega
    subst this
    exact ⟨h1, by simpa using h3⟩
  · rintro ⟨h1, h2⟩
    exact ⟨a, h1, rfl, by simpa using h2⟩
theorem ahead_turned {T : List (List Int)} {p : Nat → Bool} {n k : Nat} (hk : k < n) : ahead (turned T n) p n k ↔ behind T p n k := by
  constructor
  · rintro ⟨b, h1, h2, h3⟩
    exact ⟨b, h1, h2, ((turned_get hk).1 h3).2⟩
  · rintro ⟨b, h1, h2, h3⟩
    exact ⟨b, h1, h2, (turned_get hk).2 ⟨h1, h3⟩⟩
theorem dB_contains {l : List Int} {x : Int} : dB (x ∈ l) = l.contains x := by
  by_cases h : x ∈ l
  · rw [dB_t h]; simp [h]
  · rw [dB_f h]; simp [h]
noncomputable def stepB (E : Nat → Nat → Prop) (n : Nat) (p : Nat → Bool) (k : Nat) : Bool := p k || dB (∃ a, a < n ∧ p a = true ∧ E a k)
noncomputable def wI (E : Nat → Nat → Prop) (n : Nat) (p : Nat → Bool) : Nat → Nat → Bool
  | 0 => p
  | i + 1 => stepB E n (wI E n p i)
theorem stepB_congr {E E' : Nat → Nat → Prop} {n : Nat} {p q : Nat → Bool} (hE : ∀ a k, a < n → k < n → (E a k ↔ E' a k)) (h : ∀ k, k < n → p k = q k) {k : Nat} (hk : k < n) : stepB E n p k = stepB E' n q k := by
  unfold stepB
  rw [h k hk]
  congr 1
  exact dB_congr ⟨fun ⟨a, h1, h2, h3⟩ => ⟨a, h1, by rw [← h a h1]; exact h2, (hE a k h1 hk).1 h3⟩, fun ⟨a, h1, h2, h3⟩ => ⟨a, h1, by rw [h a h1]; exact h2, (hE a k h1 hk).2 h3⟩⟩
theorem wI_congr {E E' : Nat → Nat → Prop} {n : Nat} {p q : Nat → Bool} (hE : ∀ a k, a < n → k < n → (E a k ↔ E' a k)) (h : ∀ k, k < n → p k = q k) : ∀ (i : Nat) {k : Nat}, k < n → wI E n p i k = wI E' n q i k
  | 0, k, hk => h k hk
  | i + 1, k, hk => stepB_congr hE (fun k hk => wI_congr hE h i hk) hk
theorem wI_stay {E : Nat → Nat → Prop} {n : Nat} {p : Nat → Bool} {i : Nat} (h : ∀ k, k < n → wI E n p (i + 1) k = wI E n p i k) : ∀ (j : Nat), i ≤ j → ∀ k, k < n → wI E n p j k = wI E n p i k := by
  intro j hj
  induction j with
  | zero => intro k hk; have : i = 0 := by omega
            subst this; rfl
  | succ j ih =>
    intro k hk
    rcases Nat.lt_or_eq_of_le hj with h1 | rfl
    · have h2 := ih (by omega)
      rw [← h k hk]
      exact stepB_congr (fun _ _ _ _ => Iff.rfl) h2 hk
    · rfl
/-- From a to k over a table. -/
def Ed (T : List (List Int)) (a k : Nat) : Prop := (k : Int) ∈ T.getD a []
def Eb (T : List (List Int)) (b k : Nat) : Prop := (b : Int) ∈ T.getD k []
theorem C_impl_within (T : List (List Int)) (l : List Int) (n kk : Nat) (hn : n ≤ 400) (hk : kk ≤ 400) (ht : Tbl T n) (hl : l.length ≤ 1048576) (h : ∀ x ∈ l, 0 ≤ x ∧ x < n) (Q : List AV → Prop) :
    mc.C f_impl_within [⟨L (L I), T⟩, ⟨L I, l⟩, ⟨I, (kk : Int)⟩] Q = Q [⟨L B, tab (wI (Ed T) n (fun k => dB ((k : Int) ∈ l)) kk) n⟩] := by
  have hT := ht.1
  refine Mc.Ends.c (mc.ends F_impl_within ?_)
  simp (contextual := true) (maxSteps := 1000000) (disch := omega) only [↓Sd, ↓So, ↓Sk, ↓den, ↓denA, Sa, Sb, Sc, Se, O1.d, O2.d, O3.d, cmI, arI, envOf, putN, ↓reduceIte, Nat.reduceLT, Nat.reduceSub, Nat.reduceAdd, Int.reduceAdd, Int.reduceEq, Int.reduceLT, Int.reduceLE, arr_pos, arr_neg, tr_impl_within, hT, C_impl_marks l n (by omega) hl h]
  refine mc.wp_join (fun us => us = [⟨L B, tab (wI (Ed T) n (fun k => dB ((k : Int) ∈ l)) kk) n⟩]) ?_ (by rintro _ rfl; simp (contextual := true) (maxSteps := 1000000) (disch := omega) only [↓Sd, ↓So, ↓Sk, ↓den, ↓denA, Sa, Sb, Sc, Se, O1.d, O2.d, O3.d, cmI, arI, envOf, putN, ↓reduceIte, Nat.reduceLT, Nat.reduceSub, Nat.reduceAdd, Int.reduceAdd, Int.reduceEq, Int.reduceLT, Int.reduceLE, arr_pos, arr_neg, ])
  generalize hP : (fun k : Nat => dB ((k : Int) ∈ l)) = P
  simp (contextual := true) (maxSteps := 1000000) (disch := omega) only [↓Sd, ↓So, ↓Sk, ↓den, ↓denA, Sa, Sb, Sc, Se, O1.d, O2.d, O3.d, cmI, arI, envOf, putN, ↓reduceIte, Nat.reduceLT, Nat.reduceSub, Nat.reduceAdd, Int.reduceAdd, Int.reduceEq, Int.reduceLT, Int.reduceLE, arr_pos, arr_neg, ]
  refine mc.lp_for (List Bool) (fun i o => [⟨L (L I), T⟩, ⟨I, (kk : Int)⟩, ⟨I, (i : Int)⟩, ⟨L B, o⟩]) (fun i o => o = tab (wI (Ed T) n P i) n) kk 0 _ _ rfl (Nat.zero_le _) rfl ?_ ?_
  · rintro i o hi rfl
    generalize hp : wI (Ed T) n P i = p
    have hlen := @upTo_len p n
    simp (contextual := true) (maxSteps := 1000000) (disch := omega) only [↓Sd, ↓So, ↓Sk, ↓den, ↓denA, Sa, Sb, Sc, Se, O1.d, O2.d, O3.d, cmI, arI, envOf, putN, ↓reduceIte, Nat.reduceLT, Nat.reduceSub, Nat.reduceAdd, Int.reduceAdd, Int.reduceEq, Int.reduceLT, Int.reduceLE, arr_pos, arr_neg, C_impl_listOf_tab p n (by omega), C_impl_over T (upTo p n) n (by omega) ht (by omega) (lset_mem (upTo_lset (Nat.le_refl n)))]
    have e : upTo (ovr T (upTo p n)) n = upTo (fun k => dB (behind T p n k)) n := upTo_congr fun k _ => ovr_upTo
    rw [e]
    generalize hm : upTo (fun k => dB (behind T p n k)) n = more
    have hmore : ∀ x ∈ more, 0 ≤ x ∧ x < (n : Int) := by rw [← hm]; exact lset_mem (upTo_lset (Nat.le_refl n))
    have hml : more.length ≤ n := by rw [← hm]; exact upTo_len
    refine mc.lp_for (Bool × List Bool) (fun j s => [⟨L (L I), T⟩, ⟨B, s.1⟩, ⟨I, (kk : Int)⟩, ⟨I, (i : Int)⟩, ⟨I, (more.length : Int)⟩, ⟨I, (j : Int)⟩, ⟨L B, s.2⟩, ⟨L I, more⟩]) (fun j s => s.1 = dB (∃ x ∈ more.take j, p x.toNat = false) ∧ s.2 = tab (fun k => p k || dB ((k : Int) ∈ more.take j)) n) more.length 0 (false, tab p n) _ rfl (Nat.zero_le _) ⟨(dB_f (by simp)).symm, tab_congr fun k _ => by rw [dB_f (by simp)]; simp⟩ ?_ ?_
    · rintro j ⟨gr, o⟩ hj ⟨h1, h2⟩
      simp only at h1 h2
      subst h2
      have hx := hmore _ (getD_mem (d := 0) hj)
      obtain ⟨x, hxe⟩ : ∃ x : Nat, more.getD j 0 = x := ⟨(more.getD j 0).toNat, by omega⟩
      have hxn : x < n := by omega
      have hset : tab (fun k => if k = x then true else (p k || dB ((k : Int) ∈ more.take j))) n = tab (fun k => p k || dB ((k : Int) ∈ more.take (j + 1))) n := by
        refine tab_congr fun k hk => ?_
        by_cases hkx : k = x
        · subst hkx; rw [if_pos rfl, dB_t ((mem_take_next hj).2 (.inr hxe.symm))]; simp
        · rw [if_neg hkx]; congr 1; refine dB_congr ?_
          rw [mem_take_next hj, hxe]
          exact ⟨.inl, fun h => h.elim id fun h => absurd h (by omega)⟩
      have hgr : ∀ b, (b = true ↔ gr = true ∨ (p x || dB ((x : Int) ∈ more.take j)) = false) → b = dB (∃ x ∈ more.take (j + 1), p x.toNat = false) := by
        intro b hb
        cases hbb : b with
        | true =>
          rw [eq_comm, dB_iff]
          rcases hb.1 hbb with h3 | h3
          · rw [h1, dB_iff] at h3
            obtain ⟨y, h4, h5⟩ := h3
            exact ⟨y, (mem_take_next hj).2 (.inl h4), h5⟩
          · simp only [Bool.or_eq_false_iff] at h3
            exact ⟨(x : Int), (mem_take_next hj).2 (.inr hxe.symm), by simpa using h3.1⟩
        | false =>
          rw [eq_comm]
          refine dB_f ?_
          rintro ⟨y, h4, h5⟩
          have hnb : ¬ b = true := by rw [hbb]; simp
          rcases (mem_take_next hj).1 h4 with h6 | h6
          · exact hnb (hb.2 (.inl (by rw [h1, dB_iff]; exact ⟨y, h6, h5⟩)))
          · rw [hxe] at h6
            subst h6
            by_cases h7 : (x : Int) ∈ more.take j
            · exact hnb (hb.2 (.inl (by rw [h1, dB_iff]; exact ⟨_, h7, h5⟩)))
            · exact hnb (hb.2 (.inr (by rw [dB_f h7]; simpa using h5)))
      cases gr with
      | true =>
        simp (contextual := true) (maxSteps := 1000000) (disch := omega) only [↓Sd, ↓So, ↓Sk, ↓den, ↓denA, Sa, Sb, Sc, Se, O1.d, O2.d, O3.d, cmI, arI, envOf, putN, ↓reduceIte, Nat.reduceLT, Nat.reduceSub, Nat.reduceAdd, Int.reduceAdd, Int.reduceEq, Int.reduceLT, Int.reduceLE, arr_pos, arr_neg, ↓wpJoin, hxe, tab_len, tab_set']
        exact ⟨(_, _), ⟨rfl, rfl⟩, hgr true (by simp), hset⟩
      | false =>
        simp (contextual := true) (maxSteps := 1000000) (disch := omega) only [↓Sd, ↓So, ↓Sk, ↓den, ↓denA, Sa, Sb, Sc, Se, O1.d, O2.d, O3.d, cmI, arI, envOf, putN, ↓reduceIte, Nat.reduceLT, Nat.reduceSub, Nat.reduceAdd, Int.reduceAdd, Int.reduceEq, Int.reduceLT, Int.reduceLE, arr_pos, arr_neg, ↓wpJoin, hxe, tab_len, tab_get hxn, tab_set']
        exact ⟨(_, _), ⟨rfl, rfl⟩, hgr _ (by cases (p x || dB ((x : Int) ∈ more.take j)) <;> simp), hset⟩
    · rintro ⟨gr, o⟩ ⟨h1, h2⟩
      rw [List.take_length] at h1 h2
      simp only at h1 h2
      subst h2
      have hnext : tab (fun k => p k || dB ((k : Int) ∈ more)) n = tab (wI (Ed T) n P (i + 1)) n := by
        refine tab_congr fun k hk => ?_
        simp only [wI, stepB, hp]
        congr 1
        rw [← hm, dB_upTo]
        simp [hk]; rfl
      simp (contextual := true) (maxSteps := 1000000) (disch := omega) only [↓Sd, ↓So, ↓Sk, ↓den, ↓denA, Sa, Sb, Sc, Se, O1.d, O2.d, O3.d, cmI, arI, envOf, putN, ↓reduceIte, Nat.reduceLT, Nat.reduceSub, Nat.reduceAdd, Int.reduceAdd, Int.reduceEq, Int.reduceLT, Int.reduceLE, arr_pos, arr_neg, ]
      refine ⟨fun g => ?_, fun g => hnext⟩
      rw [hnext]
      have hst : ∀ k, k < n → wI (Ed T) n P (i + 1) k = wI (Ed T) n P i k := by
        intro k hk
        have h3 := congrArg (fun l => l.getD k false) hnext
        simp only [tab_get hk] at h3
        rw [← h3, hp]
        cases hpk : p k with
        | true => rfl
        | false =>
          simp only [Bool.false_or]
          refine dB_f fun h4 => ?_
          rw [g] at h1
          have h5 := dB_t (p := ∃ x ∈ more, p x.toNat = false) ⟨(k : Int), h4, by simpa using hpk⟩
          rw [← h1] at h5; cases h5
      exact tab_congr fun k hk => by rw [hst k hk, wI_stay hst kk (by omega) k hk]
  · rintro o rfl
    simp (contextual := true) (maxSteps := 1000000) (disch := omega) only [↓Sd, ↓So, ↓Sk, ↓den, ↓denA, Sa, Sb, Sc, Se, O1.d, O2.d, O3.d, cmI, arI, envOf, putN, ↓reduceIte, Nat.reduceLT, Nat.reduceSub, Nat.reduceAdd, Int.reduceAdd, Int.reduceEq, Int.reduceLT, Int.reduceLE, arr_pos, arr_neg, ]
theorem C_spec_l19Back (T : List (List Int)) (l : List Int) (n kk : Nat) (hn : n ≤ 400) (hk : kk ≤ 400) (ht : Tbl T n) (hl : l.length ≤ 1048576) (h : ∀ x ∈ l, 0 ≤ x ∧ x < n) (Q : List AV → Prop) :
    mc.C f_spec_l19Back [⟨L (L I), T⟩, ⟨L I, l⟩, ⟨I, (kk : Int)⟩] Q = Q [⟨L I, upTo (wI (Eb T) n (fun k => dB ((k : Int) ∈ l)) kk) n⟩] := by
  have hT := ht.1
  refine Mc.Ends.c (mc.ends F_spec_l19Back ?_)
  simp (contextual := true) (maxSteps := 1000000) (disch := omega) only [↓Sd, ↓So, ↓Sk, ↓den, ↓denA, Sa, Sb, Sc, Se, O1.d, O2.d, O3.d, cmI, arI, envOf, putN, ↓reduceIte, Nat.reduceLT, Nat.reduceSub, Nat.reduceAdd, Int.reduceAdd, Int.reduceEq, Int.reduceLT, Int.reduceLE, arr_pos, arr_neg, tr_spec_l19Back, hT, C_spec_l4Marks l n (by omega) hl h]
  generalize hP : (fun k : Nat => dB ((k : Int) ∈ l)) = P
  refine mc.lp_for (List Bool) (fun i o => [⟨L (L I), T⟩, ⟨I, (kk : Int)⟩, ⟨I, (i : Int)⟩, ⟨L B, o⟩]) (fun i o => o = tab (wI (Eb T) n P i) n) kk 0 _ _ rfl (Nat.zero_le _) rfl ?_ ?_
  · rintro i o hi rfl
    generalize hp : wI (Eb T) n P i = p
    simp (contextual := true) (maxSteps := 1000000) (disch := omega) only [↓Sd, ↓So, ↓Sk, ↓den, ↓denA, Sa, Sb, Sc, Se, O1.d, O2.d, O3.d, cmI, arI, envOf, putN, ↓reduceIte, Nat.reduceLT, Nat.reduceSub, Nat.reduceAdd, Int.reduceAdd, Int.reduceEq, Int.reduceLT, Int.reduceLE, arr_pos, arr_neg, C_spec_l4Ahead T p n (by omega) ht]
    refine mc.lp_for (List Bool) (fun j o => [⟨L (L I), T⟩, ⟨I, (kk : Int)⟩, ⟨I, (i : Int)⟩, ⟨I, (j : Int)⟩, ⟨L B, o⟩, ⟨L B, tab (fun k => dB (ahead T p n k)) n⟩]) (fun j o => o = tab (fun k => if k < j then (p k || dB (ahead T p n k)) else p k) n) n 0 _ _ rfl (Nat.zero_le _) ?_ ?_ ?_
    · exact tab_congr fun k _ => by simp
    · rintro j o hj rfl
      simp (contextual := true) (maxSteps := 1000000) (disch := omega) only [↓Sd, ↓So, ↓Sk, ↓den, ↓denA, Sa, Sb, Sc, Se, O1.d, O2.d, O3.d, cmI, arI, envOf, putN, ↓reduceIte, Nat.reduceLT, Nat.reduceSub, Nat.reduceAdd, Int.reduceAdd, Int.reduceEq, Int.reduceLT, Int.reduceLE, arr_pos, arr_neg, ↓wpJoin, tab_len, tab_get hj, tab_set', Nat.lt_irrefl]
      refine ⟨fun g => tab_congr fun k hk => ?_, fun g => tab_congr fun k hk => ?_⟩
      · by_cases hkj : k = j
        · subst hkj; rw [if_pos rfl, if_pos (by omega), g]; rfl
        · rw [if_neg hkj]
          by_cases h1 : k < j
          · rw [if_pos h1, if_pos (by omega)]
          · rw [if_neg h1, if_neg (by omega)]
      · by_cases hkj : k = j
        · subst hkj; rw [if_pos rfl, if_pos (by omega)]; simp only [Bool.not_eq_true] at g; rw [g]; rfl
        · rw [if_neg hkj]
          by_cases h1 : k < j
          · rw [if_pos h1, if_pos (by omega)]
          · rw [if_neg h1, if_neg (by omega)]
    · rintro o rfl
      simp (contextual := true) (maxSteps := 1000000) (disch := omega) only [↓Sd, ↓So, ↓Sk, ↓den, ↓denA, Sa, Sb, Sc, Se, O1.d, O2.d, O3.d, cmI, arI, envOf, putN, ↓reduceIte, Nat.reduceLT, Nat.reduceSub, Nat.reduceAdd, Int.reduceAdd, Int.reduceEq, Int.reduceLT, Int.reduceLE, arr_pos, arr_neg, tab_len]
      refine tab_congr fun k hk => ?_
      rw [if_pos hk]
      simp only [wI, stepB, hp]
      rfl
  · rintro o rfl
    simp (contextual := true) (maxSteps := 1000000) (disch := omega) only [↓Sd, ↓So, ↓Sk, ↓den, ↓denA, Sa, Sb, Sc, Se, O1.d, O2.d, O3.d, cmI, arI, envOf, putN, ↓reduceIte, Nat.reduceLT, Nat.reduceSub, Nat.reduceAdd, Int.reduceAdd, Int.reduceEq, Int.reduceLT, Int.reduceLE, arr_pos, arr_neg, C_spec_l4List_tab _ n (by omega : n ≤ 1048576)]
noncomputable def backN (s : Sy) (l : List Int) (kk : Nat) : List Int := upTo (wI (Eb (steps s)) (szn s.1) (fun k => dB ((k : Int) ∈ l)) kk) (szn s.1)
noncomputable def onN (s : Sy) (l : List Int) (kk : Nat) : List Int := upTo (wI (Ed (steps s)) (szn s.1) (fun k => dB ((k : Int) ∈ l)) kk) (szn s.1)
noncomputable def backK (s : Sy) (l : List Int) (k : Int) : List Int := if setV s l ∧ 0 ≤ k ∧ k ≤ 400 then backN s l k.toNat else []
noncomputable def onK (s : Sy) (l : List Int) (k : Int) : List Int := if setV s l ∧ 0 ≤ k ∧ k ≤ 400 then onN s l k.toNat else []
theorem Ed_pasts {T : List (List Int)} {n a k : Nat} (ha : a < n) (hk : k < n) : Ed (pasts T n) a k ↔ Eb T a k := by
  unfold Ed Eb
  rw [pasts_get ha, pastL_mem]
  constructor
  · rintro ⟨b, h1, h2, h3⟩
    have : b = k := by omega
    subst this; exact h3
  · exact fun h => ⟨k, hk, rfl, h⟩
theorem Eb_turned {T : List (List Int)} {n b k : Nat} (hb : b < n) (hk : k < n) : Eb (turned T n) b k ↔ Ed T b k := by
  unfold Ed Eb
  rw [turned_get hk]
  exact ⟨fun h => h.2, fun h => ⟨hb, h⟩⟩
theorem C_impl_withinOf (s : Sy) (l : List Int) (k : Int) (bk : Bool) (hs : FewSy s) (hl : l.length ≤ 1048576) (Q : List AV → Prop) : mc.C f_impl_withinOf [⟨L V3, s.1⟩, ⟨L TR, s.2⟩, ⟨L I, l⟩, ⟨I, k⟩, ⟨B, bk⟩] Q = Q [⟨L I, if bk = true then backK s l k else onK s l k⟩] := by
  refine Mc.Ends.c (mc.ends F_impl_withinOf ?_)
  generalize hK : (if bk = true then backK s l k else onK s l k) = K
  have hno : ¬ (setV s l ∧ 0 ≤ k ∧ k ≤ 400) → [] = K := fun g => by rw [← hK, backK, onK, if_neg g, if_neg g]; simp
  simp (contextual := true) (maxSteps := 1000000) (disch := omega) only [↓Sd, ↓So, ↓Sk, ↓den, ↓denA, Sa, Sb, Sc, Se, O1.d, O2.d, O3.d, cmI, arI, envOf, putN, ↓reduceIte, Nat.reduceLT, Nat.reduceSub, Nat.reduceAdd, Int.reduceAdd, Int.reduceEq, Int.reduceLT, Int.reduceLE, arr_pos, arr_neg, tr_impl_withinOf, C_impl_SetValid s l hs hl, C_impl_in]
  refine ⟨fun h => hno fun g => h g.1, fun h => ⟨fun h2 => hno fun g => h2 g.2, fun h2 => ?_⟩⟩
  have hh : setV s l ∧ 0 ≤ k ∧ k ≤ 400 := ⟨h, h2⟩
  simp only [backK, onK, if_pos hh] at hK
  subst hK
  have hz := szn_eq h.1
  have h8 := steps_tb8 h.1
  obtain ⟨kk, rfl⟩ : ∃ kk : Nat, k = kk := ⟨k.toNat, by omega⟩
  cases bk with
  | true =>
    simp (contextual := true) (maxSteps := 1000000) (disch := omega) only [↓Sd, ↓So, ↓Sk, ↓den, ↓denA, Sa, Sb, Sc, Se, O1.d, O2.d, O3.d, cmI, arI, envOf, putN, ↓reduceIte, Nat.reduceLT, Nat.reduceSub, Nat.reduceAdd, Int.reduceAdd, Int.reduceEq, Int.reduceLT, Int.reduceLE, arr_pos, arr_neg, ↓wpJoin, C_impl_nexts s h.1, C_impl_pasts (steps s) (szn s.1) h8, C_impl_within (pasts (steps s) (szn s.1)) l (szn s.1) kk (by omega) (by omega) (pasts_tbl h8) hl h.mem, C_impl_listOf_tab _ (szn s.1) (by omega : szn s.1 ≤ 1048576)]
    exact upTo_congr fun k hk => wI_congr (fun a k ha hk => Ed_pasts ha hk) (fun _ _ => rfl) kk hk
  | false =>
    simp (contextual := true) (maxSteps := 1000000) (disch := omega) only [↓Sd, ↓So, ↓Sk, ↓den, ↓denA, Sa, Sb, Sc, Se, O1.d, O2.d, O3.d, cmI, arI, envOf, putN, ↓reduceIte, Nat.reduceLT, Nat.reduceSub, Nat.reduceAdd, Int.reduceAdd, Int.reduceEq, Int.reduceLT, Int.reduceLE, arr_pos, arr_neg, ↓wpJoin, C_impl_nexts s h.1, C_impl_within (steps s) l (szn s.1) kk (by omega) (by omega) h8.1 hl h.mem, C_impl_listOf_tab _ (szn s.1) (by omega : szn s.1 ≤ 1048576)]
    rfl
theorem C_impl_BackWithin (s : Sy) (l : List Int) (k : Int) (hs : FewSy s) (hl : l.length ≤ 1048576) (Q : List AV → Prop) : mc.C f_impl_BackWithin [⟨L V3, s.1⟩, ⟨L TR, s.2⟩, ⟨L I, l⟩, ⟨I, k⟩] Q = Q [⟨L I, backK s l k⟩] :=
  Mc.Ends.c (mc.ends F_impl_BackWithin (by simp (contextual := true) (maxSteps := 1000000) (disch := omega) only [↓Sd, ↓So, ↓Sk, ↓den, ↓denA, Sa, Sb, Sc, Se, O1.d, O2.d, O3.d, cmI, arI, envOf, putN, ↓reduceIte, Nat.reduceLT, Nat.reduceSub, Nat.reduceAdd, Int.reduceAdd, Int.reduceEq, Int.reduceLT, Int.reduceLE, arr_pos, arr_neg, tr_impl_BackWithin, C_impl_withinOf s l k _ hs hl]))
theorem C_spec_l19Steps (k : Int) (Q : List AV → Prop) : mc.C f_spec_l19Steps [⟨I, k⟩] Q = Q [⟨B, decide (0 ≤ k ∧ k ≤ 400)⟩] :=
  Mc.Ends.c (mc.ends F_spec_l19Steps (by simp (contextual := true) (maxSteps := 1000000) (disch := omega) only [↓Sd, ↓So, ↓Sk, ↓den, ↓denA, Sa, Sb, Sc, Se, O1.d, O2.d, O3.d, cmI, arI, envOf, putN, ↓reduceIte, Nat.reduceLT, Nat.reduceSub, Nat.reduceAdd, Int.reduceAdd, Int.reduceEq, Int.reduceLT, Int.reduceLE, arr_pos, arr_neg, tr_spec_l19Steps, C_spec_l1In]))
theorem C_spec_BackWithin (s : Sy) (l : List Int) (k : Int) (hs : FewSy s) (hl : l.length ≤ 1048576) (Q : List AV → Prop) : mc.C f_spec_BackWithin [⟨L V3, s.1⟩, ⟨L TR, s.2⟩, ⟨L I, l⟩, ⟨I, k⟩] Q = Q [⟨L I, backK s l k⟩] := by
  refine Mc.Ends.c (mc.ends F_spec_BackWithin ?_)
  unfold backK
  simp (contextual := true) (maxSteps := 1000000) (disch := omega) only [↓Sd, ↓So, ↓Sk, ↓den, ↓denA, Sa, Sb, Sc, Se, O1.d, O2.d, O3.d, cmI, arI, envOf, putN, ↓reduceIte, Nat.reduceLT, Nat.reduceSub, Nat.reduceAdd, Int.reduceAdd, Int.reduceEq, Int.reduceLT, Int.reduceLE, arr_pos, arr_neg, tr_spec_BackWithin, C_spec_SetValid s l hs hl, C_spec_l19Steps]
  intro h h2
  have hz := szn_eq h.1
  obtain ⟨kk, rfl⟩ : ∃ kk : Nat, k = kk := ⟨k.toNat, by omega⟩
  simp (contextual := true) (maxSteps := 1000000) (disch := omega) only [↓Sd, ↓So, ↓Sk, ↓den, ↓denA, Sa, Sb, Sc, Se, O1.d, O2.d, O3.d, cmI, arI, envOf, putN, ↓reduceIte, Nat.reduceLT, Nat.reduceSub, Nat.reduceAdd, Int.reduceAdd, Int.reduceEq, Int.reduceLT, Int.reduceLE, arr_pos, arr_neg, C_spec_l4Steps s hs h.1, C_spec_l19Back (steps s) l (szn s.1) kk (by omega) (by omega) (steps_tbl h.1) hl h.mem]
  rfl
theorem getD_set_ne {α : Type} {l : List α} {i j : Nat} {x d : α} (h : i ≠ j) : (l.set i x).getD j d = l.getD j d := by
  simp [List.getD_eq_getElem?_getD, List.getElem?_set, h]
/-- From place i on as before. -/
def Same {α : Type} (l s : List α) (d : α) (i : Nat) : Prop := s.length = l.length ∧ ∀ j, i ≤ j → s.getD j d = l.getD j d
theorem Same.refl {α : Type} {l : List α} {d : α} {i : Nat} : Same l l d i := ⟨rfl, fun _ _ => rfl⟩
theorem Same.set {α : Type} {l s : List α} {d x : α} {i : Nat} (h : Same l s d i) : Same l (s.set i x) d (i + 1) :=
  ⟨by rw [List.length_set]; exact h.1, fun j hj => by rw [getD_set_ne (by omega)]; exact h.2 j (by omega)⟩
theorem iD {k : IntKind} {a b : Int} (h : a = b) : @Eq (Ty.int k).D a b := h
theorem mk_IntS (l : List Int) (k : Int) (hk : 0 ≤ k ∧ k ≤ 9200000000000000000) (hl : l.length ≤ 1048576) (Q : List AV → Prop) : mc.C f_laws_markIntS [⟨L I, l⟩, ⟨I, k⟩] Q = Q [⟨I, k + l.length⟩, ⟨L I, tab (fun i => k + (i : Int)) l.length⟩] := by
  refine Mc.Ends.c (mc.ends F_laws_markIntS ?_)
  simp (contextual := true) (maxSteps := 1000000) (disch := omega) only [↓Sd, ↓So, ↓Sk, ↓den, ↓denA, Sa, Sb, Sc, Se, O1.d, O2.d, O3.d, cmI, arI, envOf, putN, ↓reduceIte, Nat.reduceLT, Nat.reduceSub, Nat.reduceAdd, Int.reduceAdd, Int.reduceEq, Int.reduceLT, Int.reduceLE, arr_pos, arr_neg, tr_laws_markIntS]
  refine mc.lp_for (List Int) (fun i s => [⟨I, k + (i : Int)⟩, ⟨I, (i : Int)⟩, ⟨L I, s⟩]) (fun i s => s = tab (fun i => k + (i : Int)) i ++ l.drop i) l.length 0 l _ (by simp) (Nat.zero_le _) (by simp [tab]) ?_ ?_
  · rintro i s hi rfl
    have hlen : (tab (fun i => k + (i : Int)) i).length + (l.drop i).length = l.length := by rw [tab_len, List.length_drop]; omega
    have e : (tab (fun i => k + (i : Int)) i ++ l.drop i).set i (k + i) = tab (fun i => k + (i : Int)) (i + 1) ++ l.drop (i + 1) := by
      rw [List.set_append_right _ _ (by rw [tab_len]; exact Nat.le_refl _), tab_len, Nat.sub_self, drop_cons (d := 0) hi, List.set_cons_zero, ← tab_next, List.append_assoc]; rfl
    simp (contextual := true) (maxSteps := 1000000) (disch := omega) only [↓Sd, ↓So, ↓Sk, ↓den, ↓denA, Sa, Sb, Sc, Se, O1.d, O2.d, O3.d, cmI, arI, envOf, putN, ↓reduceIte, Nat.reduceLT, Nat.reduceSub, Nat.reduceAdd, Int.reduceAdd, Int.reduceEq, Int.reduceLT, Int.reduceLE, arr_pos, arr_neg, e]
    exact ⟨_, ⟨iD (by omega), rfl⟩, rfl⟩
  · rintro s rfl
    rw [List.drop_length, List.append_nil]
    simp (contextual := true) (maxSteps := 1000000) (disch := omega) only [↓Sd, ↓So, ↓Sk, ↓den, ↓denA, Sa, Sb, Sc, Se, O1.d, O2.d, O3.d, cmI, arI, envOf, putN, ↓reduceIte, Nat.reduceLT, Nat.reduceSub, Nat.reduceAdd, Int.reduceAdd, Int.reduceEq, Int.reduceLT, Int.reduceLE, arr_pos, arr_neg, tab_len]
theorem held_IntS (n : Nat) (k : Int) (hk : 0 ≤ k ∧ k ≤ 9200000000000000000) (hn : n ≤ 1048576) (Q : List AV → Prop) : mc.C f_laws_heldIntS [⟨L I, tab (fun i => k + (i : Int)) n⟩, ⟨I, k⟩] Q = Q [⟨I, k + n⟩] := by
  refine Mc.Ends.c (mc.ends F_laws_heldIntS ?_)
  simp (contextual := true) (maxSteps := 1000000) (disch := omega) only [↓Sd, ↓So, ↓Sk, ↓den, ↓denA, Sa, Sb, Sc, Se, O1.d, O2.d, O3.d, cmI, arI, envOf, putN, ↓reduceIte, Nat.reduceLT, Nat.reduceSub, Nat.reduceAdd, Int.reduceAdd, Int.reduceEq, Int.reduceLT, Int.reduceLE, arr_pos, arr_neg, tr_laws_heldIntS]
  refine mc.lp_for Unit (fun i s => [⟨L I, tab (fun i => k + (i : Int)) n⟩, ⟨I, k + (i : Int)⟩, ⟨I, (i : Int)⟩]) (fun i s => True) n 0 () _ (by simp) (Nat.zero_le _) trivial ?_ ?_
  · rintro i - hi -
    simp (contextual := true) (maxSteps := 1000000) (disch := omega) only [↓Sd, ↓So, ↓Sk, ↓den, ↓denA, Sa, Sb, Sc, Se, O1.d, O2.d, O3.d, cmI, arI, envOf, putN, ↓reduceIte, Nat.reduceLT, Nat.reduceSub, Nat.reduceAdd, Int.reduceAdd, Int.reduceEq, Int.reduceLT, Int.reduceLE, arr_pos, arr_neg, tab_len, tab_get hi]
    exact iD (by omega)
  · rintro - -
    simp (contextual := true) (maxSteps := 1000000) (disch := omega) only [↓Sd, ↓So, ↓Sk, ↓den, ↓denA, Sa, Sb, Sc, Se, O1.d, O2.d, O3.d, cmI, arI, envOf, putN, ↓reduceIte, Nat.reduceLT, Nat.reduceSub, Nat.reduceAdd, Int.reduceAdd, Int.reduceEq, Int.reduceLT, Int.reduceLE, arr_pos, arr_neg, tab_len]
theorem mk_VarS (l : List Vr) (k : Int) (hk : 0 ≤ k ∧ k ≤ 9200000000000000000) (hl : Few l) {Q : List AV → Prop} (h : ∀ l', Q [⟨I, k + 3 * l.length⟩, ⟨L V3, l'⟩]) : mc.C f_laws_markVarS [⟨L V3, l⟩, ⟨I, k⟩] Q := by
  have hl := few_lim hl
  refine mc.c_of F_laws_markVarS ?_
  simp (contextual := true) (maxSteps := 1000000) (disch := omega) only [↓Sd, ↓So, ↓Sk, ↓den, ↓denA, Sa, Sb, Sc, Se, O1.d, O2.d, O3.d, cmI, arI, envOf, putN, ↓reduceIte, Nat.reduceLT, Nat.reduceSub, Nat.reduceAdd, Int.reduceAdd, Int.reduceEq, Int.reduceLT, Int.reduceLE, arr_pos, arr_neg, tr_laws_markVarS]
  refine mc.lp_for (List Vr) (fun i s => [⟨I, k + 3 * (i : Int)⟩, ⟨I, (i : Int)⟩, ⟨L V3, s⟩]) (fun i s => s.length = l.length) l.length 0 l _ (by simp) (Nat.zero_le _) rfl ?_ ?_
  · rintro i s hi hs
    simp (contextual := true) (maxSteps := 1000000) (disch := omega) only [↓Sd, ↓So, ↓Sk, ↓den, ↓denA, Sa, Sb, Sc, Se, O1.d, O2.d, O3.d, cmI, arI, envOf, putN, ↓reduceIte, Nat.reduceLT, Nat.reduceSub, Nat.reduceAdd, Int.reduceAdd, Int.reduceEq, Int.reduceLT, Int.reduceLE, arr_pos, arr_neg, List.length_set, getD_set_eq, List.set_set]
    exact ⟨_, ⟨iD (by omega), rfl⟩, by simp [hs]⟩
  · rintro s hs
    simp (contextual := true) (maxSteps := 1000000) (disch := omega) only [↓Sd, ↓So, ↓Sk, ↓den, ↓denA, Sa, Sb, Sc, Se, O1.d, O2.d, O3.d, cmI, arI, envOf, putN, ↓reduceIte, Nat.reduceLT, Nat.reduceSub, Nat.reduceAdd, Int.reduceAdd, Int.reduceEq, Int.reduceLT, Int.reduceLE, arr_pos, arr_neg, ]
    exact h s
theorem mk_TermS (l : List Tm) (k : Int) (hk : 0 ≤ k ∧ k ≤ 9200000000000000000) (hl : Few l) {Q : List AV → Prop} (h : ∀ l', Q [⟨I, k + 4 * l.length⟩, ⟨L T4, l'⟩]) : mc.C f_laws_markTermS [⟨L T4, l⟩, ⟨I, k⟩] Q := by
  have hl := few_lim hl
  refine mc.c_of F_laws_markTermS ?_
  simp (contextual := true) (maxSteps := 1000000) (disch := omega) only [↓Sd, ↓So, ↓Sk, ↓den, ↓denA, Sa, Sb, Sc, Se, O1.d, O2.d, O3.d, cmI, arI, envOf, putN, ↓reduceIte, Nat.reduceLT, Nat.reduceSub, Nat.reduceAdd, Int.reduceAdd, Int.reduceEq, Int.reduceLT, Int.reduceLE, arr_pos, arr_neg, tr_laws_markTermS]
  refine mc.lp_for (List Tm) (fun i s => [⟨I, k + 4 * (i : Int)⟩, ⟨I, (i : Int)⟩, ⟨L T4, s⟩]) (fun i s => s.length = l.length) l.length 0 l _ (by simp) (Nat.zero_le _) rfl ?_ ?_
  · rintro i s hi hs
    simp (contextual := true) (maxSteps := 1000000) (disch := omega) only [↓Sd, ↓So, ↓Sk, ↓den, ↓denA, Sa, Sb, Sc, Se, O1.d, O2.d, O3.d, cmI, arI, envOf, putN, ↓reduceIte, Nat.reduceLT, Nat.reduceSub, Nat.reduceAdd, Int.reduceAdd, Int.reduceEq, Int.reduceLT, Int.reduceLE, arr_pos, arr_neg, List.length_set, getD_set_eq, List.set_set]
    exact ⟨_, ⟨iD (by omega), rfl⟩, by simp [hs]⟩
  · rintro s hs
    simp (contextual := true) (maxSteps := 1000000) (disch := omega) only [↓Sd, ↓So, ↓Sk, ↓den, ↓denA, Sa, Sb, Sc, Se, O1.d, O2.d, O3.d, cmI, arI, envOf, putN, ↓reduceIte, Nat.reduceLT, Nat.reduceSub, Nat.reduceAdd, Int.reduceAdd, Int.reduceEq, Int.reduceLT, Int.reduceLE, arr_pos, arr_neg, ]
    exact h s
theorem mk_TermSS (l : List (List Tm)) (k : Int) (hk : 0 ≤ k ∧ k ≤ 9100000000000000000) (hl : Few l) (hl2 : ∀ x ∈ l, Few x) {Q : List AV → Prop} (h : ∀ k' l', k ≤ k' ∧ k' ≤ k + 4398046511104 → Q [⟨I, k'⟩, ⟨L (L T4), l'⟩]) : mc.C f_laws_markTermSS [⟨L (L T4), l⟩, ⟨I, k⟩] Q := by
  have hl := few_lim hl
  refine mc.c_of F_laws_markTermSS ?_
  simp (contextual := true) (maxSteps := 1000000) (disch := omega) only [↓Sd, ↓So, ↓Sk, ↓den, ↓denA, Sa, Sb, Sc, Se, O1.d, O2.d, O3.d, cmI, arI, envOf, putN, ↓reduceIte, Nat.reduceLT, Nat.reduceSub, Nat.reduceAdd, Int.reduceAdd, Int.reduceEq, Int.reduceLT, Int.reduceLE, arr_pos, arr_neg, tr_laws_markTermSS]
  refine mc.lp_for (Int × List (List Tm)) (fun i s => [⟨I, s.1⟩, ⟨I, (i : Int)⟩, ⟨L (L T4), s.2⟩]) (fun i s => (k ≤ s.1 ∧ s.1 ≤ k + 4194304 * (i : Int)) ∧ Same l s.2 [] i) l.length 0 (k, l) _ (by simp) (Nat.zero_le _) ⟨⟨by simp, by simp⟩, Same.refl⟩ ?_ ?_
  · rintro i ⟨m, s⟩ hi ⟨⟨hm1, hm2⟩, hs⟩
    simp only at hm1 hm2 hs
    have hsl := hs.1
    have hsi := hs.2 i (Nat.le_refl _)
    have hf := hl2 _ (getD_mem (d := []) hi)
    have hf' := few_lim hf
    simp (contextual := true) (maxSteps := 1000000) (disch := omega) only [↓Sd, ↓So, ↓Sk, ↓den, ↓denA, Sa, Sb, Sc, Se, O1.d, O2.d, O3.d, cmI, arI, envOf, putN, ↓reduceIte, Nat.reduceLT, Nat.reduceSub, Nat.reduceAdd, Int.reduceAdd, Int.reduceEq, Int.reduceLT, Int.reduceLE, arr_pos, arr_neg, hsi]
    refine mk_TermS _ m (by omega) hf fun l' => ?_
    simp (contextual := true) (maxSteps := 1000000) (disch := omega) only [↓Sd, ↓So, ↓Sk, ↓den, ↓denA, Sa, Sb, Sc, Se, O1.d, O2.d, O3.d, cmI, arI, envOf, putN, ↓reduceIte, Nat.reduceLT, Nat.reduceSub, Nat.reduceAdd, Int.reduceAdd, Int.reduceEq, Int.reduceLT, Int.reduceLE, arr_pos, arr_neg, ]
    exact ⟨(_, _), ⟨rfl, rfl⟩, ⟨by omega, by omega⟩, hs.set⟩
  · rintro ⟨m, s⟩ ⟨⟨hm1, hm2⟩, hs⟩
    simp only at hm1 hm2 hs
    have hsl := hs.1
    simp (contextual := true) (maxSteps := 1000000) (disch := omega) only [↓Sd, ↓So, ↓Sk, ↓den, ↓denA, Sa, Sb, Sc, Se, O1.d, O2.d, O3.d, cmI, arI, envOf, putN, ↓reduceIte, Nat.reduceLT, Nat.reduceSub, Nat.reduceAdd, Int.reduceAdd, Int.reduceEq, Int.reduceLT, Int.reduceLE, arr_pos, arr_neg, ]
    exact h m s ⟨by omega, by omega⟩
theorem mk_RuleS (l : List Ru) (k : Int) (hk : 0 ≤ k ∧ k ≤ 4400000000000000000) (hl : Few l) (hl2 : ∀ x ∈ l, FewRu x) {Q : List AV → Prop} (h : ∀ k' l', k ≤ k' ∧ k' ≤ k + 4611691515985526784 → Q [⟨I, k'⟩, ⟨L TR, l'⟩]) : mc.C f_laws_markRuleS [⟨L TR, l⟩, ⟨I, k⟩] Q := by
  have hl := few_lim hl
  refine mc.c_of F_laws_markRuleS ?_
  simp (contextual := true) (maxSteps := 1000000) (disch := omega) only [↓Sd, ↓So, ↓Sk, ↓den, ↓denA, Sa, Sb, Sc, Se, O1.d, O2.d, O3.d, cmI, arI, envOf, putN, ↓reduceIte, Nat.reduceLT, Nat.reduceSub, Nat.reduceAdd, Int.reduceAdd, Int.reduceEq, Int.reduceLT, Int.reduceLE, arr_pos, arr_neg, tr_laws_markRuleS]
  refine mc.lp_for (Int × List Ru) (fun i s => [⟨I, s.1⟩, ⟨I, (i : Int)⟩, ⟨L TR, s.2⟩]) (fun i s => (k ≤ s.1 ∧ s.1 ≤ k + 4398051753984 * (i : Int)) ∧ Same l s.2 ([], [], []) i) l.length 0 (k, l) _ (by simp) (Nat.zero_le _) ⟨⟨by simp, by simp⟩, Same.refl⟩ ?_ ?_
  · rintro i ⟨m, s⟩ hi ⟨⟨hm1, hm2⟩, hs⟩
    simp only at hm1 hm2 hs
    have hsl := hs.1
    have hsi := hs.2 i (Nat.le_refl _)
    obtain ⟨c1, c2, c3, c4⟩ := hl2 _ (getD_mem (d := ([], [], [])) hi)
    have c1' := few_lim c1
    have c2' := few_lim c2
    obtain ⟨r, hr⟩ : ∃ r, l.getD i ([], [], []) = r := ⟨_, rfl⟩
    rw [hr] at hsi c1 c2 c3 c4 c1' c2'
    simp (contextual := true) (maxSteps := 1000000) (disch := omega) only [↓Sd, ↓So, ↓Sk, ↓den, ↓denA, Sa, Sb, Sc, Se, O1.d, O2.d, O3.d, cmI, arI, envOf, putN, ↓reduceIte, Nat.reduceLT, Nat.reduceSub, Nat.reduceAdd, Int.reduceAdd, Int.reduceEq, Int.reduceLT, Int.reduceLE, arr_pos, arr_neg, hsi]
    refine mk_TermS r.1 m (by omega) c1 fun l1 => ?_
    simp (contextual := true) (maxSteps := 1000000) (disch := omega) only [↓Sd, ↓So, ↓Sk, ↓den, ↓denA, Sa, Sb, Sc, Se, O1.d, O2.d, O3.d, cmI, arI, envOf, putN, ↓reduceIte, Nat.reduceLT, Nat.reduceSub, Nat.reduceAdd, Int.reduceAdd, Int.reduceEq, Int.reduceLT, Int.reduceLE, arr_pos, arr_neg, hsi, List.length_set, getD_set_eq, List.set_set, mk_IntS r.2.1 (m + 4 * r.1.length) (by omega) (by omega)]
    refine mk_TermSS r.2.2 _ (by omega) c3 c4 fun k' l' hk' => ?_
    simp (contextual := true) (maxSteps := 1000000) (disch := omega) only [↓Sd, ↓So, ↓Sk, ↓den, ↓denA, Sa, Sb, Sc, Se, O1.d, O2.d, O3.d, cmI, arI, envOf, putN, ↓reduceIte, Nat.reduceLT, Nat.reduceSub, Nat.reduceAdd, Int.reduceAdd, Int.reduceEq, Int.reduceLT, Int.reduceLE, arr_pos, arr_neg, hsi, List.length_set, getD_set_eq, List.set_set]
    exact ⟨(_, _), ⟨rfl, rfl⟩, ⟨by omega, by omega⟩, hs.set⟩
  · rintro ⟨m, s⟩ ⟨⟨hm1, hm2⟩, hs⟩
    simp only at hm1 hm2 hs
    have hsl := hs.1
    simp (contextual := true) (maxSteps := 1000000) (disch := omega) only [↓Sd, ↓So, ↓Sk, ↓den, ↓denA, Sa, Sb, Sc, Se, O1.d, O2.d, O3.d, cmI, arI, envOf, putN, ↓reduceIte, Nat.reduceLT, Nat.reduceSub, Nat.reduceAdd, Int.reduceAdd, Int.reduceEq, Int.reduceLT, Int.reduceLE, arr_pos, arr_neg, ]
    exact h m s ⟨by omega, by omega⟩
theorem mk_System (s : Sy) (k : Int) (hk : 0 ≤ k ∧ k ≤ 4000000000000000000) (h : FewSy s) {Q : List AV → Prop} (hQ : ∀ k' v r, k ≤ k' ∧ k' ≤ k + 4611691515988672512 → Q [⟨I, k'⟩, ⟨L V3, v⟩, ⟨L TR, r⟩]) : mc.C f_laws_markSystem [⟨L V3, s.1⟩, ⟨L TR, s.2⟩, ⟨I, k⟩] Q := by
  obtain ⟨h1, h2, h3⟩ := h
  have h1' := few_lim h1
  refine mc.c_of F_laws_markSystem ?_
  simp (contextual := true) (maxSteps := 1000000) (disch := omega) only [↓Sd, ↓So, ↓Sk, ↓den, ↓denA, Sa, Sb, Sc, Se, O1.d, O2.d, O3.d, cmI, arI, envOf, putN, ↓reduceIte, Nat.reduceLT, Nat.reduceSub, Nat.reduceAdd, Int.reduceAdd, Int.reduceEq, Int.reduceLT, Int.reduceLE, arr_pos, arr_neg, tr_laws_markSystem]
  refine mk_VarS _ k (by omega) h1 fun l' => ?_
  simp (contextual := true) (maxSteps := 1000000) (disch := omega) only [↓Sd, ↓So, ↓Sk, ↓den, ↓denA, Sa, Sb, Sc, Se, O1.d, O2.d, O3.d, cmI, arI, envOf, putN, ↓reduceIte, Nat.reduceLT, Nat.reduceSub, Nat.reduceAdd, Int.reduceAdd, Int.reduceEq, Int.reduceLT, Int.reduceLE, arr_pos, arr_neg, ]
  refine mk_RuleS _ _ (by omega) h2 h3 fun k' r hk' => ?_
  simp (contextual := true) (maxSteps := 1000000) (disch := omega) only [↓Sd, ↓So, ↓Sk, ↓den, ↓denA, Sa, Sb, Sc, Se, O1.d, O2.d, O3.d, cmI, arI, envOf, putN, ↓reduceIte, Nat.reduceLT, Nat.reduceSub, Nat.reduceAdd, Int.reduceAdd, Int.reduceEq, Int.reduceLT, Int.reduceLE, arr_pos, arr_neg, ]
  exact hQ k' _ r ⟨by omega, by omega⟩

/-! ### Laws -/
theorem upTo_few {p : Nat → Bool} {s : Sy} (h : valid s) : (upTo p (szn s.1)).length ≤ 400 := by
  have h1 := @upTo_len p (szn s.1)
  have h2 := szn_eq h
  omega
theorem ite_few {c : Prop} [Decidable c] {l : List Int} (h : c → l.length ≤ 400) : (if c then l else []).length ≤ 400 := by
  split
  · rename_i g; exact h g
  · simp
theorem few_i {l : List Int} (h : l.length ≤ 1048576) : Few l := h
theorem law_FnExactBackWithin (s : Sy) (l : List Int) (k : Int) (hs : LtSy s) (hl : Lt63 l) : mc.C f_laws_FnExactBackWithin [⟨L V3, s.1⟩, ⟨L TR, s.2⟩, ⟨L I, l⟩, ⟨I, k⟩] (· = [⟨B, true⟩]) := by
  refine mc.c_of F_laws_FnExactBackWithin ?_
  simp (contextual := true) (maxSteps := 1000000) (disch := omega) only [↓Sd, ↓So, ↓Sk, ↓den, ↓denA, Sa, Sb, Sc, Se, O1.d, O2.d, O3.d, cmI, arI, envOf, putN, ↓reduceIte, Nat.reduceLT, Nat.reduceSub, Nat.reduceAdd, Int.reduceAdd, Int.reduceEq, Int.reduceLT, Int.reduceLE, arr_pos, arr_neg, tr_laws_FnExactBackWithin]
  intro h1
  refine sz_System s _ (by omega) hs fun j h2 h3 => ?_
  simp (contextual := true) (maxSteps := 1000000) (disch := omega) only [↓Sd, ↓So, ↓Sk, ↓den, ↓denA, Sa, Sb, Sc, Se, O1.d, O2.d, O3.d, cmI, arI, envOf, putN, ↓reduceIte, Nat.reduceLT, Nat.reduceSub, Nat.reduceAdd, Int.reduceAdd, Int.reduceEq, Int.reduceLT, Int.reduceLE, arr_pos, arr_neg, ]
  intro h4
  have hs := h3 (by omega)
  have hf : Few l := by unfold Few; omega
  have hr : (backK s l k).length ≤ 400 := by
    unfold backK
    exact ite_few fun g => upTo_few g.1.1
  simp (contextual := true) (maxSteps := 1000000) (disch := omega) only [↓Sd, ↓So, ↓Sk, ↓den, ↓denA, Sa, Sb, Sc, Se, O1.d, O2.d, O3.d, cmI, arI, envOf, putN, ↓reduceIte, Nat.reduceLT, Nat.reduceSub, Nat.reduceAdd, Int.reduceAdd, Int.reduceEq, Int.reduceLT, Int.reduceLE, arr_pos, arr_neg, to_System s hs, to_IntS l hf, C_spec_BackWithin s l k hs hf, C_impl_BackWithin s l k hs hf, eq_IntS (backK s l k) (few_i (by omega)), eq_System s hs, eq_IntS l hf]
  refine mk_System s 1 (by omega) hs fun k' v r hk' => ?_
  simp (contextual := true) (maxSteps := 1000000) (disch := omega) only [↓Sd, ↓So, ↓Sk, ↓den, ↓denA, Sa, Sb, Sc, Se, O1.d, O2.d, O3.d, cmI, arI, envOf, putN, ↓reduceIte, Nat.reduceLT, Nat.reduceSub, Nat.reduceAdd, Int.reduceAdd, Int.reduceEq, Int.reduceLT, Int.reduceLE, arr_pos, arr_neg, mk_IntS l k' (by omega) hf, eq_IntS (backK s l k) (few_i (by omega)), mk_IntS (backK s l k) 1 (by omega) (by omega), held_IntS (backK s l k).length 1 (by omega) (by omega), to_System s hs, to_IntS l hf, C_impl_BackWithin s l k hs hf]
end Go.Proofs.YtinfckfdphemiaaGreat
