/- What the trees come to: plain mathematics; no condition. -/
import Derived.Test.YtmlicpnoccdcdaaGreatSmMath0
namespace Go.Proofs.YtmlicpnoccdcdaaGreat
open Go Go.Sm Go.Sm.Q
set_option linter.unusedSimpArgs false
set_option linter.unusedVariables false
theorem mk_or {c : Prop} [Decidable c] {b : Bool} (h : b = true) : (if c then true else b) = true := by
 split
 ·rfl
 ·exact h
def cntF (p : Nat → Bool) (n : Nat) : Nat := (upTo (fun k => !p k) n).length
theorem cntF_le {p : Nat → Bool} {n : Nat} : cntF p n ≤ n := upTo_len
theorem cntF_set {p : Nat → Bool} {j : Nat} (hp : p j = false) : ∀ {n : Nat}, j < n → cntF (fun k => if k = j then true else p k) n + 1 = cntF p n
 | 0, h => absurd h (Nat.not_lt_zero _)
 | n + 1, h => by
  unfold cntF
  by_cases hj : n = j
  ·subst hj
   rw [upTo_n (by simp), upTo_s (by simp [hp]), upTo_congr (q := fun k => !p k) fun k hk => by
    have : ¬ k = n := by omega
    simp [this]]
   simp
  ·have ih : (upTo (fun k => !(if k = j then true else p k)) n).length + 1 = (upTo (fun k => !p k) n).length := cntF_set hp (by omega)
   by_cases hq : p n = true
   ·rw [upTo_n (by simp [hj, hq]), upTo_n (by simp [hq])]; exact ih
   ·rw [upTo_s (by simp [hj, hq]), upTo_s (by simp [hq])]
    simp only [List.length_append, List.length_cons, List.length_nil]
    omega
theorem C_slices_Clone_int (l : List Int) (hl : l.length ≤ 1048576) (h0 : l ≠ []) (Q : List AV → Prop) : mc.C f_slices_Clone_Sint_int [⟨L I, l⟩] Q = Q [⟨L I, l⟩] := by
 refine Mc.Ends.c (mc.ends F_slices_Clone_Sint_int ?_)
 simp (contextual := true) (maxSteps := 1000000) (disch := omega) only [↓Sd, ↓So, ↓Sk, ↓den, ↓denA, Sa, Sb, Sc, Se, O1.d, O2.d, O3.d, cmI, arI, envOf, putN, ↓reduceIte, Nat.reduceLT, Nat.reduceSub, Nat.reduceAdd, Int.reduceAdd, Int.reduceEq, Int.reduceLT, Int.reduceLE, arr_pos, arr_neg, tr_slices_Clone_Sint_int, List.isEmpty_eq_false_iff, h0, List.nil_append]
theorem C_impl_reach (T : List (List Int)) (F : List Int) (n : Nat) (h0 : F ≠ []) (hn : n ≤ 1000) (ht : Tbl T n) (hF : ∀ x ∈ F, 0 ≤ x ∧ x < n) (hFl : F.length ≤ 1000) (Q : List AV → Prop) : mc.C f_impl_reach [⟨L (L I), T⟩, ⟨L I, F⟩] Q = Q [⟨L B, tab (fun k => dB (Rch T F k)) n⟩] := by
 have hl := ht.1
 refine Mc.Ends.c (mc.ends F_impl_reach ?_)
 simp (contextual := true) (maxSteps := 1000000) (disch := omega) only [↓Sd, ↓So, ↓Sk, ↓den, ↓denA, Sa, Sb, Sc, Se, O1.d, O2.d, O3.d, cmI, arI, envOf, putN, ↓reduceIte, Nat.reduceLT, Nat.reduceSub, Nat.reduceAdd, Int.reduceAdd, Int.reduceEq, Int.reduceLT, Int.reduceLE, arr_pos, arr_neg, tr_impl_reach, hl, C_slices_Clone_int F (by omega) h0]
 refine mc.lp_for (List Bool) (fun i o => [⟨L (L I), T⟩, ⟨L I, F⟩, ⟨I, (F.length : Int)⟩, ⟨I, (i : Int)⟩, ⟨L B, o⟩, ⟨L I, F⟩]) (fun i o => o = tab (fun k => dB ((k : Int) ∈ F.take i)) n) F.length 0 (List.replicate n false) _ rfl (Nat.zero_le _) ?_ ?_ ?_
 ·rw [rep_tab]; exact tab_congr fun k _ => (dB_f (by simp)).symm
 ·rintro i o hi rfl
  have hx := hF _ (getD_mem (d := 0) hi)
  simp (contextual := true) (maxSteps := 1000000) (disch := omega) only [↓Sd, ↓So, ↓Sk, ↓den, ↓denA, Sa, Sb, Sc, Se, O1.d, O2.d, O3.d, cmI, arI, envOf, putN, ↓reduceIte, Nat.reduceLT, Nat.reduceSub, Nat.reduceAdd, Int.reduceAdd, Int.reduceEq, Int.reduceLT, Int.reduceLE, arr_pos, arr_neg, tab_len, tab_set']
  refine tab_congr fun k hk => ?_
  by_cases hk2 : k = (F.getD i 0).toNat
  ·rw [if_pos hk2, dB_t]; exact (mem_take_next hi).2 (.inr (by omega))
  ·rw [if_neg hk2]; refine dB_congr ?_
   rw [mem_take_next hi]
   exact ⟨.inl, fun h => h.elim id fun h => absurd h (by omega)⟩
 rintro o rfl
 rw [List.take_length]
 simp (contextual := true) (maxSteps := 1000000) (disch := omega) only [↓Sd, ↓So, ↓Sk, ↓den, ↓denA, Sa, Sb, Sc, Se, O1.d, O2.d, O3.d, cmI, arI, envOf, putN, ↓reduceIte, Nat.reduceLT, Nat.reduceSub, Nat.reduceAdd, Int.reduceAdd, Int.reduceEq, Int.reduceLT, Int.reduceLE, arr_pos, arr_neg, ]
 refine mc.lp_inv (fun j us => ∃ (p : Nat → Bool) (q : List Int), us = [⟨L (L I), T⟩, ⟨L B, tab p n⟩, ⟨L I, q⟩] ∧ (∀ x ∈ q, (0 ≤ x ∧ x < n) ∧ p x.toNat = true) ∧ (∀ k, k < n → (k : Int) ∈ F → p k = true) ∧ (∀ k, k < n → p k = true → Rch T F k) ∧
  (∀ a, a < n → p a = true → (a : Int) ∉ q → ∀ k : Nat, (k : Int) ∈ T.getD a [] → p k = true) ∧ q.length + cntF p n ≤ 2000 ∧ j = 2 * cntF p n + q.length) _ _
  ⟨fun k => dB ((k : Int) ∈ F), F, rfl, ?_, fun k _ h => dB_t h, fun k _ h => .base (dB_iff.1 h), fun a _ h1 h2 => absurd (dB_iff.1 h1) h2, ?_, rfl⟩ ?_
 ·intro x hx
  have := hF x hx
  exact ⟨this, dB_t (by rw [show ((x.toNat : Nat) : Int) = x by omega]; exact hx)⟩
 ·have := @cntF_le (fun k => dB ((k : Int) ∈ F)) n; omega
 rintro j us ⟨p, q, rfl, i1, i2, i3, i4, i5, rfl⟩
 cases q with
 | nil =>
  simp (contextual := true) (maxSteps := 1000000) (disch := omega) only [↓Sd, ↓So, ↓Sk, ↓den, ↓denA, Sa, Sb, Sc, Se, O1.d, O2.d, O3.d, cmI, arI, envOf, putN, ↓reduceIte, Nat.reduceLT, Nat.reduceSub, Nat.reduceAdd, Int.reduceAdd, Int.reduceEq, Int.reduceLT, Int.reduceLE, arr_pos, arr_neg, ]
  exact tab_congr (rch_of_closed ht hF i2 i3 fun a ha hp k hk => i4 a ha hp (by simp) k hk)
 | cons x q =>
  obtain ⟨⟨hx0, hx1⟩, hxp⟩ := i1 x (List.mem_cons_self ..)
  have hrow := ht.row (i := x.toNat)
  have hrl : (T.getD x.toNat []).length ≤ 1048576 := (ht.2 _ (getD_mem (by omega))).1
  simp only [List.length_cons] at i5
  obtain ⟨row, hr⟩ : ∃ row, T.getD x.toNat [] = row := ⟨_, rfl⟩
  rw [hr] at hrow hrl
  simp (contextual := true) (maxSteps := 1000000) (disch := omega) only [↓Sd, ↓So, ↓Sk, ↓den, ↓denA, Sa, Sb, Sc, Se, O1.d, O2.d, O3.d, cmI, arI, envOf, putN, ↓reduceIte, Nat.reduceLT, Nat.reduceSub, Nat.reduceAdd, Int.reduceAdd, Int.reduceEq, Int.reduceLT, Int.reduceLE, arr_pos, arr_neg, hl, hr, List.drop_succ_cons, List.drop_zero]
  refine mc.lp_for ((Nat → Bool) × List Int) (fun j s => [⟨L (L I), T⟩, ⟨L I, row⟩, ⟨I, (row.length : Int)⟩, ⟨I, (j : Int)⟩, ⟨L B, tab s.1 n⟩, ⟨L I, s.2⟩]) (fun j s => (∀ x ∈ s.2, (0 ≤ x ∧ x < n) ∧ s.1 x.toNat = true) ∧ (∀ k, k < n → p k = true → s.1 k = true) ∧ (∀ k, k < n → s.1 k = true → Rch T F k) ∧
   (∀ k : Nat, (k : Int) ∈ row.take j → s.1 k = true) ∧ (∀ a, a < n → s.1 a = true → (a : Int) ∉ s.2 → (a : Int) ≠ x → ∀ k : Nat, (k : Int) ∈ T.getD a [] → s.1 k = true) ∧ s.2.length + cntF s.1 n ≤ q.length + cntF p n ∧ cntF s.1 n ≤ cntF p n) row.length 0 (p, q) _ rfl (Nat.zero_le _)
   ⟨fun y hy => i1 y (List.mem_cons_of_mem _ hy), fun _ _ h => h, i3, by simp, fun a h1 h2 h3 h4 => i4 a h1 h2 (by simp only [List.mem_cons, not_or]; exact ⟨h4, h3⟩), Nat.le_refl _, Nat.le_refl _⟩ ?_ ?_
  ·rintro j ⟨p', q'⟩ hj ⟨a1, a2, a3, a4, a5, a6, a7⟩
   simp only at a1 a2 a3 a4 a5 a6 a7
   have hy := hrow _ (getD_mem (d := 0) hj)
   obtain ⟨y, hy2⟩ : ∃ y : Nat, row.getD j 0 = y := ⟨(row.getD j 0).toNat, by omega⟩
   have hyn : y < n := by omega
   have hyr : Rch T F y := .step (i3 x.toNat (by omega) hxp) (by rw [hr, ← hy2]; exact getD_mem hj)
   simp (contextual := true) (maxSteps := 1000000) (disch := omega) only [↓Sd, ↓So, ↓Sk, ↓den, ↓denA, Sa, Sb, Sc, Se, O1.d, O2.d, O3.d, cmI, arI, envOf, putN, ↓reduceIte, Nat.reduceLT, Nat.reduceSub, Nat.reduceAdd, Int.reduceAdd, Int.reduceEq, Int.reduceLT, Int.reduceLE, arr_pos, arr_neg, ↓wpJoin, hy2, tab_len, tab_get hyn, tab_set']
   refine ⟨fun g => ?_, fun g => ?_⟩
   ·have hc := cntF_set g hyn
    refine ⟨(fun k => if k = y then true else p' k, q' ++ [(y : Int)]), ⟨rfl, rfl⟩, ?_, ?_, ?_, ?_, ?_, ?_, ?_⟩
    ·intro z hz
     rcases List.mem_append.1 hz with h | h
     ·have := a1 z h; exact ⟨this.1, mk_or this.2⟩
     ·simp only [List.mem_singleton] at h; subst h; exact ⟨by omega, by simp⟩
    ·intro k hk h; exact mk_or (a2 k hk h)
    ·intro k hk h
     by_cases hky : k = y
     ·rw [hky]; exact hyr
     ·exact a3 k hk (by simpa [hky] using h)
    ·intro k hk
     simp only []
     split
     ·rfl
     ·rename_i hky
      rcases (mem_take_next hj).1 hk with h | h
      ·exact a4 k h
      ·exact absurd (by omega) hky
    ·intro a ha h1 h2 h3 k hk
     simp only [List.mem_append, List.mem_singleton, not_or] at h2
     have hay : ¬ a = y := fun h => h2.2 (by rw [h])
     simp only []
     split
     ·rfl
     ·exact a5 a ha (by simpa [hay] using h1) h2.1 h3 k hk
    ·simp only [List.length_append, List.length_cons, List.length_nil]; omega
    ·simp only []; omega
   ·refine ⟨(p', q'), ⟨rfl, rfl⟩, a1, a2, a3, fun k hk => ?_, a5, a6, a7⟩
    rcases (mem_take_next hj).1 hk with h | h
    ·exact a4 k h
    ·rw [show k = y by omega]; simpa using g
  ·rintro ⟨p', q'⟩ ⟨a1, a2, a3, a4, a5, a6, a7⟩
   rw [List.take_length] at a4
   simp only at a6 a7
   simp (contextual := true) (maxSteps := 1000000) (disch := omega) only [↓Sd, ↓So, ↓Sk, ↓den, ↓denA, Sa, Sb, Sc, Se, O1.d, O2.d, O3.d, cmI, arI, envOf, putN, ↓reduceIte, Nat.reduceLT, Nat.reduceSub, Nat.reduceAdd, Int.reduceAdd, Int.reduceEq, Int.reduceLT, Int.reduceLE, arr_pos, arr_neg, ]
   refine ⟨_, ?_, p', q', ⟨rfl, rfl⟩, a1, fun k hk h => a2 k hk (i2 k hk h), a3, fun a ha h1 h2 k hk => ?_, by omega, rfl⟩
   ·omega
   ·by_cases hax : (a : Int) = x
    ·rw [← hr] at a4; exact a4 k (by rw [← hax]; exact hk)
    ·exact a5 a ha h1 h2 hax k hk
noncomputable def rchB (s : Sy) (k : Nat) : Bool := dB (Rch (steps s) [num s.1 (fst0 s.1)] k)
theorem first_num {s : Sy} (h : valid s) : ∀ x ∈ [num s.1 (fst0 s.1)], 0 ≤ x ∧ x < (szn s.1 : Int) := by
 intro x hx
 have h1 := num_bd h.2.2.1 (fst0_in h.2.2.1)
 have h2 := szn_eq h
 simp only [List.mem_singleton] at hx
 omega
theorem C_impl_reachOf (s : Sy) (h : valid s) (Q : List AV → Prop) : mc.C f_impl_reachOf [⟨L V3, s.1⟩, ⟨L TR, s.2⟩] Q = Q [⟨L B, tab (rchB s) (szn s.1)⟩] := by
 have hz := szn_eq h
 refine Mc.Ends.c (mc.ends F_impl_reachOf ?_)
 simp (contextual := true) (maxSteps := 1000000) (disch := omega) only [↓Sd, ↓So, ↓Sk, ↓den, ↓denA, Sa, Sb, Sc, Se, O1.d, O2.d, O3.d, cmI, arI, envOf, putN, ↓reduceIte, Nat.reduceLT, Nat.reduceSub, Nat.reduceAdd, Int.reduceAdd, Int.reduceEq, Int.reduceLT, Int.reduceLE, arr_pos, arr_neg, tr_impl_reachOf, C_impl_nexts s h, C_impl_first s h.1.2, C_impl_number s _ h.1.2 h.2.2.1 (fst0_in h.2.2.1), C_impl_reach _ _ (szn s.1) (by simp) (by omega) (steps_tbl h) (first_num h) (by simp)]
 rfl
def allIf (p q : Nat → Bool) (n : Nat) : Prop := ∀ k, k < n → p k = true → q k = true
theorem C_impl_always (s : Sy) (l : List Tm) (p : Nat → Bool) (h : valid s) (hl : kf l s.1.length ≠ 0) (Q : List AV → Prop) : mc.C f_impl_always [⟨L V3, s.1⟩, ⟨L TR, s.2⟩, ⟨L T4, l⟩, ⟨L B, tab p (szn s.1)⟩] Q = Q [⟨B, dB (allIf p (holdsN s l) (szn s.1))⟩] := by
 have hz := szn_eq h
 refine Mc.Ends.c (mc.ends F_impl_always ?_)
 generalize hK : dB (allIf p (holdsN s l) (szn s.1)) = K
 simp (contextual := true) (maxSteps := 1000000) (disch := omega) only [↓Sd, ↓So, ↓Sk, ↓den, ↓denA, Sa, Sb, Sc, Se, O1.d, O2.d, O3.d, cmI, arI, envOf, putN, ↓reduceIte, Nat.reduceLT, Nat.reduceSub, Nat.reduceAdd, Int.reduceAdd, Int.reduceEq, Int.reduceLT, Int.reduceLE, arr_pos, arr_neg, tr_impl_always, C_impl_where s l h hl, tab_len]
 refine lp_all (fun i => [⟨L B, tab p (szn s.1)⟩, ⟨I, (szn s.1 : Int)⟩, ⟨I, (i : Int)⟩, ⟨L B, tab (holdsN s l) (szn s.1)⟩]) (fun i => p i = true → holdsN s l i = true) (szn s.1) _ rfl ?_ ?_
 ·intro i hi
  have hno : ¬ (p i = true → holdsN s l i = true) → false = K := fun g => by rw [← hK, dB_f]; exact fun h1 => g (h1 i hi)
  simp (contextual := true) (maxSteps := 1000000) (disch := omega) only [↓Sd, ↓So, ↓Sk, ↓den, ↓denA, Sa, Sb, Sc, Se, O1.d, O2.d, O3.d, cmI, arI, envOf, putN, ↓reduceIte, Nat.reduceLT, Nat.reduceSub, Nat.reduceAdd, Int.reduceAdd, Int.reduceEq, Int.reduceLT, Int.reduceLE, arr_pos, arr_neg, ↓wpJoin, tab_len, tab_get hi]
  grind
 ·intro g
  simp (contextual := true) (maxSteps := 1000000) (disch := omega) only [↓Sd, ↓So, ↓Sk, ↓den, ↓denA, Sa, Sb, Sc, Se, O1.d, O2.d, O3.d, cmI, arI, envOf, putN, ↓reduceIte, Nat.reduceLT, Nat.reduceSub, Nat.reduceAdd, Int.reduceAdd, Int.reduceEq, Int.reduceLT, Int.reduceLE, arr_pos, arr_neg, ]
  rw [← hK, dB_t]; exact g
theorem C_impl_truthOf (s : Sy) (l : List Tm) (hs : FewSy s) (hf : Few l) (Q : List AV → Prop) : mc.C f_impl_truthOf [⟨L V3, s.1⟩, ⟨L TR, s.2⟩, ⟨L T4, l⟩] Q = Q [⟨B, decide (valid s ∧ kf l s.1.length = 2)⟩] := by
 refine Mc.Ends.c (mc.ends F_impl_truthOf ?_)
 generalize hK : decide (valid s ∧ kf l s.1.length = 2) = K
 simp (contextual := true) (maxSteps := 1000000) (disch := omega) only [↓Sd, ↓So, ↓Sk, ↓den, ↓denA, Sa, Sb, Sc, Se, O1.d, O2.d, O3.d, cmI, arI, envOf, putN, ↓reduceIte, Nat.reduceLT, Nat.reduceSub, Nat.reduceAdd, Int.reduceAdd, Int.reduceEq, Int.reduceLT, Int.reduceLE, arr_pos, arr_neg, tr_impl_truthOf, C_impl_SystemValid s hs, C_impl_kindOf l _ hf] <;> grind
theorem C_impl_Always (s : Sy) (l : List Tm) (hs : FewSy s) (hf : Few l) (Q : List AV → Prop) : mc.C f_impl_Always [⟨L V3, s.1⟩, ⟨L TR, s.2⟩, ⟨L T4, l⟩] Q = Q [⟨B, dB (valid s ∧ kf l s.1.length = 2 ∧ allIf (rchB s) (holdsN s l) (szn s.1))⟩] := by
 refine Mc.Ends.c (mc.ends F_impl_Always ?_)
 simp (contextual := true) (maxSteps := 1000000) (disch := omega) only [↓Sd, ↓So, ↓Sk, ↓den, ↓denA, Sa, Sb, Sc, Se, O1.d, O2.d, O3.d, cmI, arI, envOf, putN, ↓reduceIte, Nat.reduceLT, Nat.reduceSub, Nat.reduceAdd, Int.reduceAdd, Int.reduceEq, Int.reduceLT, Int.reduceLE, arr_pos, arr_neg, tr_impl_Always, C_impl_truthOf s l hs hf]
 refine ⟨fun h => ?_, fun h => (dB_f fun g => h ⟨g.1, g.2.1⟩).symm⟩
 simp (contextual := true) (maxSteps := 1000000) (disch := omega) only [↓Sd, ↓So, ↓Sk, ↓den, ↓denA, Sa, Sb, Sc, Se, O1.d, O2.d, O3.d, cmI, arI, envOf, putN, ↓reduceIte, Nat.reduceLT, Nat.reduceSub, Nat.reduceAdd, Int.reduceAdd, Int.reduceEq, Int.reduceLT, Int.reduceLE, arr_pos, arr_neg, C_impl_reachOf s h.1, C_impl_always s l _ h.1 (by omega)]
 first
  | done
  | exact dB_congr ⟨fun g => ⟨h.1, h.2, g⟩, fun g => g.2.2⟩
def alwaysBy (s : Sy) (l : List Tm) : Prop := nar s ∧ kf l s.1.length = 2 ∧ allIf (rchB s) (holdsN s l) (szn s.1)
theorem C_impl_AlwaysBy (s : Sy) (l : List Tm) (hs : FewSy s) (hf : Few l) (Q : List AV → Prop) : mc.C f_impl_AlwaysBy [⟨L V3, s.1⟩, ⟨L TR, s.2⟩, ⟨L T4, l⟩] Q = Q [⟨B, dB (alwaysBy s l)⟩] := by
 refine Mc.Ends.c (mc.ends F_impl_AlwaysBy ?_)
 simp (contextual := true) (maxSteps := 1000000) (disch := omega) only [↓Sd, ↓So, ↓Sk, ↓den, ↓denA, Sa, Sb, Sc, Se, O1.d, O2.d, O3.d, cmI, arI, envOf, putN, ↓reduceIte, Nat.reduceLT, Nat.reduceSub, Nat.reduceAdd, Int.reduceAdd, Int.reduceEq, Int.reduceLT, Int.reduceLE, arr_pos, arr_neg, tr_impl_AlwaysBy, C_impl_halfNarrow s hs, C_impl_Always s l hs hf]
 exact ⟨fun h => dB_congr ⟨fun g => ⟨h, g.2⟩, fun g => ⟨g.1.1, g.2⟩⟩, fun h => (dB_f fun g => h g.1).symm⟩
theorem upTo_nil {p : Nat → Bool} {n : Nat} : (upTo p n).length = 0 ↔ ∀ k, k < n → p k = false := by
 constructor
 ·intro h k hk
  cases hp : p k with
  | false => rfl
  | true =>
   have := (upTo_mem (p := p) (n := n) (x := k)).2 ⟨k, hk, rfl, hp⟩
   rw [List.eq_nil_of_length_eq_zero h] at this
   cases this
 ·intro h
  cases hl : upTo p n with
  | nil => rfl
  | cons x l =>
   obtain ⟨k, h1, _, h3⟩ := (upTo_mem (p := p) (n := n) (x := x)).1 (by rw [hl]; simp)
   rw [h k h1] at h3
   cases h3
theorem C_spec_AlwaysBy (s : Sy) (l : List Tm) (hs : FewSy s) (hf : Few l) {Q : List AV → Prop} (hQ : Q [⟨B, dB (alwaysBy s l)⟩]) : mc.C f_spec_AlwaysBy [⟨L V3, s.1⟩, ⟨L TR, s.2⟩, ⟨L T4, l⟩] Q := by
 refine mc.c_of F_spec_AlwaysBy ?_
 simp (contextual := true) (maxSteps := 1000000) (disch := omega) only [↓Sd, ↓So, ↓Sk, ↓den, ↓denA, Sa, Sb, Sc, Se, O1.d, O2.d, O3.d, cmI, arI, envOf, putN, ↓reduceIte, Nat.reduceLT, Nat.reduceSub, Nat.reduceAdd, Int.reduceAdd, Int.reduceEq, Int.reduceLT, Int.reduceLE, arr_pos, arr_neg, tr_spec_AlwaysBy, C_spec_l10Wide s hs, C_spec_l2Is l s.1.length 2 hf (by omega)]
 have hb0 : 0 ≤ bc s.1 := (sumN_bd (f := bw s.1) (fun i => bn_bd _) s.1.length).1
 refine ⟨fun h => ?_, fun h => ⟨fun h2 => ?_, fun h2 => ?_⟩⟩
 ·rw [dB_f] at hQ
  ·exact hQ
  ·intro g; rw [if_pos g.1] at h; omega
 ·rw [dB_f] at hQ
  ·exact hQ
  ·intro g; exact h2 g.2.1
 ·have hn : nar s := Classical.byContradiction fun g => by rw [if_neg g] at h; omega
  have hz := szn_eq hn.1
  refine C_spec_ReachBy s hs hn fun k => ?_
  simp (contextual := true) (maxSteps := 1000000) (disch := omega) only [↓Sd, ↓So, ↓Sk, ↓den, ↓denA, Sa, Sb, Sc, Se, O1.d, O2.d, O3.d, cmI, arI, envOf, putN, ↓reduceIte, Nat.reduceLT, Nat.reduceSub, Nat.reduceAdd, Int.reduceAdd, Int.reduceEq, Int.reduceLT, Int.reduceLE, arr_pos, arr_neg, C_spec_StatesWhere s l hs hf hn.1 h2, C_spec_SetWithout (rset s) (upTo (holdsN s l) (szn s.1)) (upTo_lset (m := 400) (by omega)) (upTo_lset (m := 400) (by omega))]
  have e : rset s = upTo (rchB s) (szn s.1) := rfl
  rw [e, without_upTo (by omega)]
  have e2 : (((upTo (fun k => rchB s k && !holdsN s l k) (szn s.1)).length : Int) == 0) = dB (alwaysBy s l) := by
   by_cases h3 : alwaysBy s l
   ·rw [dB_t h3, upTo_nil.2 fun k hk => ?_]
    ·rfl
    ·cases hr : rchB s k with
     | false => rfl
     | true => simp [h3.2.2 k hk hr]
   ·rw [dB_f h3]
    refine beq_eq_false_iff_ne.2 fun h4 => h3 ⟨hn, h2, fun k hk hr => ?_⟩
    have := upTo_nil.1 (Int.ofNat_eq_zero.1 h4) k hk
    simpa [hr] using this
  rw [e2]
  exact hQ
theorem C_impl_listOf (l : List Bool) (hl : l.length ≤ 1048576) (Q : List AV → Prop) : mc.C f_impl_listOf [⟨L B, l⟩] Q = Q [⟨L I, upTo (fun k => l.getD k false) l.length⟩] := by
 refine Mc.Ends.c (mc.ends F_impl_listOf ?_)
 simp (contextual := true) (maxSteps := 1000000) (disch := omega) only [↓Sd, ↓So, ↓Sk, ↓den, ↓denA, Sa, Sb, Sc, Se, O1.d, O2.d, O3.d, cmI, arI, envOf, putN, ↓reduceIte, Nat.reduceLT, Nat.reduceSub, Nat.reduceAdd, Int.reduceAdd, Int.reduceEq, Int.reduceLT, Int.reduceLE, arr_pos, arr_neg, tr_impl_listOf]
 refine mc.lp_for (List Int) (fun i o => [⟨L B, l⟩, ⟨I, (l.length : Int)⟩, ⟨I, (i : Int)⟩, ⟨L I, o⟩]) (fun i o => o = upTo (fun k => l.getD k false) i) l.length 0 [] _ rfl (Nat.zero_le _) rfl ?_ ?_
 ·rintro i o hi rfl
  have h1 := @upTo_len (fun k => l.getD k false) i
  simp (contextual := true) (maxSteps := 1000000) (disch := omega) only [↓Sd, ↓So, ↓Sk, ↓den, ↓denA, Sa, Sb, Sc, Se, O1.d, O2.d, O3.d, cmI, arI, envOf, putN, ↓reduceIte, Nat.reduceLT, Nat.reduceSub, Nat.reduceAdd, Int.reduceAdd, Int.reduceEq, Int.reduceLT, Int.reduceLE, arr_pos, arr_neg, ↓wpJoin, ]
  exact ⟨fun g => (upTo_s g).symm, fun g => (upTo_n g).symm⟩
 ·rintro o rfl
  have h1 := @upTo_len (fun k => l.getD k false) l.length
  simp (contextual := true) (maxSteps := 1000000) (disch := omega) only [↓Sd, ↓So, ↓Sk, ↓den, ↓denA, Sa, Sb, Sc, Se, O1.d, O2.d, O3.d, cmI, arI, envOf, putN, ↓reduceIte, Nat.reduceLT, Nat.reduceSub, Nat.reduceAdd, Int.reduceAdd, Int.reduceEq, Int.reduceLT, Int.reduceLE, arr_pos, arr_neg, C_impl_clone_int (upTo (fun k => l.getD k false) l.length) (by omega)]
theorem C_impl_listOf_tab (p : Nat → Bool) (n : Nat) (hn : n ≤ 1048576) (Q : List AV → Prop) : mc.C f_impl_listOf [⟨L B, tab p n⟩] Q = Q [⟨L I, upTo p n⟩] := by
 rw [C_impl_listOf _ (by rw [tab_len]; exact hn), tab_len, upTo_congr fun k hk => tab_get hk]
theorem C_impl_marks (l : List Int) (n : Nat) (hn : n ≤ 1048576) (hl : l.length ≤ 1048576) (h : ∀ x ∈ l, 0 ≤ x ∧ x < n) (Q : List AV → Prop) : mc.C f_impl_marks [⟨L I, l⟩, ⟨I, (n : Int)⟩] Q = Q [⟨L B, tab (fun k => dB ((k : Int) ∈ l)) n⟩] := by
 refine Mc.Ends.c (mc.ends F_impl_marks ?_)
 simp (contextual := true) (maxSteps := 1000000) (disch := omega) only [↓Sd, ↓So, ↓Sk, ↓den, ↓denA, Sa, Sb, Sc, Se, O1.d, O2.d, O3.d, cmI, arI, envOf, putN, ↓reduceIte, Nat.reduceLT, Nat.reduceSub, Nat.reduceAdd, Int.reduceAdd, Int.reduceEq, Int.reduceLT, Int.reduceLE, arr_pos, arr_neg, tr_impl_marks]
 refine mc.lp_for (List Bool) (fun i o => [⟨L I, l⟩, ⟨I, (l.length : Int)⟩, ⟨I, (i : Int)⟩, ⟨L B, o⟩]) (fun i o => o = tab (fun k => dB ((k : Int) ∈ l.take i)) n) l.length 0 (List.replicate n false) _ rfl (Nat.zero_le _) ?_ ?_ ?_
 ·rw [rep_tab]; exact tab_congr fun k _ => (dB_f (by simp)).symm
 ·rintro i o hi rfl
  have hx := h _ (getD_mem (d := 0) hi)
  simp (contextual := true) (maxSteps := 1000000) (disch := omega) only [↓Sd, ↓So, ↓Sk, ↓den, ↓denA, Sa, Sb, Sc, Se, O1.d, O2.d, O3.d, cmI, arI, envOf, putN, ↓reduceIte, Nat.reduceLT, Nat.reduceSub, Nat.reduceAdd, Int.reduceAdd, Int.reduceEq, Int.reduceLT, Int.reduceLE, arr_pos, arr_neg, tab_len, tab_set']
  refine tab_congr fun k hk => ?_
  by_cases hk2 : k = (l.getD i 0).toNat
  ·rw [if_pos hk2, dB_t]; exact (mem_take_next hi).2 (.inr (by omega))
  ·rw [if_neg hk2]; refine dB_congr ?_
   rw [mem_take_next hi]
   exact ⟨.inl, fun h => h.elim id fun h => absurd h (by omega)⟩
 ·rintro o rfl
  rw [List.take_length]
  simp (contextual := true) (maxSteps := 1000000) (disch := omega) only [↓Sd, ↓So, ↓Sk, ↓den, ↓denA, Sa, Sb, Sc, Se, O1.d, O2.d, O3.d, cmI, arI, envOf, putN, ↓reduceIte, Nat.reduceLT, Nat.reduceSub, Nat.reduceAdd, Int.reduceAdd, Int.reduceEq, Int.reduceLT, Int.reduceLE, arr_pos, arr_neg, ]
theorem C_impl_marks_i (l : List Int) (m : Int) (n : Nat) (e : m = n) (hn : n ≤ 1048576) (hl : l.length ≤ 1048576) (h : ∀ x ∈ l, 0 ≤ x ∧ x < n) (Q : List AV → Prop) : mc.C f_impl_marks [⟨L I, l⟩, ⟨I, m⟩] Q = Q [⟨L B, tab (fun k => dB ((k : Int) ∈ l)) n⟩] := e ▸ C_impl_marks l n hn hl h Q
theorem C_impl_setOk (l : List Int) (m : Int) (hm : 0 ≤ m ∧ m ≤ 1048576) (hl : l.length ≤ 1048576) (Q : List AV → Prop) : mc.C f_impl_setOk [⟨L I, l⟩, ⟨I, m⟩] Q = Q [⟨B, decide (lset l m)⟩] := by
 refine Mc.Ends.c (mc.ends F_impl_setOk ?_)
 generalize hK : decide (lset l m) = K
 simp (contextual := true) (maxSteps := 1000000) (disch := omega) only [↓Sd, ↓So, ↓Sk, ↓den, ↓denA, Sa, Sb, Sc, Se, O1.d, O2.d, O3.d, cmI, arI, envOf, putN, ↓reduceIte, Nat.reduceLT, Nat.reduceSub, Nat.reduceAdd, Int.reduceAdd, Int.reduceEq, Int.reduceLT, Int.reduceLE, arr_pos, arr_neg, tr_impl_setOk]
 refine lp_all (fun i => [⟨L I, l⟩, ⟨I, m⟩, ⟨L I, l⟩, ⟨I, (l.length : Int)⟩, ⟨I, (i : Int)⟩]) (fun i => (0 ≤ l.getD i 0 ∧ l.getD i 0 ≤ m - 1) ∧ (0 < i → l.getD (i - 1) 0 < l.getD i 0)) l.length _ rfl ?_ ?_
 ·intro i hi
  have hno : ¬ ((0 ≤ l.getD i 0 ∧ l.getD i 0 ≤ m - 1) ∧ (0 < i → l.getD (i - 1) 0 < l.getD i 0)) → false = K := fun h => by rw [← hK, decide_eq_false]; exact fun h1 => h (h1 i hi)
  simp (contextual := true) (maxSteps := 1000000) (disch := omega) only [↓Sd, ↓So, ↓Sk, ↓den, ↓denA, Sa, Sb, Sc, Se, O1.d, O2.d, O3.d, cmI, arI, envOf, putN, ↓reduceIte, Nat.reduceLT, Nat.reduceSub, Nat.reduceAdd, Int.reduceAdd, Int.reduceEq, Int.reduceLT, Int.reduceLE, arr_pos, arr_neg, ↓wpJoin, C_impl_in]
  grind
 ·intro h
  simp (contextual := true) (maxSteps := 1000000) (disch := omega) only [↓Sd, ↓So, ↓Sk, ↓den, ↓denA, Sa, Sb, Sc, Se, O1.d, O2.d, O3.d, cmI, arI, envOf, putN, ↓reduceIte, Nat.reduceLT, Nat.reduceSub, Nat.reduceAdd, Int.reduceAdd, Int.reduceEq, Int.reduceLT, Int.reduceLE, arr_pos, arr_neg, ]
  rw [← hK, decide_eq_true]; exact h
def setV (s : Sy) (l : List Int) : Prop := valid s ∧ lset l (sz s.1)
instance (s : Sy) (l : List Int) : Decidable (setV s l) := by unfold setV; infer_instance
theorem setV.n {s : Sy} {l : List Int} (h : setV s l) : lset l (szn s.1) := by rw [(szn_eq h.1).1]; exact h.2
theorem setV.len {s : Sy} {l : List Int} (h : setV s l) : l.length ≤ 400 := by
 have h1 := lset_len h.n (by omega)
 have h2 := szn_eq h.1
 omega
theorem setV.mem {s : Sy} {l : List Int} (h : setV s l) : ∀ x ∈ l, 0 ≤ x ∧ x < (szn s.1 : Int) := lset_mem h.n
theorem sz_ok {s : Sy} (h : valid s) : 1 ≤ sz s.1 ∧ sz s.1 ≤ 400 := by have := szn_eq h; omega
theorem C_impl_SetValid (s : Sy) (l : List Int) (hs : FewSy s) (hl : l.length ≤ 1048576) (Q : List AV → Prop) : mc.C f_impl_SetValid [⟨L V3, s.1⟩, ⟨L TR, s.2⟩, ⟨L I, l⟩] Q = Q [⟨B, decide (setV s l)⟩] := by
 refine Mc.Ends.c (mc.ends F_impl_SetValid ?_)
 generalize hK : decide (setV s l) = K
 simp (contextual := true) (maxSteps := 1000000) (disch := omega) only [↓Sd, ↓So, ↓Sk, ↓den, ↓denA, Sa, Sb, Sc, Se, O1.d, O2.d, O3.d, cmI, arI, envOf, putN, ↓reduceIte, Nat.reduceLT, Nat.reduceSub, Nat.reduceAdd, Int.reduceAdd, Int.reduceEq, Int.reduceLT, Int.reduceLE, arr_pos, arr_neg, tr_impl_SetValid, C_impl_SystemValid s hs]
 refine ⟨fun h => ?_, fun h => ?_⟩
 ·have hz := sz_ok h
  simp (contextual := true) (maxSteps := 1000000) (disch := omega) only [↓Sd, ↓So, ↓Sk, ↓den, ↓denA, Sa, Sb, Sc, Se, O1.d, O2.d, O3.d, cmI, arI, envOf, putN, ↓reduceIte, Nat.reduceLT, Nat.reduceSub, Nat.reduceAdd, Int.reduceAdd, Int.reduceEq, Int.reduceLT, Int.reduceLE, arr_pos, arr_neg, C_impl_size s.1 h.1.2 h.2.2.1, C_impl_setOk l (sz s.1) (by omega) hl]
  rw [← hK]; exact decide_eq_decide.2 ⟨fun g => ⟨h, g⟩, fun g => g.2⟩
 ·rw [← hK, decide_eq_false fun g => h g.1]
theorem C_spec_SetValid (s : Sy) (l : List Int) (hs : FewSy s) (hl : l.length ≤ 1048576) (Q : List AV → Prop) : mc.C f_spec_SetValid [⟨L V3, s.1⟩, ⟨L TR, s.2⟩, ⟨L I, l⟩] Q = Q [⟨B, decide (setV s l)⟩] := by
 refine Mc.Ends.c (mc.ends F_spec_SetValid ?_)
 generalize hK : decide (setV s l) = K
 simp (contextual := true) (maxSteps := 1000000) (disch := omega) only [↓Sd, ↓So, ↓Sk, ↓den, ↓denA, Sa, Sb, Sc, Se, O1.d, O2.d, O3.d, cmI, arI, envOf, putN, ↓reduceIte, Nat.reduceLT, Nat.reduceSub, Nat.reduceAdd, Int.reduceAdd, Int.reduceEq, Int.reduceLT, Int.reduceLE, arr_pos, arr_neg, tr_spec_SetValid, C_spec_SizeOf s hs]
 obtain ⟨m, hm⟩ : ∃ m : Int, (if valid s then sz s.1 else 0) = m := ⟨_, rfl⟩
 have hb : 0 ≤ m ∧ m ≤ 400 := by
  rw [← hm]
  split
  ·rename_i h; have := sz_ok h; omega
  ·omega
 have hiff : setV s l ↔ (lset l m ∧ 0 < m) := by
  rw [← hm]
  by_cases h : valid s
  ·have := sz_ok h
   rw [if_pos h]; exact ⟨fun g => ⟨g.2, by omega⟩, fun g => ⟨h, g.1⟩⟩
  ·rw [if_neg h]; exact ⟨fun g => absurd g.1 h, fun g => by omega⟩
 rw [hm]
 refine lp_all (fun i => [⟨L I, l⟩, ⟨I, m⟩, ⟨I, (i : Int)⟩]) (fun i => (0 ≤ l.getD i 0 ∧ l.getD i 0 ≤ m - 1) ∧ (0 < i → l.getD (i - 1) 0 < l.getD i 0)) l.length _ rfl ?_ ?_
 ·intro i hi
  have hno : ¬ ((0 ≤ l.getD i 0 ∧ l.getD i 0 ≤ m - 1) ∧ (0 < i → l.getD (i - 1) 0 < l.getD i 0)) → false = K := fun h => by rw [← hK, decide_eq_false]; exact fun h1 => h ((hiff.1 h1).1 i hi)
  simp (contextual := true) (maxSteps := 1000000) (disch := omega) only [↓Sd, ↓So, ↓Sk, ↓den, ↓denA, Sa, Sb, Sc, Se, O1.d, O2.d, O3.d, cmI, arI, envOf, putN, ↓reduceIte, Nat.reduceLT, Nat.reduceSub, Nat.reduceAdd, Int.reduceAdd, Int.reduceEq, Int.reduceLT, Int.reduceLE, arr_pos, arr_neg, ↓wpJoin, C_spec_l1In]
  grind
 ·intro h
  simp (contextual := true) (maxSteps := 1000000) (disch := omega) only [↓Sd, ↓So, ↓Sk, ↓den, ↓denA, Sa, Sb, Sc, Se, O1.d, O2.d, O3.d, cmI, arI, envOf, putN, ↓reduceIte, Nat.reduceLT, Nat.reduceSub, Nat.reduceAdd, Int.reduceAdd, Int.reduceEq, Int.reduceLT, Int.reduceLE, arr_pos, arr_neg, ]
  rw [← hK]
  exact decide_eq_decide.2 ⟨fun g => hiff.2 ⟨h, g⟩, fun g => (hiff.1 g).2⟩
def pastL (T : List (List Int)) (k : Nat) : Nat → List Int
 | 0 => []
 | m + 1 => pastL T k m ++ List.replicate ((T.getD m []).count (k : Int)) (m : Int)
theorem pastL_mem {T : List (List Int)} {k : Nat} {x : Int} : ∀ {m : Nat}, x ∈ pastL T k m ↔ ∃ a, a < m ∧ x = (a : Int) ∧ (k : Int) ∈ T.getD a []
 | 0 => by simp [pastL]
 | m + 1 => by
  simp only [pastL, List.mem_append, List.mem_replicate, pastL_mem (m := m)]
  constructor
  ·rintro (⟨a, h1, h2, h3⟩ | ⟨h1, h2⟩)
   ·exact ⟨a, by omega, h2, h3⟩
   ·exact ⟨m, by omega, h2, List.count_pos_iff.1 (by omega)⟩
  ·rintro ⟨a, h1, h2, h3⟩
   rcases Nat.lt_succ_iff_lt_or_eq.1 h1 with h | rfl
   ·exact .inl ⟨a, h, h2, h3⟩
   ·exact .inr ⟨by have := List.count_pos_iff.2 h3; omega, h2⟩
theorem pastL_len {T : List (List Int)} {k : Nat} (h : ∀ r ∈ T, r.length ≤ 8) : ∀ {m : Nat}, (pastL T k m).length ≤ 8 * m
 | 0 => by simp [pastL]
 | m + 1 => by
  have ih := pastL_len (k := k) h (m := m)
  have h1 : (T.getD m []).count (k : Int) ≤ (T.getD m []).length := List.count_le_length
  have h2 : (T.getD m []).length ≤ 8 := by
   by_cases hm : m < T.length
   ·exact h _ (getD_mem hm)
   ·rw [List.getD_eq_getElem?_getD, List.getElem?_eq_none (by omega)]; simp
  simp only [pastL, List.length_append, List.length_replicate]
  omega
def Tb8 (T : List (List Int)) (n : Nat) : Prop := Tbl T n ∧ n ≤ 400 ∧ ∀ r ∈ T, r.length ≤ 8
theorem steps_tb8 {s : Sy} (h : valid s) : Tb8 (steps s) (szn s.1) := by
 refine ⟨steps_tbl h, (szn_eq h).2.2, fun r hr => ?_⟩
 simp only [steps, tab, List.mem_map, List.mem_range] at hr
 obtain ⟨i, hi, rfl⟩ := hr
 simp only [stepR, List.length_map]
 exact nxt_len h
theorem count_next {l : List Int} {j : Nat} {x : Int} (h : j < l.length) : (l.take (j + 1)).count x = (l.take j).count x + if l.getD j 0 = x then 1 else 0 := by
 rw [← take_next (d := 0) h, List.count_append, List.count_singleton]
 by_cases h1 : l.getD j 0 = x
 ·simp [h1]
 ·simp [h1]
def pasts (T : List (List Int)) (n : Nat) : List (List Int) := tab (fun k => pastL T k n) n
theorem pasts_len {T : List (List Int)} {n : Nat} : (pasts T n).length = n := tab_len
theorem pasts_get {T : List (List Int)} {n k : Nat} (h : k < n) : (pasts T n).getD k [] = pastL T k n := tab_get h
theorem pasts_tbl {T : List (List Int)} {n : Nat} (h : Tb8 T n) : Tbl (pasts T n) n := by
 refine ⟨tab_len, fun r hr => ?_⟩
 simp only [pasts, tab, List.mem_map, List.mem_range] at hr
 obtain ⟨k, hk, rfl⟩ := hr
 have h1 := pastL_len (k := k) h.2.2 (m := n)
 have h2 := h.2.1
 refine ⟨by omega, fun x hx => ?_⟩
 obtain ⟨a, h3, rfl, _⟩ := pastL_mem.1 hx
 omega
noncomputable def ovr (T : List (List Int)) (l : List Int) (k : Nat) : Bool := dB (∃ x ∈ l, (k : Int) ∈ T.getD x.toNat [])
theorem C_impl_over (T : List (List Int)) (l : List Int) (n : Nat) (hn : n ≤ 1000) (ht : Tbl T n) (hl : l.length ≤ 1048576) (h : ∀ x ∈ l, 0 ≤ x ∧ x < n) (Q : List AV → Prop) : mc.C f_impl_over [⟨L (L I), T⟩, ⟨L I, l⟩] Q = Q [⟨L I, upTo (ovr T l) n⟩] := by
 have hT := ht.1
 refine Mc.Ends.c (mc.ends F_impl_over ?_)
 simp (contextual := true) (maxSteps := 1000000) (disch := omega) only [↓Sd, ↓So, ↓Sk, ↓den, ↓denA, Sa, Sb, Sc, Se, O1.d, O2.d, O3.d, cmI, arI, envOf, putN, ↓reduceIte, Nat.reduceLT, Nat.reduceSub, Nat.reduceAdd, Int.reduceAdd, Int.reduceEq, Int.reduceLT, Int.reduceLE, arr_pos, arr_neg, tr_impl_over, hT]
 refine mc.lp_for (List Bool) (fun i o => [⟨L (L I), T⟩, ⟨L I, l⟩, ⟨I, (l.length : Int)⟩, ⟨I, (i : Int)⟩, ⟨L B, o⟩]) (fun i o => o = tab (ovr T (l.take i)) n) l.length 0 (List.replicate n false) _ rfl (Nat.zero_le _) ?_ ?_ ?_
 ·rw [rep_tab]; exact tab_congr fun k _ => (dB_f (by simp)).symm
 ·rintro i o hi rfl
  have hx := h _ (getD_mem (d := 0) hi)
  obtain ⟨x, hxe⟩ : ∃ x : Nat, l.getD i 0 = x := ⟨(l.getD i 0).toNat, by omega⟩
  have hxn : x < n := by omega
  have hrow := ht.row (i := x)
  have hrl : (T.getD x []).length ≤ 1048576 := (ht.2 _ (getD_mem (by omega))).1
  simp (contextual := true) (maxSteps := 1000000) (disch := omega) only [↓Sd, ↓So, ↓Sk, ↓den, ↓denA, Sa, Sb, Sc, Se, O1.d, O2.d, O3.d, cmI, arI, envOf, putN, ↓reduceIte, Nat.reduceLT, Nat.reduceSub, Nat.reduceAdd, Int.reduceAdd, Int.reduceEq, Int.reduceLT, Int.reduceLE, arr_pos, arr_neg, hT, hxe]
  refine mc.lp_for (List Bool) (fun j o => [⟨L (L I), T⟩, ⟨L I, l⟩, ⟨I, (l.length : Int)⟩, ⟨I, (i : Int)⟩, ⟨L I, T.getD x []⟩, ⟨I, ((T.getD x []).length : Int)⟩, ⟨I, (j : Int)⟩, ⟨L B, o⟩]) (fun j o => o = tab (fun k => dB (ovr T (l.take i) k = true ∨ (k : Int) ∈ (T.getD x []).take j)) n) (T.getD x []).length 0 _ _ rfl (Nat.zero_le _) ?_ ?_ ?_
  ·exact tab_congr fun k _ => by simp [dB_eq]
  ·rintro j o hj rfl
   have hy := hrow _ (getD_mem (d := 0) hj)
   simp (contextual := true) (maxSteps := 1000000) (disch := omega) only [↓Sd, ↓So, ↓Sk, ↓den, ↓denA, Sa, Sb, Sc, Se, O1.d, O2.d, O3.d, cmI, arI, envOf, putN, ↓reduceIte, Nat.reduceLT, Nat.reduceSub, Nat.reduceAdd, Int.reduceAdd, Int.reduceEq, Int.reduceLT, Int.reduceLE, arr_pos, arr_neg, tab_len, tab_set']
   refine tab_congr fun k hk => ?_
   by_cases hk2 : k = ((T.getD x []).getD j 0).toNat
   ·rw [if_pos hk2, dB_t]; exact .inr ((mem_take_next hj).2 (.inr (by omega)))
   ·rw [if_neg hk2]; refine dB_congr ?_
    rw [mem_take_next hj]
    exact ⟨fun h => h.elim .inl fun h => .inr (.inl h), fun h => h.elim .inl fun h => .inr (h.elim id fun h => absurd h (by omega))⟩
  ·rintro o rfl
   rw [List.take_length]
   simp (contextual := true) (maxSteps := 1000000) (disch := omega) only [↓Sd, ↓So, ↓Sk, ↓den, ↓denA, Sa, Sb, Sc, Se, O1.d, O2.d, O3.d, cmI, arI, envOf, putN, ↓reduceIte, Nat.reduceLT, Nat.reduceSub, Nat.reduceAdd, Int.reduceAdd, Int.reduceEq, Int.reduceLT, Int.reduceLE, arr_pos, arr_neg, ]
   refine tab_congr fun k hk => dB_congr ⟨?_, ?_⟩
   ·rintro (h | h)
    ·obtain ⟨y, h1, h2⟩ := dB_iff.1 h
     exact ⟨y, (mem_take_next hi).2 (.inl h1), h2⟩
    ·exact ⟨(x : Int), (mem_take_next hi).2 (.inr hxe.symm), by simpa using h⟩
   ·rintro ⟨y, h1, h2⟩
    rcases (mem_take_next hi).1 h1 with h | h
    ·exact .inl (dB_t ⟨y, h, h2⟩)
    ·rw [h, hxe] at h2; exact .inr (by simpa using h2)
 ·rintro o rfl
  rw [List.take_length]
  simp (contextual := true) (maxSteps := 1000000) (disch := omega) only [↓Sd, ↓So, ↓Sk, ↓den, ↓denA, Sa, Sb, Sc, Se, O1.d, O2.d, O3.d, cmI, arI, envOf, putN, ↓reduceIte, Nat.reduceLT, Nat.reduceSub, Nat.reduceAdd, Int.reduceAdd, Int.reduceEq, Int.reduceLT, Int.reduceLE, arr_pos, arr_neg, C_impl_listOf_tab (ovr T l) n (by omega)]
theorem ovr_upTo {T : List (List Int)} {p : Nat → Bool} {n k : Nat} : ovr T (upTo p n) k = dB (behind T p n k) := by
 refine dB_congr ⟨?_, ?_⟩
 ·rintro ⟨x, h1, h2⟩
  obtain ⟨a, h3, rfl, h4⟩ := upTo_mem.1 h1
  exact ⟨a, h3, h4, by simpa using h2⟩
 ·rintro ⟨a, h1, h2, h3⟩
  exact ⟨(a : Int), upTo_mem.2 ⟨a, h1, rfl, h2⟩, by simpa using h3⟩
def ahead (T : List (List Int)) (p : Nat → Bool) (n : Nat) (k : Nat) : Prop := ∃ b, b < n ∧ p b = true ∧ (b : Int) ∈ T.getD k []
theorem behind_pasts {T : List (List Int)} {p : Nat → Bool} {n k : Nat} (hk : k < n) : behind (pasts T n) p n k ↔ ahead T p n k := by
 constructor
 ·rintro ⟨a, h1, h2, h3⟩
  rw [pasts_get h1] at h3
  obtain ⟨b, h4, h5, h6⟩ := pastL_mem.1 h3
  have : b = k := by omega
  subst this
  exact ⟨a, h1, h2, h6⟩
 ·rintro ⟨b, h1, h2, h3⟩
  exact ⟨b, h1, h2, by rw [pasts_get h1]; exact pastL_mem.2 ⟨k, hk, rfl, h3⟩⟩
theorem C_spec_l2Has (l : List Int) (x : Int) (hl : l.length ≤ 1048576) (Q : List AV → Prop) : mc.C f_spec_l2Has [⟨L I, l⟩, ⟨I, x⟩] Q = Q [⟨B, dB (x ∈ l)⟩] := by
 refine Mc.Ends.c (mc.ends F_spec_l2Has ?_)
 generalize hK : dB (x ∈ l) = K
 simp (contextual := true) (maxSteps := 1000000) (disch := omega) only [↓Sd, ↓So, ↓Sk, ↓den, ↓denA, Sa, Sb, Sc, Se, O1.d, O2.d, O3.d, cmI, arI, envOf, putN, ↓reduceIte, Nat.reduceLT, Nat.reduceSub, Nat.reduceAdd, Int.reduceAdd, Int.reduceEq, Int.reduceLT, Int.reduceLE, arr_pos, arr_neg, tr_spec_l2Has]
 refine lp_all (fun i => [⟨L I, l⟩, ⟨I, x⟩, ⟨I, (i : Int)⟩]) (fun i => ¬ l.getD i 0 = x) l.length _ rfl ?_ ?_
 ·intro i hi
  simp (contextual := true) (maxSteps := 1000000) (disch := omega) only [↓Sd, ↓So, ↓Sk, ↓den, ↓denA, Sa, Sb, Sc, Se, O1.d, O2.d, O3.d, cmI, arI, envOf, putN, ↓reduceIte, Nat.reduceLT, Nat.reduceSub, Nat.reduceAdd, Int.reduceAdd, Int.reduceEq, Int.reduceLT, Int.reduceLE, arr_pos, arr_neg, ]
  intro h
  rw [← hK, dB_t]
  rw [← h]; exact getD_mem hi
 ·intro h
  simp (contextual := true) (maxSteps := 1000000) (disch := omega) only [↓Sd, ↓So, ↓Sk, ↓den, ↓denA, Sa, Sb, Sc, Se, O1.d, O2.d, O3.d, cmI, arI, envOf, putN, ↓reduceIte, Nat.reduceLT, Nat.reduceSub, Nat.reduceAdd, Int.reduceAdd, Int.reduceEq, Int.reduceLT, Int.reduceLE, arr_pos, arr_neg, ]
  rw [← hK, dB_f]
  intro hx
  obtain ⟨i, hi, rfl⟩ := List.getElem_of_mem hx
  exact h i hi (getD_lt hi)
theorem behind_mem {T : List (List Int)} {l : List Int} {n k : Nat} (h : ∀ x ∈ l, 0 ≤ x ∧ x < (n : Int)) : behind T (fun k => dB ((k : Int) ∈ l)) n k ↔ ∃ x ∈ l, (k : Int) ∈ T.getD x.toNat [] := by
 constructor
 ·rintro ⟨a, h1, h2, h3⟩
  exact ⟨(a : Int), dB_iff.1 h2, by simpa using h3⟩
 ·rintro ⟨x, h1, h2⟩
  have := h x h1
  exact ⟨x.toNat, by omega, dB_t (by rw [show ((x.toNat : Nat) : Int) = x by omega]; exact h1), h2⟩
theorem ovr_mem {T : List (List Int)} {l : List Int} {n k : Nat} (h : ∀ x ∈ l, 0 ≤ x ∧ x < (n : Int)) : ovr T l k = dB (behind T (fun k => dB ((k : Int) ∈ l)) n k) := dB_congr (behind_mem h).symm
noncomputable def nextN (s : Sy) (l : List Int) : List Int := upTo (fun k => dB (behind (steps s) (fun k => dB ((k : Int) ∈ l)) (szn s.1) k)) (szn s.1)
noncomputable def pastN (s : Sy) (l : List Int) : List Int := upTo (fun k => dB (ahead (steps s) (fun k => dB ((k : Int) ∈ l)) (szn s.1) k)) (szn s.1)
theorem C_spec_NextNumbers (s : Sy) (l : List Int) (hs : FewSy s) (hl : l.length ≤ 1048576) (Q : List AV → Prop) : mc.C f_spec_NextNumbers [⟨L V3, s.1⟩, ⟨L TR, s.2⟩, ⟨L I, l⟩] Q = Q [⟨L I, if setV s l then nextN s l else []⟩] := by
 refine Mc.Ends.c (mc.ends F_spec_NextNumbers ?_)
 simp (contextual := true) (maxSteps := 1000000) (disch := omega) only [↓Sd, ↓So, ↓Sk, ↓den, ↓denA, Sa, Sb, Sc, Se, O1.d, O2.d, O3.d, cmI, arI, envOf, putN, ↓reduceIte, Nat.reduceLT, Nat.reduceSub, Nat.reduceAdd, Int.reduceAdd, Int.reduceEq, Int.reduceLT, Int.reduceLE, arr_pos, arr_neg, tr_spec_NextNumbers, C_spec_SetValid s l hs hl]
 intro h
 have hz := szn_eq h.1
 have ht := steps_tbl h.1
 simp (contextual := true) (maxSteps := 1000000) (disch := omega) only [↓Sd, ↓So, ↓Sk, ↓den, ↓denA, Sa, Sb, Sc, Se, O1.d, O2.d, O3.d, cmI, arI, envOf, putN, ↓reduceIte, Nat.reduceLT, Nat.reduceSub, Nat.reduceAdd, Int.reduceAdd, Int.reduceEq, Int.reduceLT, Int.reduceLE, arr_pos, arr_neg, C_spec_l4Steps s hs h.1, C_spec_SizeOf s hs, if_pos h.1, C_spec_l4Marks_i l (sz s.1) (szn s.1) hz.1.symm (by omega) hl h.mem, C_spec_l4Behind (steps s) (fun k => dB ((k : Int) ∈ l)) (szn s.1) (by omega) ht.1 ht.2, C_spec_l4List_tab _ (szn s.1) (by omega : szn s.1 ≤ 1048576), if_pos h]
 rfl
theorem getD_set_ne {α : Type} {l : List α} {i j : Nat} {x d : α} (h : i ≠ j) : (l.set i x).getD j d = l.getD j d := by
 simp [List.getD_eq_getElem?_getD, List.getElem?_set, h]
def Same {α : Type} (l s : List α) (d : α) (i : Nat) : Prop := s.length = l.length ∧ ∀ j, i ≤ j → s.getD j d = l.getD j d
theorem Same.refl {α : Type} {l : List α} {d : α} {i : Nat} : Same l l d i := ⟨rfl, fun _ _ => rfl⟩
theorem Same.set {α : Type} {l s : List α} {d x : α} {i : Nat} (h : Same l s d i) : Same l (s.set i x) d (i + 1) :=
 ⟨by rw [List.length_set]; exact h.1, fun j hj => by rw [getD_set_ne (by omega)]; exact h.2 j (by omega)⟩
theorem iD {k : IntKind} {a b : Int} (h : a = b) : @Eq (Ty.int k).D a b := h
theorem upTo_few {p : Nat → Bool} {s : Sy} (h : valid s) : (upTo p (szn s.1)).length ≤ 400 := by
 have h1 := @upTo_len p (szn s.1)
 have h2 := szn_eq h
 omega
theorem ite_few {c : Prop} [Decidable c] {l : List Int} (h : c → l.length ≤ 400) : (if c then l else []).length ≤ 400 := by
 split
 ·rename_i g; exact h g
 ·simp
theorem few_i {l : List Int} (h : l.length ≤ 1048576) : Few l := h
theorem shr_nat {n k : Nat} (hk : k ≤ 60) : shI false .i64 (n : Int) (k : Int) = ((n / 2 ^ k : Nat) : Int) := by
 have h : min (k : Int).toNat IntKind.i64.bits = k := by simp [IntKind.bits]; omega
 unfold shI
 rw [h]
 simp only [Bool.false_eq_true, if_false]
 rw [Int.fdiv_eq_ediv_of_nonneg _ (Int.le_of_lt (Int.pow_pos (by omega)))]
 simp
theorem and_one {n : Nat} (h : n < 9223372036854775808) : IntKind.i64.wrap ((BitVec.ofInt IntKind.i64.bits (n : Int) &&& BitVec.ofInt IntKind.i64.bits 1).toNat : Int) = ((n % 2 : Nat) : Int) := by
 have e : (BitVec.ofInt 64 (n : Int) &&& BitVec.ofInt 64 1).toNat = n % 2 := by
  rw [BitVec.toNat_and, BitVec.toNat_ofInt, BitVec.toNat_ofInt]
  rw [show ((n : Int) % ((2 ^ 64 : Nat) : Int)).toNat = n by omega, show ((1 : Int) % ((2 ^ 64 : Nat) : Int)).toNat = 1 by decide]
  exact Nat.and_one_is_mod n
 have e2 : (BitVec.ofInt IntKind.i64.bits (n : Int) &&& BitVec.ofInt IntKind.i64.bits 1).toNat = n % 2 := e
 rw [e2]
 exact wrap_id (by omega) (by omega)
def vb (n w : Nat) : List Int := tab (fun i => ((n / 2 ^ (w - 1 - i) % 2 : Nat) : Int)) w
theorem vb_len {n w : Nat} : (vb n w).length = w := tab_len
theorem vb_bit {n w : Nat} : ∀ x ∈ vb n w, x = 0 ∨ x = 1 := by
 intro x hx
 simp only [vb, tab, List.mem_map, List.mem_range] at hx
 obtain ⟨i, _, rfl⟩ := hx
 omega
def sbN (l : List Vr) (st : List Int) : Nat → List Int
 | 0 => []
 | i + 1 => sbN l st i ++ vb (st.getD i 0 - (l.getD i (0, 0, 0)).1).toNat (bw l i).toNat
def sb (s : Sy) (st : List Int) : List Int := sbN s.1 st s.1.length
theorem bw_bd (l : List Vr) (i : Nat) : 0 ≤ bw l i ∧ bw l i ≤ 5 := bn_bd _
theorem sbN_len {l : List Vr} {st : List Int} : ∀ {i : Nat}, ((sbN l st i).length : Int) = sumN (bw l) i
 | 0 => rfl
 | i + 1 => by
  have h := bw_bd l i
  have ih := @sbN_len l st i
  simp only [sbN, sumN, List.length_append, vb_len]
  omega
theorem sb_len {s : Sy} {st : List Int} : ((sb s st).length : Int) = bc s.1 := sbN_len
theorem bc_bd {s : Sy} (h : valid s) : 0 ≤ bc s.1 ∧ bc s.1 ≤ 25 := by
 have h1 := sumN_bd (f := bw s.1) (bw_bd s.1) s.1.length
 have h2 := h.1.2
 unfold bc
 omega
theorem sbN_bit {l : List Vr} {st : List Int} : ∀ {i : Nat}, ∀ x ∈ sbN l st i, x = 0 ∨ x = 1
 | 0, x, h => by simp [sbN] at h
 | i + 1, x, h => by
  simp only [sbN, List.mem_append] at h
  exact h.elim (sbN_bit x) (vb_bit x)
theorem off_bd {s : Sy} {st : List Int} (h : valid s) (hst : inR s.1 st) {i : Nat} (hi : i < s.1.length) : ∃ m : Nat, st.getD i 0 - (s.1.getD i (0, 0, 0)).1 = m ∧ m < 20 ∧ (-10000 ≤ st.getD i 0 ∧ st.getD i 0 ≤ 10000) ∧ -10000 ≤ (s.1.getD i (0, 0, 0)).1 ∧ (s.1.getD i (0, 0, 0)).1 ≤ 10000 := by
 have h1 := hst.2 i hi
 have h2 := h.2.2.1 _ (getD_mem (d := (0, 0, 0)) hi)
 unfold vOk at h2
 exact ⟨(st.getD i 0 - (s.1.getD i (0, 0, 0)).1).toNat, by omega, by omega, by omega, by omega, by omega⟩
def cHas (c b : List Int) : Prop := ∀ i, i < c.length → c.getD i 0 = 2 ∨ c.getD i 0 = b.getD i 0
noncomputable def inC (s : Sy) (c : List Int) (n : Nat) : Bool := dB (cHas c (sb s (stN s n)))
theorem cube_len {s : Sy} {c : List Int} (hc : (c.length : Int) = bc s.1) {st : List Int} : c.length = (sb s st).length := by have := @sb_len s st; omega
def blk (s : Sy) (F c : List Int) : Prop := inC s c (num s.1 (fst0 s.1)).toNat = false ∧ ∀ x ∈ F, inC s c x.toNat = false → ∀ y ∈ (steps s).getD x.toNat [], inC s c y.toNat = false
theorem first_n {s : Sy} (h : valid s) : ∃ m : Nat, num s.1 (fst0 s.1) = m ∧ m < szn s.1 := by
 have h1 := num_bd h.2.2.1 (fst0_in h.2.2.1)
 have h2 := szn_eq h
 exact ⟨(num s.1 (fst0 s.1)).toNat, by omega, by omega⟩
theorem upTo_marks {p : Nat → Bool} {n : Nat} : tab (fun k => dB ((k : Int) ∈ upTo p n)) n = tab p n := tab_congr fun k hk => by rw [dB_upTo]; simp [hk]
theorem lset_mono {l : List Int} {n m : Int} (h : lset l n) (hm : n ≤ m) : lset l m := fun i hi => ⟨⟨(h i hi).1.1, by have := (h i hi).1.2; omega⟩, (h i hi).2⟩
theorem upTo_pos {p : Nat → Bool} {n : Nat} : 0 < (upTo p n).length ↔ ∃ k, k < n ∧ p k = true := by
 constructor
 ·intro h
  obtain ⟨k, h1, _, h3⟩ := upTo_mem.1 (getD_mem (d := 0) h)
  exact ⟨k, h1, h3⟩
 ·rintro ⟨k, h1, h2⟩
  exact List.length_pos_of_mem (upTo_mem.2 ⟨k, h1, rfl, h2⟩)
theorem wrap_u64 {n : Nat} (h : n < 18446744073709551616) : IntKind.u64.wrap (n : Int) = n := by
 unfold IntKind.wrap
 simp only [IntKind.bits, IntKind.signed]
 have : ((n : Int) % (2 : Int) ^ 64) = n := by omega
 simpa using this
theorem fd64 {n : Nat} (h : n < 4294967296) : (n : Int).fdiv (2 ^ min (Int.toNat 32) IntKind.u64.bits) = 0 := by
 have : min (Int.toNat 32) IntKind.u64.bits = 32 := by decide
 rw [this, Int.fdiv_eq_ediv_of_nonneg _ (by decide)]
 omega
theorem sh64 {n : Nat} (h : n < 4294967296) : shI false .u64 (n : Int) 32 = 0 := by
 unfold shI
 simp only [Bool.false_eq_true, if_false]
 exact fd64 h
theorem and64 {n : Nat} (h : n < 4294967296) : IntKind.u64.wrap ((BitVec.ofInt IntKind.u64.bits (n : Int) &&& BitVec.ofInt IntKind.u64.bits 4294967295).toNat : Int) = n := by
 have h1 : (BitVec.ofInt IntKind.u64.bits (n : Int) &&& BitVec.ofInt IntKind.u64.bits 4294967295).toNat = n := by
  rw [BitVec.toNat_and]
  have e1 : (BitVec.ofInt IntKind.u64.bits (n : Int)).toNat = n := by
   rw [BitVec.toNat_ofInt]
   show Int.toNat ((n : Int) % (2 : Int) ^ 64) = n
   omega
  have e2 : (BitVec.ofInt IntKind.u64.bits 4294967295).toNat = 2 ^ 32 - 1 := by decide
  rw [e1, e2, Nat.and_two_pow_sub_one_eq_mod, Nat.mod_eq_of_lt h]
 rw [h1]
 exact wrap_u64 (by omega)
theorem C_math_bits_Mul1 (n : Nat) (h : n ≤ 1048576) (Q : List AV → Prop) : mc.C f_math_bits_Mul [⟨.int .u64, (1 : Int)⟩, ⟨.int .u64, (n : Int)⟩] Q = Q [⟨.int .u64, (0 : Int)⟩, ⟨.int .u64, (n : Int)⟩] := by
 have e1 : mc.C f_math_bits_Mul64 [⟨.int .u64, (1 : Int)⟩, ⟨.int .u64, (n : Int)⟩] = fun Q => Q [⟨.int .u64, (0 : Int)⟩, ⟨.int .u64, (n : Int)⟩] := by
  funext Q
  refine Mc.Ends.c (mc.ends F_math_bits_Mul64 ?_)
  have s1 : shI false .u64 1 32 = 0 := sh64 (n := 1) (by omega)
  have s0 : shI false .u64 0 32 = 0 := sh64 (n := 0) (by omega)
  have sn := sh64 (n := n) (by omega)
  have a1 : IntKind.u64.wrap ((BitVec.ofInt IntKind.u64.bits 1 &&& BitVec.ofInt IntKind.u64.bits 4294967295).toNat : Int) = 1 := and64 (n := 1) (by omega)
  have a0 : IntKind.u64.wrap ((BitVec.ofInt IntKind.u64.bits 0 &&& BitVec.ofInt IntKind.u64.bits 4294967295).toNat : Int) = 0 := and64 (n := 0) (by omega)
  have an := and64 (n := n) (by omega)
  have w := wrap_u64 (n := n) (by omega)
  have w0 : IntKind.u64.wrap 0 = 0 := by decide
  simp (contextual := true) (maxSteps := 1000000) (disch := omega) only [↓Sd, ↓So, ↓Sk, ↓den, ↓denA, Sa, Sb, Sc, Se, O1.d, O2.d, O3.d, cmI, arI, envOf, putN, ↓reduceIte, Nat.reduceLT, Nat.reduceSub, Nat.reduceAdd, Int.reduceAdd, Int.reduceEq, Int.reduceLT, Int.reduceLE, arr_pos, arr_neg, tr_math_bits_Mul64, s1, s0, sn, a1, an, a0, w, w0, Int.zero_mul, Int.mul_zero, Int.one_mul, Int.add_zero, Int.zero_add]
 refine Mc.Ends.c (mc.ends F_math_bits_Mul ?_)
 simp (contextual := true) (maxSteps := 1000000) (disch := omega) only [↓Sd, ↓So, ↓Sk, ↓den, ↓denA, Sa, Sb, Sc, Se, O1.d, O2.d, O3.d, cmI, arI, envOf, putN, ↓reduceIte, Nat.reduceLT, Nat.reduceSub, Nat.reduceAdd, Int.reduceAdd, Int.reduceEq, Int.reduceLT, Int.reduceLE, arr_pos, arr_neg, tr_math_bits_Mul, e1]
def reps (k n : Nat) (v : Int) : List Int := List.replicate k v ++ List.replicate (n - k) 0
theorem reps_len {k n : Nat} {v : Int} (h : k ≤ n) : (reps k n v).length = n := by simp [reps]; omega
theorem reps_over0 {n : Nat} {v : Int} : overL (List.replicate n (0 : Int)) [v] = reps (min 1 n) n v := by
 cases n with
 | zero => simp [overL, reps]
 | succ n =>
  have : min 1 (n + 1) = 1 := by omega
  rw [this]
  simp [overL, reps, List.replicate_succ]
theorem reps_next {k n : Nat} {v : Int} (h : k ≤ n) : (reps k n v).take k ++ overL (((reps k n v).take n).drop k) (((reps k n v).take k).drop 0) ++ (reps k n v).drop n = reps (k + min k (n - k)) n v := by
 have e1 : (reps k n v).take k = List.replicate k v := by simp [reps]
 have e2 : (reps k n v).take n = reps k n v := List.take_of_length_le (by rw [reps_len h]; omega)
 have e3 : (reps k n v).drop n = [] := List.drop_eq_nil_of_le (by rw [reps_len h]; omega)
 have e4 : (reps k n v).drop k = List.replicate (n - k) 0 := by simp [reps]
 rw [e1, e2, e3, e4, List.drop_zero, List.append_nil]
 unfold overL reps
 rw [List.length_replicate, List.length_replicate, List.take_replicate, List.drop_replicate, ← List.append_assoc, List.replicate_append_replicate]
 congr 2
 ·omega
 ·omega
theorem C_slices_Repeat (v : Int) (n : Nat) (h : n ≤ 1048576) (Q : List AV → Prop) : mc.C f_slices_Repeat_Sint_int [⟨L I, [v]⟩, ⟨I, (n : Int)⟩] Q = Q [⟨L I, List.replicate n v⟩] := by
 refine Mc.Ends.c (mc.ends F_slices_Repeat_Sint_int ?_)
 have w1 : IntKind.u64.wrap 1 = 1 := by decide
 have w := wrap_u64 (n := n) (by omega)
 simp (contextual := true) (maxSteps := 1000000) (disch := omega) only [↓Sd, ↓So, ↓Sk, ↓den, ↓denA, Sa, Sb, Sc, Se, O1.d, O2.d, O3.d, cmI, arI, envOf, putN, ↓reduceIte, Nat.reduceLT, Nat.reduceSub, Nat.reduceAdd, Int.reduceAdd, Int.reduceEq, Int.reduceLT, Int.reduceLE, arr_pos, arr_neg, tr_slices_Repeat_Sint_int, w1, w, C_math_bits_Mul1 n h, reps_over0, List.length_replicate]
 refine mc.lp_inv (fun j us => ∃ k : Nat, us = [⟨I, (k : Int)⟩, ⟨L I, reps k n v⟩] ∧ k ≤ n ∧ (n = 0 ∨ 1 ≤ k) ∧ j = n - k) (n - min 1 n) _ ⟨min 1 n, ?_, Nat.min_le_right .., by omega, rfl⟩ ?_
 ·rw [show (if (n : Int) < 1 then (n : Int) else 1) = ((min 1 n : Nat) : Int) by omega]
 rintro j us ⟨k, rfl, i1, i2, rfl⟩
 have hl := reps_len (v := v) i1
 have l1 : (List.drop k (List.take n (reps k n v))).length = n - k := by rw [List.length_drop, List.length_take, hl]; omega
 have l2 : (List.drop 0 (List.take k (reps k n v))).length = k := by rw [List.length_drop, List.length_take, hl]; omega
 simp (contextual := true) (maxSteps := 1000000) (disch := omega) only [↓Sd, ↓So, ↓Sk, ↓den, ↓denA, Sa, Sb, Sc, Se, O1.d, O2.d, O3.d, cmI, arI, envOf, putN, ↓reduceIte, Nat.reduceLT, Nat.reduceSub, Nat.reduceAdd, Int.reduceAdd, Int.reduceEq, Int.reduceLT, Int.reduceLE, arr_pos, arr_neg, ↓wpJoin, hl, l1, l2, reps_next i1]
 refine ⟨fun g => ?_, fun g => ?_⟩
 ·have hkn : k < n := Int.ofNat_lt.1 g
  refine ⟨_, ?_, k + min k (n - k), ⟨?_, rfl⟩, by omega, by omega, rfl⟩
  ·omega
  rw [show (if ((n - k : Nat) : Int) < (k : Int) then ((n - k : Nat) : Int) else (k : Int)) = ((min k (n - k) : Nat) : Int) by omega]
  rw [wrap_id (by omega) (by omega)]
  exact (Int.natCast_add _ _).symm
 ·have hkn : ¬ k < n := fun hh => g (Int.ofNat_lt.2 hh)
  have : k = n := by omega
  subst this
  simp [reps]
def Lay (T : List (List Int)) (F : List Int) : Nat → Nat → Prop
 | 0, k => (k : Int) ∈ F
 | d + 1, k => Lay T F d k ∨ ∃ a, Lay T F d a ∧ (k : Int) ∈ T.getD a []
theorem least {P : Nat → Prop} (h : ∃ d, P d) : ∃ d, P d ∧ ∀ e, e < d → ¬ P e := by
 obtain ⟨d, hd⟩ := h
 induction d using Nat.strongRecOn with
 | ind d ih =>
  by_cases g : ∃ e, e < d ∧ P e
  ·obtain ⟨e, h1, h2⟩ := g; exact ih e h1 h2
  ·exact ⟨d, hd, fun e he hp => g ⟨e, he, hp⟩⟩
open Classical in
noncomputable def dst (T : List (List Int)) (F : List Int) (k : Nat) : Int := if h : ∃ d, Lay T F d k then ((Classical.choose (least h) : Nat) : Int) else -1
theorem Lay.up {T : List (List Int)} {F : List Int} {d e k : Nat} (h : Lay T F d k) (he : d ≤ e) : Lay T F e k := by
 induction e with
 | zero => have : d = 0 := by omega
           subst this; exact h
 | succ e ih =>
  by_cases g : d ≤ e
  ·exact .inl (ih g)
  ·have : d = e + 1 := by omega
   subst this; exact h
theorem Lay.rch {T : List (List Int)} {F : List Int} : ∀ {d k : Nat}, Lay T F d k → Rch T F k
 | 0, k, h => .base h
 | d + 1, k, h => h.elim Lay.rch fun ⟨a, h1, h2⟩ => .step (Lay.rch h1) h2
theorem rch_lay {T : List (List Int)} {F : List Int} {k : Nat} (h : Rch T F k) : ∃ d, Lay T F d k := by
 induction h with
 | base h => exact ⟨0, h⟩
 | step _ h ih => obtain ⟨d, hd⟩ := ih; exact ⟨d + 1, .inr ⟨_, hd, h⟩⟩
structure IsDst (T : List (List Int)) (F : List Int) (n : Nat) (f : Nat → Int) : Prop where
 ge : ∀ k, k < n → -1 ≤ f k
 zero : ∀ k, k < n → (f k = 0 ↔ (k : Int) ∈ F)
 pre : ∀ k, k < n → 0 < f k → ∃ a, a < n ∧ f a + 1 = f k ∧ (k : Int) ∈ T.getD a []
 nxt : ∀ a, a < n → 0 ≤ f a → ∀ k : Nat, (k : Int) ∈ T.getD a [] → 0 ≤ f k ∧ f k ≤ f a + 1
theorem IsDst.eq {T : List (List Int)} {F : List Int} {n : Nat} {f : Nat → Int} (ht : Tbl T n) (hF : ∀ x ∈ F, 0 ≤ x ∧ x < n) (h : IsDst T F n f) : ∀ k, k < n → f k = dst T F k := by
 have a1 : ∀ d k, k < n → f k = (d : Nat) → Lay T F d k := by
  intro d
  induction d with
  | zero => intro k hk h1; exact (h.zero k hk).1 h1
  | succ d ih =>
   intro k hk h1
   obtain ⟨a, b1, b2, b3⟩ := h.pre k hk (by omega)
   exact .inr ⟨a, ih a b1 (by omega), b3⟩
 have a2 : ∀ d k, Lay T F d k → k < n ∧ 0 ≤ f k ∧ f k ≤ (d : Nat) := by
  intro d
  induction d with
  | zero => intro k h1; have := hF _ h1; have hk : k < n := by omega
            have := (h.zero k hk).2 h1; exact ⟨hk, by omega, by omega⟩
  | succ d ih =>
   intro k h1
   rcases h1 with h1 | ⟨a, h1, h2⟩
   ·have := ih k h1; exact ⟨this.1, this.2.1, by omega⟩
   ·obtain ⟨b1, b2, b3⟩ := ih a h1
    have := ht.row _ h2
    have := h.nxt a b1 b2 k h2
    exact ⟨by omega, this.1, by omega⟩
 intro k hk
 unfold dst
 by_cases g : ∃ d, Lay T F d k
 ·rw [dif_pos g]
  obtain ⟨b1, b2⟩ := Classical.choose_spec (least g)
  generalize Classical.choose (least g) = d at b1 b2
  obtain ⟨-, c1, c2⟩ := a2 d k b1
  have c3 := a1 (f k).toNat k hk (by omega)
  have : ¬ (f k).toNat < d := fun hh => b2 _ hh c3
  omega
 ·rw [dif_neg g]
  have := h.ge k hk
  by_cases g2 : 0 ≤ f k
  ·exact absurd ⟨_, a1 (f k).toNat k hk (by omega)⟩ g
  ·omega
theorem dst_rch {T : List (List Int)} {F : List Int} {k : Nat} : 0 ≤ dst T F k ↔ Rch T F k := by
 unfold dst
 constructor
 ·intro h
  by_cases g : ∃ d, Lay T F d k
  ·obtain ⟨d, hd⟩ := g; exact hd.rch
  ·rw [dif_neg g] at h; omega
 ·intro h
  rw [dif_pos (rch_lay h)]; omega
theorem tab_one {n m : Nat} (hm : m < n) : (List.replicate n (-1 : Int)).set m 0 = tab (fun k => if k = m then 0 else -1) n := by
 rw [rep_tab, tab_set']
structure Bfs (T : List (List Int)) (m n : Nat) (f : Nat → Int) (q : List Nat) (ex : Nat → Prop) : Prop where
 ge : ∀ k, k < n → -1 ≤ f k
 zero : ∀ k, k < n → (f k = 0 ↔ k = m)
 pre : ∀ k, k < n → 0 < f k → ∃ a, a < n ∧ f a + 1 = f k ∧ (k : Int) ∈ T.getD a []
 inq : ∀ x ∈ q, x < n ∧ 0 ≤ f x
 sorted : q.Pairwise fun a b => f a ≤ f b
 closed : ∀ a, a < n → 0 ≤ f a → a ∉ q → ¬ ex a → ∀ k : Nat, (k : Int) ∈ T.getD a [] → 0 ≤ f k ∧ f k ≤ f a + 1
 top : ∀ k, k < n → f k + cntF (fun k => decide (0 ≤ f k)) n ≤ n
theorem cntF_congr {p q : Nat → Bool} {n : Nat} (h : ∀ k, k < n → p k = q k) : cntF p n = cntF q n := by
 unfold cntF
 rw [upTo_congr fun k hk => by rw [h k hk]]
theorem Bfs.visit {T : List (List Int)} {m n x y : Nat} {f : Nat → Int} {q : List Nat} (h : Bfs T m n f q (· = x)) (hx : x < n) (hfx : 0 ≤ f x) (hy : y < n) (hfy : f y < 0) (hm : m < n) (hT : (y : Int) ∈ T.getD x []) (hb : ∀ k, k < n → f k ≤ f x + 1) :
  Bfs T m n (fun k => if k = y then f x + 1 else f k) (q ++ [y]) (· = x) ∧ cntF (fun k => decide (0 ≤ (if k = y then f x + 1 else f k))) n + 1 = cntF (fun k => decide (0 ≤ f k)) n := by
 have hxy : ¬ x = y := by rintro rfl; omega
 have hc : cntF (fun k => decide (0 ≤ (if k = y then f x + 1 else f k))) n + 1 = cntF (fun k => decide (0 ≤ f k)) n := by
  have := cntF_set (p := fun k => decide (0 ≤ f k)) (j := y) (by simp; omega) (n := n) hy
  rw [← this]
  congr 1
  refine cntF_congr fun k _ => ?_
  by_cases g : k = y
  ·simp [g]; omega
  ·simp [g]
 refine ⟨⟨fun k hk => ?_, fun k hk => ?_, fun k hk h1 => ?_, fun z hz => ?_, ?_, fun a ha h1 h2 h3 k hk => ?_, fun k hk => ?_⟩, hc⟩
 ·have := h.ge k hk; split <;> omega
 ·have := h.zero k hk
  have := h.zero m hm
  split
  ·rename_i g; subst g
   constructor
   ·intro h1; omega
   ·intro h1; subst h1; omega
  ·assumption
 ·by_cases g : k = y
  ·subst g
   exact ⟨x, hx, by simp [hxy], hT⟩
  ·simp only [g, if_false] at h1 ⊢
   obtain ⟨a, b1, b2, b3⟩ := h.pre k hk h1
   have : ¬ a = y := by rintro rfl; omega
   exact ⟨a, b1, by simp [this, b2], b3⟩
 ·rcases List.mem_append.1 hz with hz | hz
  ·have := h.inq z hz
   refine ⟨this.1, ?_⟩
   split <;> omega
  ·simp only [List.mem_singleton] at hz
   subst hz
   exact ⟨hy, by simp; omega⟩
 ·refine List.pairwise_append.2 ⟨?_, List.pairwise_singleton _ _, ?_⟩
  ·refine h.sorted.imp_of_mem ?_
   intro a b ha hb2 hab
   have h1 := (h.inq a ha).2
   have h2 := (h.inq b hb2).2
   have e1 : ¬ a = y := by rintro rfl; omega
   have e2 : ¬ b = y := by rintro rfl; omega
   simp only [e1, e2, if_false]; exact hab
  ·intro a ha b hb2
   simp only [List.mem_singleton] at hb2
   subst hb2
   have h1 := h.inq a ha
   have e1 : ¬ a = b := by rintro rfl; omega
   simp only [e1, if_false, if_true]
   exact hb a h1.1
 ·simp only [List.mem_append, List.mem_singleton, not_or] at h2
  have e1 : ¬ a = y := h2.2
  simp only [e1, if_false] at h1 ⊢
  have := h.closed a ha h1 h2.1 h3 k hk
  have e2 : ¬ k = y := by rintro rfl; omega
  simp only [e2, if_false]; exact this
 ·have := h.top k hk
  have := h.top x hx
  split <;> omega
theorem C_impl_steps (T : List (List Int)) (m n : Nat) (hm : m < n) (hn : n ≤ 1000) (ht : Tbl T n) (Q : List AV → Prop) : mc.C f_impl_steps [⟨L (L I), T⟩, ⟨I, (m : Int)⟩] Q = Q [⟨L I, tab (dst T [(m : Int)]) n⟩] := by
 have hl := ht.1
 refine Mc.Ends.c (mc.ends F_impl_steps ?_)
 simp (contextual := true) (maxSteps := 1000000) (disch := omega) only [↓Sd, ↓So, ↓Sk, ↓den, ↓denA, Sa, Sb, Sc, Se, O1.d, O2.d, O3.d, cmI, arI, envOf, putN, ↓reduceIte, Nat.reduceLT, Nat.reduceSub, Nat.reduceAdd, Int.reduceAdd, Int.reduceEq, Int.reduceLT, Int.reduceLE, arr_pos, arr_neg, tr_impl_steps, hl, C_slices_Repeat (-1) n (by omega), List.length_replicate, tab_one hm]
 have hc0 : cntF (fun k => decide ((0 : Int) ≤ if k = m then 0 else -1)) n ≤ n := cntF_le
 refine mc.lp_inv (fun j us => ∃ (f : Nat → Int) (q : List Nat), us = [⟨L (L I), T⟩, ⟨L I, tab f n⟩, ⟨L I, q.map Int.ofNat⟩] ∧ Bfs T m n f q (fun _ => False) ∧ (∀ x q', q = x :: q' → ∀ k, k < n → f k ≤ f x + 1) ∧ q.length + cntF (fun k => decide (0 ≤ f k)) n ≤ 2000 ∧
  j = 2 * cntF (fun k => decide (0 ≤ f k)) n + q.length) _ _ ⟨fun k => if k = m then 0 else -1, [m], rfl, ⟨?_, ?_, ?_, ?_, ?_, ?_, ?_⟩, ?_, ?_, rfl⟩ ?_
 ·intro k _; split <;> omega
 ·intro k _; split <;> omega
 ·intro k _ h; split at h <;> omega
 ·intro x hx; simp only [List.mem_singleton] at hx; subst hx; exact ⟨hm, by simp⟩
 ·exact List.pairwise_singleton _ _
 ·intro a ha h1 h2
  simp only [List.mem_singleton] at h2
  simp only [h2, if_false] at h1
  omega
 ·intro k hk
  have hc := cntF_set (p := fun _ => false) (j := m) rfl (n := n) hm
  have : cntF (fun _ => false) n ≤ n := cntF_le
  rw [cntF_congr (q := fun k => if k = m then true else false) fun k _ => by by_cases g : k = m <;> simp [g]]
  split <;> omega
 ·intro x q' hq k hk
  simp only [List.cons.injEq] at hq
  rw [← hq.1]
  simp only [if_true]
  split <;> omega
 ·simp only [List.length_singleton]; omega
 rintro j us ⟨f, q, rfl, i1, i2, i3, rfl⟩
 cases q with
 | nil =>
  simp (contextual := true) (maxSteps := 1000000) (disch := omega) only [↓Sd, ↓So, ↓Sk, ↓den, ↓denA, Sa, Sb, Sc, Se, O1.d, O2.d, O3.d, cmI, arI, envOf, putN, ↓reduceIte, Nat.reduceLT, Nat.reduceSub, Nat.reduceAdd, Int.reduceAdd, Int.reduceEq, Int.reduceLT, Int.reduceLE, arr_pos, arr_neg, List.map_nil]
  refine tab_congr (IsDst.eq ht (by intro x hx; simp only [List.mem_singleton] at hx; omega) ⟨i1.ge, fun k hk => ?_, i1.pre, fun a ha h1 k hk => i1.closed a ha h1 (by simp) (by simp) k hk⟩)
  rw [i1.zero k hk]
  simp only [List.mem_singleton]
  omega
 | cons x q =>
  have hb := i2 x q rfl
  obtain ⟨hx, hfx⟩ := i1.inq x (List.mem_cons_self ..)
  have hso := List.pairwise_cons.1 i1.sorted
  have hrow := ht.row (i := x)
  have hrl : (T.getD x []).length ≤ 1048576 := (ht.2 _ (getD_mem (by omega))).1
  simp only [List.length_cons] at i3
  obtain ⟨row, hr⟩ : ∃ row, T.getD x [] = row := ⟨_, rfl⟩
  rw [hr] at hrow hrl
  have e0 : Int.ofNat x = (x : Int) := rfl
  simp (contextual := true) (maxSteps := 1000000) (disch := omega) only [↓Sd, ↓So, ↓Sk, ↓den, ↓denA, Sa, Sb, Sc, Se, O1.d, O2.d, O3.d, cmI, arI, envOf, putN, ↓reduceIte, Nat.reduceLT, Nat.reduceSub, Nat.reduceAdd, Int.reduceAdd, Int.reduceEq, Int.reduceLT, Int.reduceLE, arr_pos, arr_neg, List.map_cons, hl, e0, Int.toNat_natCast, hr, List.drop_succ_cons, List.drop_zero, List.length_cons]
  refine mc.lp_for ((Nat → Int) × List Nat) (fun j s => [⟨L (L I), T⟩, ⟨I, (x : Int)⟩, ⟨L I, row⟩, ⟨I, (row.length : Int)⟩, ⟨I, (j : Int)⟩, ⟨L I, tab s.1 n⟩, ⟨L I, s.2.map Int.ofNat⟩]) (fun j s => Bfs T m n s.1 s.2 (· = x) ∧ s.1 x = f x ∧ (∀ k, k < n → s.1 k ≤ f x + 1) ∧ (∀ y ∈ s.2, f x ≤ s.1 y) ∧
   (∀ k : Nat, (k : Int) ∈ row.take j → 0 ≤ s.1 k) ∧ s.2.length + cntF (fun k => decide (0 ≤ s.1 k)) n = q.length + cntF (fun k => decide (0 ≤ f k)) n ∧ cntF (fun k => decide (0 ≤ s.1 k)) n ≤ cntF (fun k => decide (0 ≤ f k)) n) row.length 0 (f, q) _ rfl (Nat.zero_le _)
   ⟨⟨i1.ge, i1.zero, i1.pre, fun y hy => i1.inq y (List.mem_cons_of_mem _ hy), hso.2, fun a h1 h2 h3 h4 => i1.closed a h1 h2 (by simp only [List.mem_cons, not_or]; exact ⟨h4, h3⟩) (by simp), i1.top⟩, rfl, hb, hso.1, by simp, rfl, Nat.le_refl _⟩ ?_ ?_
  ·rintro j ⟨f', q'⟩ hj ⟨a1, a2, a3, a4, a5, a6, a7⟩
   simp only at a1 a2 a3 a4 a5 a6 a7
   have hy := hrow _ (getD_mem (d := 0) hj)
   obtain ⟨y, hy2⟩ : ∃ y : Nat, row.getD j 0 = y := ⟨(row.getD j 0).toNat, by omega⟩
   have hyn : y < n := by omega
   have hyT : (y : Int) ∈ T.getD x [] := by rw [hr, ← hy2]; exact getD_mem hj
   have htop := a1.top x hx
   have hwr : IntKind.i64.wrap (f x + 1) = f x + 1 := wrap_id (by omega) (by omega)
   have hql : (q'.map Int.ofNat).length = q'.length := List.length_map ..
   simp (contextual := true) (maxSteps := 1000000) (disch := omega) only [↓Sd, ↓So, ↓Sk, ↓den, ↓denA, Sa, Sb, Sc, Se, O1.d, O2.d, O3.d, cmI, arI, envOf, putN, ↓reduceIte, Nat.reduceLT, Nat.reduceSub, Nat.reduceAdd, Int.reduceAdd, Int.reduceEq, Int.reduceLT, Int.reduceLE, arr_pos, arr_neg, ↓wpJoin, hy2, tab_len, tab_get hyn, tab_get hx, Int.toNat_natCast, tab_set', a2, hwr, hql]
   have hfx' : 0 ≤ f' x := by omega
   refine ⟨fun g => ?_, fun g => ?_⟩
   ·obtain ⟨v1, v2⟩ := a1.visit hx hfx' hyn g hm hyT (by rw [a2]; exact a3)
    rw [a2] at v1 v2
    have hxy : ¬ x = y := by rintro rfl; omega
    refine ⟨(fun k => if k = y then f x + 1 else f' k, q' ++ [y]), ⟨rfl, by simp⟩, v1, by simp [hxy, a2], ?_, ?_, ?_, ?_, ?_⟩
    ·intro k hk
     have := a3 k hk
     simp only []
     split <;> omega
    ·intro z hz
     simp only []
     split
     ·omega
     ·rename_i hzy
      rcases List.mem_append.1 hz with h | h
      ·exact a4 z h
      ·exact absurd (List.mem_singleton.1 h) hzy
    ·intro k hk
     simp only []
     split
     ·omega
     ·rename_i hky
      rcases (mem_take_next hj).1 hk with h | h
      ·exact a5 k h
      ·exact absurd (by omega) hky
    ·simp only [List.length_append, List.length_singleton]; omega
    ·simp only []; omega
   ·refine ⟨(f', q'), ⟨rfl, rfl⟩, a1, a2, a3, a4, fun k hk => ?_, a6, a7⟩
    rcases (mem_take_next hj).1 hk with h | h
    ·exact a5 k h
    ·rw [show k = y by omega]; simp only []; omega
  ·rintro ⟨f', q'⟩ ⟨a1, a2, a3, a4, a5, a6, a7⟩
   rw [List.take_length] at a5
   simp only at a1 a2 a3 a4 a5 a6 a7
   simp (contextual := true) (maxSteps := 1000000) (disch := omega) only [↓Sd, ↓So, ↓Sk, ↓den, ↓denA, Sa, Sb, Sc, Se, O1.d, O2.d, O3.d, cmI, arI, envOf, putN, ↓reduceIte, Nat.reduceLT, Nat.reduceSub, Nat.reduceAdd, Int.reduceAdd, Int.reduceEq, Int.reduceLT, Int.reduceLE, arr_pos, arr_neg, ]
   refine ⟨_, ?_, f', q', ⟨rfl, rfl⟩, ⟨a1.ge, a1.zero, a1.pre, a1.inq, a1.sorted, fun a ha h1 h2 _ k hk => ?_, a1.top⟩, fun z q'' hq k hk => ?_, by omega, rfl⟩
   ·omega
   ·by_cases hax : a = x
    ·subst hax
     rw [hr] at hk
     have h3 := hrow _ hk
     have h4 := a3 k (by omega)
     exact ⟨a5 k hk, by omega⟩
    ·exact a1.closed a ha h1 h2 hax k hk
   ·have h3 := a3 k hk
    have h4 := a4 z (by rw [hq]; exact List.mem_cons_self ..)
    omega
structure Rnd (T : List (List Int)) (p : Nat → Bool) (n : Nat) (d a0 C : Nat) (ag : Bool) (f : Nat → Int) : Prop where
 ge : ∀ k, k < n → -1 ≤ f k
 zero : ∀ k, k < n → (f k = 0 ↔ p k = true)
 pre : ∀ k, k < n → 0 < f k → ∃ a, a < n ∧ f a + 1 = f k ∧ (k : Int) ∈ T.getD a []
 le : ∀ k, k < n → f k ≤ (d : Int) + 1
 closed : ∀ a, a < n → 0 ≤ f a → (f a < d ∨ f a = d ∧ a < a0) → ∀ k : Nat, (k : Int) ∈ T.getD a [] → 0 ≤ f k ∧ f k ≤ f a + 1
 none : ag = false → ∀ k, k < n → f k ≤ d
 cnt : cntF (fun k => decide (0 ≤ f k)) n ≤ C
 less : ag = true → cntF (fun k => decide (0 ≤ f k)) n < C
theorem Rnd.visit {T : List (List Int)} {p : Nat → Bool} {n d a0 C y : Nat} {ag : Bool} {f : Nat → Int} (h : Rnd T p n d a0 C ag f) (ha : a0 < n) (hfa : f a0 = d) (hy : y < n) (hfy : f y < 0) (hT : (y : Int) ∈ T.getD a0 []) :
  Rnd T p n d a0 C true (fun k => if k = y then (d : Int) + 1 else f k) := by
 have hay : ¬ a0 = y := by rintro rfl; omega
 have hc : cntF (fun k => decide (0 ≤ (if k = y then (d : Int) + 1 else f k))) n + 1 = cntF (fun k => decide (0 ≤ f k)) n := by
  have := cntF_set (p := fun k => decide (0 ≤ f k)) (j := y) (by simp; omega) (n := n) hy
  rw [← this]
  congr 1
  refine cntF_congr fun k _ => ?_
  by_cases g : k = y
  ·simp [g]; omega
  ·simp [g]
 have hcn := h.cnt
 refine ⟨fun k hk => ?_, fun k hk => ?_, fun k hk h1 => ?_, fun k hk => ?_, fun a h1 h2 h3 k hk => ?_, fun g => (by cases g), by omega, fun _ => by omega⟩
 ·have := h.ge k hk; split <;> omega
 ·have := h.zero k hk
  split
  ·rename_i g; subst g
   constructor
   ·intro h1; omega
   ·intro h1; have := this.2 h1; omega
  ·exact this
 ·by_cases g : k = y
  ·subst g
   exact ⟨a0, ha, by simp [hay, hfa], hT⟩
  ·simp only [g, if_false] at h1 ⊢
   obtain ⟨a, b1, b2, b3⟩ := h.pre k hk h1
   have : ¬ a = y := by rintro rfl; omega
   exact ⟨a, b1, by simp [this, b2], b3⟩
 ·have := h.le k hk; split <;> omega
 ·by_cases e1 : a = y
  ·simp only [e1, if_true] at h3; omega
  ·simp only [e1, if_false] at h2 h3 ⊢
   have := h.closed a h1 h2 h3 k hk
   have e2 : ¬ k = y := by rintro rfl; omega
   simp only [e2, if_false]; exact this
theorem Rnd.skip {T : List (List Int)} {p : Nat → Bool} {n d a0 C : Nat} {ag : Bool} {f : Nat → Int} (h : Rnd T p n d a0 C ag f) (ht : Tbl T n) (hx : f a0 = d → ∀ k : Nat, (k : Int) ∈ T.getD a0 [] → 0 ≤ f k) : Rnd T p n d (a0 + 1) C ag f := by
 refine ⟨h.ge, h.zero, h.pre, h.le, fun a h1 h2 h3 k hk => ?_, h.none, h.cnt, h.less⟩
 by_cases e : a = a0
 ·subst e
  rcases h3 with h3 | h3
  ·exact h.closed a h1 h2 (.inl h3) k hk
  ·have h4 := ht.row _ hk
   have h5 := h.le k (by omega)
   exact ⟨hx h3.1 k hk, by omega⟩
 ·refine h.closed a h1 h2 (h3.imp_right fun h4 => ⟨h4.1, ?_⟩) k hk
  omega
theorem C_spec_l5Steps (T : List (List Int)) (p : Nat → Bool) (F : List Int) (n : Nat) (hn : n ≤ 1000) (ht : Tbl T n) (hF : ∀ x ∈ F, 0 ≤ x ∧ x < n) (hp : ∀ k, k < n → (p k = true ↔ (k : Int) ∈ F)) (Q : List AV → Prop) :
  mc.C f_spec_l5Steps [⟨L (L I), T⟩, ⟨L B, tab p n⟩] Q = Q [⟨L I, tab (dst T F) n⟩] := by
 have hl := ht.1
 refine Mc.Ends.c (mc.ends F_spec_l5Steps ?_)
 simp (contextual := true) (maxSteps := 1000000) (disch := omega) only [↓Sd, ↓So, ↓Sk, ↓den, ↓denA, Sa, Sb, Sc, Se, O1.d, O2.d, O3.d, cmI, arI, envOf, putN, ↓reduceIte, Nat.reduceLT, Nat.reduceSub, Nat.reduceAdd, Int.reduceAdd, Int.reduceEq, Int.reduceLT, Int.reduceLE, arr_pos, arr_neg, tr_spec_l5Steps]
 refine mc.lp_for (List Int) (fun i o => [⟨L (L I), T⟩, ⟨L B, tab p n⟩, ⟨I, (i : Int)⟩, ⟨L I, o⟩]) (fun i o => o = tab (fun k => if p k = true then 0 else -1) i) n 0 [] _ rfl (Nat.zero_le _) rfl ?_ ?_
 ·rintro i o hi rfl
  simp (contextual := true) (maxSteps := 1000000) (disch := omega) only [↓Sd, ↓So, ↓Sk, ↓den, ↓denA, Sa, Sb, Sc, Se, O1.d, O2.d, O3.d, cmI, arI, envOf, putN, ↓reduceIte, Nat.reduceLT, Nat.reduceSub, Nat.reduceAdd, Int.reduceAdd, Int.reduceEq, Int.reduceLT, Int.reduceLE, arr_pos, arr_neg, ↓wpJoin, hl, tab_len, tab_get hi]
  refine ⟨fun g => ?_, fun g => ?_⟩
  ·rw [← tab_next]; simp [g]
  ·rw [← tab_next]; simp [g]
 rintro o rfl
 obtain ⟨f0, hf0⟩ : ∃ f0 : Nat → Int, (fun k => if p k = true then (0 : Int) else -1) = f0 := ⟨_, rfl⟩
 have h0 : ∀ k, (p k = true → f0 k = 0) ∧ (¬ p k = true → f0 k = -1) := fun k => by rw [← hf0]; exact ⟨fun g => by simp [g], fun g => by simp [g]⟩
 rw [hf0]
 clear hf0
 simp (contextual := true) (maxSteps := 1000000) (disch := omega) only [↓Sd, ↓So, ↓Sk, ↓den, ↓denA, Sa, Sb, Sc, Se, O1.d, O2.d, O3.d, cmI, arI, envOf, putN, ↓reduceIte, Nat.reduceLT, Nat.reduceSub, Nat.reduceAdd, Int.reduceAdd, Int.reduceEq, Int.reduceLT, Int.reduceLE, arr_pos, arr_neg, hl]
 refine mc.lp_inv (fun j us => ∃ (f : Nat → Int) (ag : Bool) (d : Nat), us = [⟨L (L I), T⟩, ⟨B, ag⟩, ⟨I, (d : Int)⟩, ⟨L I, tab f n⟩] ∧ (∀ k, k < n → -1 ≤ f k) ∧ (∀ k, k < n → (f k = 0 ↔ p k = true)) ∧ (∀ k, k < n → 0 < f k → ∃ a, a < n ∧ f a + 1 = f k ∧ (k : Int) ∈ T.getD a []) ∧
  (∀ a, a < n → 0 ≤ f a → f a < d → ∀ k : Nat, (k : Int) ∈ T.getD a [] → 0 ≤ f k ∧ f k ≤ f a + 1) ∧ (∀ k, k < n → f k ≤ d) ∧ (ag = false → ∀ k, k < n → f k < d) ∧ (ag = true → d + cntF (fun k => decide (0 ≤ f k)) n ≤ n) ∧
  j = if ag = true then cntF (fun k => decide (0 ≤ f k)) n + 1 else 0) _ _ ⟨f0, true, 0, rfl, fun k _ => ?_, fun k _ => ?_, fun k _ h => ?_, fun a _ h1 h2 => (by omega), fun k _ => ?_, fun g => (by cases g), fun _ => ?_, rfl⟩ ?_
 ·have := h0 k
  by_cases g : p k = true
  ·have := this.1 g; omega
  ·have := this.2 g; omega
 ·have := h0 k
  by_cases g : p k = true
  ·simp [g, this.1 g]
  ·simp [g, this.2 g]
 ·have := h0 k
  by_cases g : p k = true
  ·have := this.1 g; omega
  ·have := this.2 g; omega
 ·have := h0 k
  by_cases g : p k = true
  ·have := this.1 g; omega
  ·have := this.2 g; omega
 ·have : cntF (fun k => decide (0 ≤ f0 k)) n ≤ n := cntF_le
  omega
 rintro j us ⟨f, ag, d, rfl, i1, i2, i3, i4, i5, i6, i7, rfl⟩
 cases ag with
 | false =>
  simp (contextual := true) (maxSteps := 1000000) (disch := omega) only [↓Sd, ↓So, ↓Sk, ↓den, ↓denA, Sa, Sb, Sc, Se, O1.d, O2.d, O3.d, cmI, arI, envOf, putN, ↓reduceIte, Nat.reduceLT, Nat.reduceSub, Nat.reduceAdd, Int.reduceAdd, Int.reduceEq, Int.reduceLT, Int.reduceLE, arr_pos, arr_neg, ]
  exact tab_congr (IsDst.eq ht hF ⟨i1, fun k hk => by rw [i2 k hk, hp k hk], i3, fun a ha h1 k hk => i4 a ha h1 (i6 rfl a ha) k hk⟩)
 | true =>
  have i7 := i7 rfl
  simp (contextual := true) (maxSteps := 1000000) (disch := omega) only [↓Sd, ↓So, ↓Sk, ↓den, ↓denA, Sa, Sb, Sc, Se, O1.d, O2.d, O3.d, cmI, arI, envOf, putN, ↓reduceIte, Nat.reduceLT, Nat.reduceSub, Nat.reduceAdd, Int.reduceAdd, Int.reduceEq, Int.reduceLT, Int.reduceLE, arr_pos, arr_neg, ]
  generalize hC : cntF (fun k => decide (0 ≤ f k)) n = C at *
  refine mc.lp_for ((Nat → Int) × Bool) (fun a s => [⟨L (L I), T⟩, ⟨B, s.2⟩, ⟨I, (d : Int)⟩, ⟨I, (a : Int)⟩, ⟨L I, tab s.1 n⟩]) (fun a s => Rnd T p n d a C s.2 s.1) n 0 (f, false) _ rfl (Nat.zero_le _)
   ⟨i1, i2, i3, fun k hk => Int.le_trans (i5 k hk) (by omega), fun a ha h1 h2 k hk => i4 a ha h1 (h2.elim id fun h => by omega) k hk, fun _ => i5, by rw [hC]; exact Nat.le_refl _, fun g => (by cases g)⟩ ?_ ?_
  ·rintro a0 ⟨f1, ag1⟩ ha0 hR
   simp only at hR
   obtain ⟨row, hr⟩ : ∃ row, T.getD a0 [] = row := ⟨_, rfl⟩
   have hrow := ht.row (i := a0)
   have hrl : (T.getD a0 []).length ≤ 1048576 := (ht.2 _ (getD_mem (by omega))).1
   rw [hr] at hrow hrl
   simp (contextual := true) (maxSteps := 1000000) (disch := omega) only [↓Sd, ↓So, ↓Sk, ↓den, ↓denA, Sa, Sb, Sc, Se, O1.d, O2.d, O3.d, cmI, arI, envOf, putN, ↓reduceIte, Nat.reduceLT, Nat.reduceSub, Nat.reduceAdd, Int.reduceAdd, Int.reduceEq, Int.reduceLT, Int.reduceLE, arr_pos, arr_neg, hl]
   refine mc.lp_for ((Nat → Int) × Bool) (fun i s => [⟨L (L I), T⟩, ⟨B, s.2⟩, ⟨I, (d : Int)⟩, ⟨I, (a0 : Int)⟩, ⟨I, (i : Int)⟩, ⟨L I, tab s.1 n⟩]) (fun i s => Rnd T p n d a0 C s.2 s.1 ∧ ∀ k : Nat, (k : Int) ∈ row.take i → s.1 a0 = d → 0 ≤ s.1 k) row.length 0 (f1, ag1) _ rfl (Nat.zero_le _) ⟨hR, by simp⟩ ?_ ?_
   ·rintro i ⟨f2, ag2⟩ hi ⟨b1, b2⟩
    simp only at b1 b2
    have hy := hrow _ (getD_mem (d := 0) hi)
    obtain ⟨y, hy2⟩ : ∃ y : Nat, row.getD i 0 = y := ⟨(row.getD i 0).toNat, by omega⟩
    have hyn : y < n := by omega
    have hwr : IntKind.i64.wrap ((d : Int) + 1) = (d : Int) + 1 := wrap_id (by omega) (by omega)
    simp (contextual := true) (maxSteps := 1000000) (disch := omega) only [↓Sd, ↓So, ↓Sk, ↓den, ↓denA, Sa, Sb, Sc, Se, O1.d, O2.d, O3.d, cmI, arI, envOf, putN, ↓reduceIte, Nat.reduceLT, Nat.reduceSub, Nat.reduceAdd, Int.reduceAdd, Int.reduceEq, Int.reduceLT, Int.reduceLE, arr_pos, arr_neg, ↓wpJoin, hl, hr, hy2, tab_len, tab_get hyn, tab_get ha0, Int.toNat_natCast, tab_set', hwr]
    refine ⟨fun g => ⟨fun g2 => ?_, fun g2 => ?_⟩, fun g => ?_⟩
    ·have hv := b1.visit ha0 g hyn g2 (by rw [hr, ← hy2]; exact getD_mem hi)
     refine ⟨(fun k => if k = y then (d : Int) + 1 else f2 k, true), ⟨rfl, rfl⟩, hv, fun k hk h3 => ?_⟩
     simp only []
     split
     ·omega
     ·rename_i hky
      rcases (mem_take_next hi).1 hk with h | h
      ·exact b2 k h g
      ·exact absurd (by omega) hky
    ·refine ⟨(f2, ag2), ⟨rfl, rfl⟩, b1, fun k hk h3 => ?_⟩
     rcases (mem_take_next hi).1 hk with h | h
     ·exact b2 k h h3
     ·rw [show k = y by omega]; simp only []; omega
    ·exact ⟨(f2, ag2), ⟨rfl, rfl⟩, b1.skip ht fun h => absurd h g⟩
   ·rintro ⟨f2, ag2⟩ ⟨b1, b2⟩
    rw [List.take_length] at b2
    simp only at b1 b2
    simp (contextual := true) (maxSteps := 1000000) (disch := omega) only [↓Sd, ↓So, ↓Sk, ↓den, ↓denA, Sa, Sb, Sc, Se, O1.d, O2.d, O3.d, cmI, arI, envOf, putN, ↓reduceIte, Nat.reduceLT, Nat.reduceSub, Nat.reduceAdd, Int.reduceAdd, Int.reduceEq, Int.reduceLT, Int.reduceLE, arr_pos, arr_neg, hl, hr]
    exact ⟨(f2, ag2), ⟨rfl, rfl⟩, b1.skip ht fun h k hk => b2 k (by rw [← hr]; exact hk) h⟩
  ·rintro ⟨f1, ag1⟩ hR
   simp only at hR
   have hwr : IntKind.i64.wrap ((d : Int) + 1) = (d : Int) + 1 := wrap_id (by omega) (by omega)
   simp (contextual := true) (maxSteps := 1000000) (disch := omega) only [↓Sd, ↓So, ↓Sk, ↓den, ↓denA, Sa, Sb, Sc, Se, O1.d, O2.d, O3.d, cmI, arI, envOf, putN, ↓reduceIte, Nat.reduceLT, Nat.reduceSub, Nat.reduceAdd, Int.reduceAdd, Int.reduceEq, Int.reduceLT, Int.reduceLE, arr_pos, arr_neg, hl, hwr]
   have hcnt := hR.cnt
   refine ⟨_, ?_, f1, ag1, d + 1, ⟨rfl, by rw [Int.natCast_add]; rfl, rfl⟩, hR.ge, hR.zero, hR.pre, fun a ha h1 h2 k hk => hR.closed a ha h1 ?_ k hk, fun k hk => ?_, fun g k hk => ?_, fun g => ?_, rfl⟩
   ·cases ag1 with
    | true => have := hR.less rfl; simp only [if_true]; omega
    | false => simp
   ·by_cases g : f1 a < d
    ·exact .inl g
    ·exact .inr ⟨by omega, ha⟩
   ·have := hR.le k hk; omega
   ·have := hR.none g k hk; omega
   ·have := hR.less g; omega
def IsTop (l : List Int) (M : Int) : Prop := M ∈ l ∧ ∀ x ∈ l, x ≤ M
theorem IsTop.eq {l : List Int} {M N : Int} (h : IsTop l M) (h2 : IsTop l N) : M = N := Int.le_antisymm (h2.2 _ h.1) (h.2 _ h2.1)
end Go.Proofs.YtmlicpnoccdcdaaGreat
