/- What the trees come to: plain mathematics; no condition. -/
import Derived.Test.YthapopegchnhlaaGreatSmMath0
namespace Go.Proofs.YthapopegchnhlaaGreat
open Go Go.Sm Go.Sm.Q
set_option linter.unusedSimpArgs false
set_option linter.unusedVariables false
set_option maxHeartbeats 4000000 in
theorem C_spec_l20Later (t : Tm) (RW : List (List Int)) (P wl : Nat → Nat → Bool) (s m k : Nat) (ho : t.1 = 6 ∨ t.1 = 7) (hA : 0 ≤ t.2.2.1 ∧ t.2.2.1 < k) (hB : 0 ≤ t.2.2.2 ∧ t.2.2.2 < k) (hsm : s < m) (hm : m ≤ 60) (hRl : k ≤ RW.length) (hRg : ∀ a, a < k → RW.getD a [] = bR m (P a)) (Q : List AV → Prop) :
  mc.C f_spec_l20Later [⟨I, t.1⟩, ⟨I, t.2.1⟩, ⟨I, t.2.2.1⟩, ⟨I, t.2.2.2⟩, ⟨L (L I), RW⟩, ⟨I, (s : Int)⟩, ⟨I, (m : Int)⟩] Q = Q [⟨L I, bR m (rwB t P wl s m)⟩] := by
 refine Mc.Ends.c (mc.ends F_spec_l20Later ?_)
 obtain ⟨a, ha⟩ : ∃ a : Nat, t.2.2.1 = a := ⟨t.2.2.1.toNat, by omega⟩
 obtain ⟨b, hb⟩ : ∃ b : Nat, t.2.2.2 = b := ⟨t.2.2.2.toNat, by omega⟩
 have hak : a < k := by omega
 have hbk : b < k := by omega
 obtain ⟨st, hst⟩ : ∃ st, decide (t.1 = 7) = st := ⟨_, rfl⟩
 have hend : ∀ p, xs (hop t P wl s m) s m st (p + 2) = rwB t P wl s m := fun p => by rw [← hst]; exact xs_end ho
 obtain ⟨hp, hhp⟩ : ∃ hp, hop t P wl s m = hp := ⟨_, rfl⟩
 have hhop : ∀ i x, hp i x = if t.1 = 6 then P b i || (P a i && x) else P b i && (P a i || x) := fun i x => by
  rw [← hhp, hop, if_neg (by omega), if_neg (by omega), if_neg (by omega), if_neg (by omega), if_neg (by omega), if_neg (by omega), ha, hb, Int.toNat_natCast, Int.toNat_natCast]
 rw [hhp] at hend
 rw [ha, hb]
 simp (contextual := true) (maxSteps := 1000000) (disch := omega) only [↓Sd, ↓So, ↓Sk, ↓den, ↓denA, Sa, Sb, Sc, Se, O1.d, O2.d, O3.d, cmI, arI, envOf, putN, ↓reduceIte, Nat.reduceLT, Nat.reduceSub, Nat.reduceAdd, Int.reduceAdd, Int.reduceEq, Int.reduceLT, Int.reduceLE, arr_pos, arr_neg, tr_spec_l20Later]
 refine mc.lp_for Unit (fun i _ => [⟨L (L I), RW⟩, ⟨I, (s : Int)⟩, ⟨I, (m : Int)⟩, ⟨I, (i : Int)⟩, ⟨I, t.1⟩, ⟨I, t.2.1⟩, ⟨I, (a : Int)⟩, ⟨I, (b : Int)⟩, ⟨L I, tab (fun _ => bt st) i⟩]) (fun _ _ => True) m 0 () _ rfl (Nat.zero_le _) trivial ?_ ?_
 ·rintro i - hi -
  simp (contextual := true) (maxSteps := 1000000) (disch := omega) only [↓Sd, ↓So, ↓Sk, ↓den, ↓denA, Sa, Sb, Sc, Se, O1.d, O2.d, O3.d, cmI, arI, envOf, putN, ↓reduceIte, Nat.reduceLT, Nat.reduceSub, Nat.reduceAdd, Int.reduceAdd, Int.reduceEq, Int.reduceLT, Int.reduceLE, arr_pos, arr_neg, ↓wpJoin, tab_len]
  refine ⟨fun g => ?_, fun g => ?_⟩
  ·rw [← tab_next, ← hst, decide_eq_true g]; rfl
  ·rw [← tab_next, ← hst, decide_eq_false g]; rfl
 rintro - -
 simp (contextual := true) (maxSteps := 1000000) (disch := omega) only [↓Sd, ↓So, ↓Sk, ↓den, ↓denA, Sa, Sb, Sc, Se, O1.d, O2.d, O3.d, cmI, arI, envOf, putN, ↓reduceIte, Nat.reduceLT, Nat.reduceSub, Nat.reduceAdd, Int.reduceAdd, Int.reduceEq, Int.reduceLT, Int.reduceLE, arr_pos, arr_neg, ]
 refine mc.lp_for Unit (fun p _ => [⟨L (L I), RW⟩, ⟨I, (s : Int)⟩, ⟨I, (m : Int)⟩, ⟨I, (p : Int)⟩, ⟨I, t.1⟩, ⟨I, t.2.1⟩, ⟨I, (a : Int)⟩, ⟨I, (b : Int)⟩, ⟨L I, bR m (xs hp s m st p)⟩]) (fun _ _ => True) (m + 1) 0 () _ rfl (Nat.zero_le _) trivial ?_ ?_
 ·rintro p - hp2 -
  obtain ⟨x, hx⟩ : ∃ x, xs hp s m st p = x := ⟨_, rfl⟩
  have hx1 : xs hp s m st (p + 1) = gq hp m (x s) := by rw [xs, hx]
  rw [hx, hx1]
  obtain ⟨w, hwx⟩ : ∃ w, x s = w := ⟨_, rfl⟩
  rw [hwx]
  simp (contextual := true) (maxSteps := 1000000) (disch := omega) only [↓Sd, ↓So, ↓Sk, ↓den, ↓denA, Sa, Sb, Sc, Se, O1.d, O2.d, O3.d, cmI, arI, envOf, putN, ↓reduceIte, Nat.reduceLT, Nat.reduceSub, Nat.reduceAdd, Int.reduceAdd, Int.reduceEq, Int.reduceLT, Int.reduceLE, arr_pos, arr_neg, ]
  refine mc.lp_down Unit (fun i _ => [⟨L (L I), RW⟩, ⟨I, (s : Int)⟩, ⟨I, (m : Int)⟩, ⟨I, (p : Int)⟩, ⟨I, (i : Int) - 1⟩, ⟨I, t.1⟩, ⟨I, t.2.1⟩, ⟨I, (a : Int)⟩, ⟨I, (b : Int)⟩, ⟨L I, bR m (fun k => if i ≤ k then gq hp m w k else x k)⟩]) (fun i _ => i ≤ m) m () _ ?_ (Nat.le_refl _) ?_ ?_
  ·have : bR m x = bR m (fun k => if m ≤ k then gq hp m w k else x k) := tab_congr fun k hk => by
    dsimp only
    rw [if_neg (by omega)]
   rw [← this]
  ·rintro i - him
   have hi : i < m := by omega
   have him1 : i ≤ m := by omega
   have hset := bR_set (hp := hp) (w := w) (x := x) hi
   have hgi : gq hp m w i = hp i (gq hp m w (i + 1)) := gq_s hi
   have hbe : (bR m (fun k => if i + 1 ≤ k then gq hp m w k else x k)).getD (if i + 1 = m then s else i + 1) 0 = bt (gq hp m w (i + 1)) := by
    by_cases e : i + 1 = m
    ·rw [if_pos e, bR_get hsm, if_neg (by omega), e, gq_m, hwx]
    ·rw [if_neg e, bR_get (by omega : i + 1 < m), if_pos (Nat.le_refl _)]
   obtain ⟨row, hrow⟩ : ∃ row, bR m (fun k => if i + 1 ≤ k then gq hp m w k else x k) = row := ⟨_, rfl⟩
   have hrl : row.length = m := by rw [← hrow, bR_len]
   obtain ⟨nx, hnx⟩ : ∃ nx, (if i + 1 = m then s else i + 1) = nx := ⟨_, rfl⟩
   have hnm : nx < m := by rw [← hnx]; split <;> omega
   rw [hrow] at hset hbe ⊢
   rw [hnx] at hbe
   rw [← hset, hgi, hhop]
   obtain ⟨y, hy⟩ : ∃ y, gq hp m w (i + 1) = y := ⟨_, rfl⟩
   rw [hy] at hbe ⊢
   have ga := bR_get (m := m) (ρ := P a) hi
   have gb := bR_get (m := m) (ρ := P b) hi
   clear hset hgi hx1 hend hhop
   simp (contextual := true) (maxSteps := 1000000) (disch := omega) only [↓Sd, ↓So, ↓Sk, ↓den, ↓denA, Sa, Sb, Sc, Se, O1.d, O2.d, O3.d, cmI, arI, envOf, putN, ↓reduceIte, Nat.reduceLT, Nat.reduceSub, Nat.reduceAdd, Int.reduceAdd, Int.reduceEq, Int.reduceLT, Int.reduceLE, arr_pos, arr_neg, ↓wpJoin, C_spec_l20Next i s m (by omega) hi, hnx, hRg a hak, hRg b hbk, bR_len, ga, gb, hbe, C_spec_l1Truth]
   generalize P b i = pb
   generalize P a i = pa
   cases pb <;> cases pa <;> cases y <;> simp [bt, him1]
  ·rintro - -
   simp (contextual := true) (maxSteps := 1000000) (disch := omega) only [↓Sd, ↓So, ↓Sk, ↓den, ↓denA, Sa, Sb, Sc, Se, O1.d, O2.d, O3.d, cmI, arI, envOf, putN, ↓reduceIte, Nat.reduceLT, Nat.reduceSub, Nat.reduceAdd, Int.reduceAdd, Int.reduceEq, Int.reduceLT, Int.reduceLE, arr_pos, arr_neg, ]
   have : bR m (fun k => if 0 ≤ k then gq hp m w k else x k) = bR m (gq hp m w) := tab_congr fun k _ => by
    dsimp only
    rw [if_pos (Nat.zero_le _)]
   rw [this]
 ·rintro - -
  obtain ⟨q, rfl⟩ : ∃ q, m = q + 1 := ⟨m - 1, by omega⟩
  have := hend q
  simp (contextual := true) (maxSteps := 1000000) (disch := omega) only [↓Sd, ↓So, ↓Sk, ↓den, ↓denA, Sa, Sb, Sc, Se, O1.d, O2.d, O3.d, cmI, arI, envOf, putN, ↓reduceIte, Nat.reduceLT, Nat.reduceSub, Nat.reduceAdd, Int.reduceAdd, Int.reduceEq, Int.reduceLT, Int.reduceLE, arr_pos, arr_neg, ]
  rw [show q + 1 + 1 = q + 2 from rfl, this]
theorem putM_self {x : List Int} : ∀ {l : List (List Int)}, x ∈ putM x l
 | [] => by simp [putM]
 | y :: l => by
  rw [putM]
  split
  ·rename_i h; rw [h]; exact List.mem_cons_self ..
  ·split
   ·exact List.mem_cons_self ..
   ·exact List.mem_cons_of_mem _ putM_self
theorem putM_old {x z : List Int} : ∀ {l : List (List Int)}, z ∈ l → z ∈ putM x l
 | [], h => by cases h
 | y :: l, h => by
  rw [putM]
  split
  ·exact h
  ·split
   ·exact List.mem_cons_of_mem _ h
   ·rcases List.mem_cons.1 h with rfl | h
    ·exact List.mem_cons_self ..
    ·exact List.mem_cons_of_mem _ (putM_old h)
theorem nxtN_use {s : Sy} {st : List Int} : ∀ {k r : Nat}, r < k → ¬ useM s.1 (s.2.getD r ([], [], [])) st = [] → useM s.1 (s.2.getD r ([], [], [])) st ∈ nxtN s st k
 | 0, r, h, _ => absurd h (Nat.not_lt_zero _)
 | k + 1, r, h, h1 => by
  rw [nxtN]
  by_cases e : r = k
  ·subst e
   rw [if_neg h1]
   exact putM_self
  ·have ih := nxtN_use (k := k) (by omega) h1
   split
   ·exact ih
   ·exact putM_old ih
def folP (s : Sy) (a b : List Int) : Prop := if nxt s a = [] then a = b else 0 ≤ rbt s a b
theorem fol_mem {s : Sy} {a b : List Int} (h : ¬ nxt s a = []) : 0 ≤ rbt s a b ↔ b ∈ nxt s a := by
 constructor
 ·intro h1
  obtain ⟨r, _, h3, h4, h5⟩ := rbt_spec h1
  rw [← h5]
  exact nxtN_use h3 h4
 ·intro h1
  obtain ⟨r, h3, h4, h5⟩ := nxtN_rule h1
  exact fst1_ge h3 (decide_eq_true ⟨by rw [h4]; exact h5, h4⟩)
theorem C_spec_l3Follows (s : Sy) (a b : List Int) (h : valid s) (ha : inR s.1 a) (hb : inR s.1 b) (Q : List AV → Prop) : mc.C f_spec_l3Follows [⟨L V3, s.1⟩, ⟨L TR, s.2⟩, ⟨L I, a⟩, ⟨L I, b⟩] Q = Q [⟨B, dB (folP s a b)⟩] := by
 refine Mc.Ends.c (mc.ends F_spec_l3Follows ?_)
 have hla : a.length ≤ 1048576 := by have := ha.1; have := h.1.2; omega
 have hlb : b.length ≤ 1048576 := by have := hb.1; have := h.1.2; omega
 have hnl := @nxt_len s a h
 have hni := @nxt_in s a
 generalize hK : dB (folP s a b) = K
 unfold folP at hK
 simp (contextual := true) (maxSteps := 1000000) (disch := omega) only [↓Sd, ↓So, ↓Sk, ↓den, ↓denA, Sa, Sb, Sc, Se, O1.d, O2.d, O3.d, cmI, arI, envOf, putN, ↓reduceIte, Nat.reduceLT, Nat.reduceSub, Nat.reduceAdd, Int.reduceAdd, Int.reduceEq, Int.reduceLT, Int.reduceLE, arr_pos, arr_neg, tr_spec_l3Follows, C_spec_l2Next s a h ha, C_spec_l2Same a b hla hlb]
 refine ⟨fun g => ?_, fun g => ?_⟩
 ·rw [if_pos (List.eq_nil_of_length_eq_zero (by omega))] at hK
  rw [← hK, ← dB_eq]
 ·have hne : ¬ nxt s a = [] := fun e => g (by rw [e]; rfl)
  rw [if_neg hne] at hK
  refine lp_all (fun i => [⟨L I, b⟩, ⟨I, (i : Int)⟩, ⟨L (L I), nxt s a⟩]) (fun i => ¬ (nxt s a).getD i [] = b) (nxt s a).length _ rfl ?_ ?_
  ·intro i hi
   have hx := hni _ (getD_mem (d := []) hi)
   have hxl : ((nxt s a).getD i []).length ≤ 1048576 := by have := hx.1; have := h.1.2; omega
   simp (contextual := true) (maxSteps := 1000000) (disch := omega) only [↓Sd, ↓So, ↓Sk, ↓den, ↓denA, Sa, Sb, Sc, Se, O1.d, O2.d, O3.d, cmI, arI, envOf, putN, ↓reduceIte, Nat.reduceLT, Nat.reduceSub, Nat.reduceAdd, Int.reduceAdd, Int.reduceEq, Int.reduceLT, Int.reduceLE, arr_pos, arr_neg, C_spec_l2Same ((nxt s a).getD i []) b hxl hlb]
   intro e
   rw [← hK, dB_t]
   exact (fol_mem hne).2 (by rw [← e]; exact getD_mem hi)
  ·intro hp
   simp (contextual := true) (maxSteps := 1000000) (disch := omega) only [↓Sd, ↓So, ↓Sk, ↓den, ↓denA, Sa, Sb, Sc, Se, O1.d, O2.d, O3.d, cmI, arI, envOf, putN, ↓reduceIte, Nat.reduceLT, Nat.reduceSub, Nat.reduceAdd, Int.reduceAdd, Int.reduceEq, Int.reduceLT, Int.reduceLE, arr_pos, arr_neg, ]
   rw [← hK, dB_f]
   intro e
   have := (fol_mem hne).1 e
   obtain ⟨i, hi, rfl⟩ := List.getElem_of_mem this
   exact hp i hi (getD_lt hi)
def atW (S R : List (List Int)) (i : Nat) : List Int := if i < S.length then S.getD i [] else R.getD ((i - S.length) % R.length) []
theorem atW_in {S R : List (List Int)} {i : Nat} (h : i < S.length + R.length) : atW S R i = (S ++ R).getD i [] := by
 unfold atW
 by_cases e : i < S.length
 ·rw [if_pos e, List.getD_eq_getElem?_getD, List.getD_eq_getElem?_getD, List.getElem?_append_left e]
 ·rw [if_neg e, Nat.mod_eq_of_lt (by omega), List.getD_eq_getElem?_getD, List.getD_eq_getElem?_getD, List.getElem?_append_right (by omega)]
theorem atW_end {S R : List (List Int)} (h : 0 < R.length) : atW S R (S.length + R.length) = R.getD 0 [] := by
 unfold atW
 rw [if_neg (by omega), Nat.add_sub_cancel_left, Nat.mod_self]
theorem C_spec_l3At (S R : List (List Int)) (i : Nat) (hR : 0 < R.length) (hb : S.length + R.length ≤ 3000000) (hi : i ≤ 3000000) (Q : List AV → Prop) : mc.C f_spec_l3At [⟨L (L I), S⟩, ⟨L (L I), R⟩, ⟨I, (i : Int)⟩] Q = Q [⟨L I, atW S R i⟩] := by
 refine Mc.Ends.c (mc.ends F_spec_l3At ?_)
 unfold atW
 by_cases e : i < S.length
 ·rw [if_pos e]
  simp (contextual := true) (maxSteps := 1000000) (disch := omega) only [↓Sd, ↓So, ↓Sk, ↓den, ↓denA, Sa, Sb, Sc, Se, O1.d, O2.d, O3.d, cmI, arI, envOf, putN, ↓reduceIte, Nat.reduceLT, Nat.reduceSub, Nat.reduceAdd, Int.reduceAdd, Int.reduceEq, Int.reduceLT, Int.reduceLE, arr_pos, arr_neg, tr_spec_l3At]
 ·rw [if_neg e]
  have e1 : ((i : Int) - (S.length : Int)) % (R.length : Int) = (((i - S.length) % R.length : Nat) : Int) := by
   rw [show (i : Int) - (S.length : Int) = ((i - S.length : Nat) : Int) by omega]
   exact (Int.natCast_emod _ _).symm
  have e2 : (i - S.length) % R.length < R.length := Nat.mod_lt _ hR
  simp (contextual := true) (maxSteps := 1000000) (disch := omega) only [↓Sd, ↓So, ↓Sk, ↓den, ↓denA, Sa, Sb, Sc, Se, O1.d, O2.d, O3.d, cmI, arI, envOf, putN, ↓reduceIte, Nat.reduceLT, Nat.reduceSub, Nat.reduceAdd, Int.reduceAdd, Int.reduceEq, Int.reduceLT, Int.reduceLE, arr_pos, arr_neg, tr_spec_l3At, e1]
def SRok (S R : List (List Int)) : Prop := (S.length ≤ 1048576 ∧ ∀ x ∈ S, x.length ≤ 1048576) ∧ R.length ≤ 1048576 ∧ ∀ x ∈ R, x.length ≤ 1048576
theorem atW_len {S R : List (List Int)} (h : SRok S R) {i : Nat} : (atW S R i).length ≤ 1048576 := by
 have key : ∀ {X : List (List Int)} {j : Nat}, (∀ x ∈ X, x.length ≤ 1048576) → (X.getD j []).length ≤ 1048576 := fun {X j} hX => by
  by_cases e : j < X.length
  ·exact hX _ (getD_mem e)
  ·rw [List.getD_eq_getElem?_getD, List.getElem?_eq_none (by omega)]; simp
 unfold atW
 split
 ·exact key h.1.2
 ·exact key h.2.2
def lasK (s : Sy) (S R : List (List Int)) : Prop := valid s ∧ 0 < R.length ∧ S.length + R.length ≤ 500 ∧ (∀ i, i ≤ S.length + R.length → inR s.1 (atW S R i)) ∧ atW S R 0 = fst0 s.1 ∧ ∀ i, i < S.length + R.length → folP s (atW S R i) (atW S R (i + 1))
theorem C_spec_LassoValid (s : Sy) (S R : List (List Int)) (hs : FewSy s) (h : SRok S R) (Q : List AV → Prop) : mc.C f_spec_LassoValid [⟨L V3, s.1⟩, ⟨L TR, s.2⟩, ⟨L (L I), S⟩, ⟨L (L I), R⟩] Q = Q [⟨B, dB (lasK s S R)⟩] := by
 refine Mc.Ends.c (mc.ends F_spec_LassoValid ?_)
 generalize hK : dB (lasK s S R) = K
 have hb1 := h.1.1
 have hb2 := h.2.1
 by_cases hv : valid s
 ·by_cases h0 : R.length = 0
  ·simp (contextual := true) (maxSteps := 1000000) (disch := omega) only [↓Sd, ↓So, ↓Sk, ↓den, ↓denA, Sa, Sb, Sc, Se, O1.d, O2.d, O3.d, cmI, arI, envOf, putN, ↓reduceIte, Nat.reduceLT, Nat.reduceSub, Nat.reduceAdd, Int.reduceAdd, Int.reduceEq, Int.reduceLT, Int.reduceLE, arr_pos, arr_neg, tr_spec_LassoValid, C_spec_SystemValid s hs, decide_eq_true hv, h0]
   rw [← hK, dB_f fun g => by have := g.2.1; omega]
  ·by_cases hl : S.length + R.length ≤ 500
   ·have h5 := hv.1
    have hat := fun i => @atW_len S R h i
    have hf0 : (fst0 s.1).length ≤ 1048576 := by rw [fst0, List.length_map]; omega
    simp (contextual := true) (maxSteps := 1000000) (disch := omega) only [↓Sd, ↓So, ↓Sk, ↓den, ↓denA, Sa, Sb, Sc, Se, O1.d, O2.d, O3.d, cmI, arI, envOf, putN, ↓reduceIte, Nat.reduceLT, Nat.reduceSub, Nat.reduceAdd, Int.reduceAdd, Int.reduceEq, Int.reduceLT, Int.reduceLE, arr_pos, arr_neg, tr_spec_LassoValid, C_spec_SystemValid s hs, decide_eq_true hv, C_spec_FirstState s hs hv]
    have hc0 : ((0 : Nat) : Int) = 0 := rfl
    rw [← hc0, C_spec_l3At S R 0 (by omega) (by omega) (by omega)]
    simp (contextual := true) (maxSteps := 1000000) (disch := omega) only [↓Sd, ↓So, ↓Sk, ↓den, ↓denA, Sa, Sb, Sc, Se, O1.d, O2.d, O3.d, cmI, arI, envOf, putN, ↓reduceIte, Nat.reduceLT, Nat.reduceSub, Nat.reduceAdd, Int.reduceAdd, Int.reduceEq, Int.reduceLT, Int.reduceLE, arr_pos, arr_neg, C_spec_FirstState s hs hv, C_spec_l2Same (atW S R 0) (fst0 s.1) (hat 0) hf0]
    refine ⟨fun g => ?_, fun g => ?_⟩
    ·rw [← hK, dB_f fun g2 => g g2.2.2.2.2.1]
    refine mc.lp_for Unit (fun i _ => [⟨L (L I), S⟩, ⟨L (L I), R⟩, ⟨I, ((S.length + R.length : Nat) : Int)⟩, ⟨I, (i : Int)⟩, ⟨L V3, s.1⟩, ⟨L TR, s.2⟩]) (fun i _ => ∀ j, j < i → inR s.1 (atW S R j) ∧ inR s.1 (atW S R (j + 1)) ∧ folP s (atW S R j) (atW S R (j + 1))) (S.length + R.length) 0 () _ rfl (Nat.zero_le _) (fun j hj => absurd hj (Nat.not_lt_zero _)) ?_ ?_
    ·rintro i - hi hp
     have hc1 : ((i : Int) + 1) = ((i + 1 : Nat) : Int) := rfl
     have e1 := C_spec_l3At S R i (by omega) (by omega) (by omega)
     have e2 := C_spec_l3At S R (i + 1) (by omega) (by omega) (by omega)
     rw [← hc1] at e2
     by_cases i1 : inR s.1 (atW S R i)
     ·by_cases i2 : inR s.1 (atW S R (i + 1))
      ·simp (contextual := true) (maxSteps := 1000000) (disch := omega) only [↓Sd, ↓So, ↓Sk, ↓den, ↓denA, Sa, Sb, Sc, Se, O1.d, O2.d, O3.d, cmI, arI, envOf, putN, ↓reduceIte, Nat.reduceLT, Nat.reduceSub, Nat.reduceAdd, Int.reduceAdd, Int.reduceEq, Int.reduceLT, Int.reduceLE, arr_pos, arr_neg, e1, e2, C_spec_l2In s (atW S R i) h5.2 (hat i), C_spec_l2In s (atW S R (i + 1)) h5.2 (hat (i + 1)), decide_eq_true i1, decide_eq_true i2, C_spec_l3Follows s (atW S R i) (atW S R (i + 1)) hv i1 i2]
       refine ⟨fun g => ?_, fun g j hj => ?_⟩
       ·rw [← hK, dB_f fun g2 => ?_]
        rw [dB_t (g2.2.2.2.2.2 i hi)] at g; cases g
       ·by_cases e : j = i
        ·rw [e]; exact ⟨i1, i2, Classical.byContradiction fun g2 => g (dB_f g2)⟩
        ·exact hp j (by omega)
      ·simp (contextual := true) (maxSteps := 1000000) (disch := omega) only [↓Sd, ↓So, ↓Sk, ↓den, ↓denA, Sa, Sb, Sc, Se, O1.d, O2.d, O3.d, cmI, arI, envOf, putN, ↓reduceIte, Nat.reduceLT, Nat.reduceSub, Nat.reduceAdd, Int.reduceAdd, Int.reduceEq, Int.reduceLT, Int.reduceLE, arr_pos, arr_neg, e1, e2, C_spec_l2In s (atW S R i) h5.2 (hat i), C_spec_l2In s (atW S R (i + 1)) h5.2 (hat (i + 1)), decide_eq_true i1, decide_eq_false i2]
       rw [← hK, dB_f fun g2 => i2 (g2.2.2.2.1 _ (by omega))]
     ·simp (contextual := true) (maxSteps := 1000000) (disch := omega) only [↓Sd, ↓So, ↓Sk, ↓den, ↓denA, Sa, Sb, Sc, Se, O1.d, O2.d, O3.d, cmI, arI, envOf, putN, ↓reduceIte, Nat.reduceLT, Nat.reduceSub, Nat.reduceAdd, Int.reduceAdd, Int.reduceEq, Int.reduceLT, Int.reduceLE, arr_pos, arr_neg, e1, C_spec_l2In s (atW S R i) h5.2 (hat i), decide_eq_false i1]
      rw [← hK, dB_f fun g2 => i1 (g2.2.2.2.1 _ (by omega))]
    ·rintro - hp
     simp (contextual := true) (maxSteps := 1000000) (disch := omega) only [↓Sd, ↓So, ↓Sk, ↓den, ↓denA, Sa, Sb, Sc, Se, O1.d, O2.d, O3.d, cmI, arI, envOf, putN, ↓reduceIte, Nat.reduceLT, Nat.reduceSub, Nat.reduceAdd, Int.reduceAdd, Int.reduceEq, Int.reduceLT, Int.reduceLE, arr_pos, arr_neg, ]
     rw [← hK, dB_t]
     refine ⟨hv, by omega, hl, fun i hi => ?_, g, fun i hi => (hp i hi).2.2⟩
     cases i with
     | zero => exact (hp 0 (by omega)).1
     | succ i => exact (hp i (by omega)).2.1
   ·simp (contextual := true) (maxSteps := 1000000) (disch := omega) only [↓Sd, ↓So, ↓Sk, ↓den, ↓denA, Sa, Sb, Sc, Se, O1.d, O2.d, O3.d, cmI, arI, envOf, putN, ↓reduceIte, Nat.reduceLT, Nat.reduceSub, Nat.reduceAdd, Int.reduceAdd, Int.reduceEq, Int.reduceLT, Int.reduceLE, arr_pos, arr_neg, tr_spec_LassoValid, C_spec_SystemValid s hs, decide_eq_true hv]
    rw [← hK, dB_f fun g => by have := g.2.2.1; omega]
 ·simp (contextual := true) (maxSteps := 1000000) (disch := omega) only [↓Sd, ↓So, ↓Sk, ↓den, ↓denA, Sa, Sb, Sc, Se, O1.d, O2.d, O3.d, cmI, arI, envOf, putN, ↓reduceIte, Nat.reduceLT, Nat.reduceSub, Nat.reduceAdd, Int.reduceAdd, Int.reduceEq, Int.reduceLT, Int.reduceLE, arr_pos, arr_neg, tr_spec_LassoValid, C_spec_SystemValid s hs, decide_eq_false hv]
  rw [← hK, dB_f fun g => hv g.1]
theorem C_impl_LassoValid (s : Sy) (S R : List (List Int)) (hs : FewSy s) (h : SRok S R) (Q : List AV → Prop) : mc.C f_impl_LassoValid [⟨L V3, s.1⟩, ⟨L TR, s.2⟩, ⟨L (L I), S⟩, ⟨L (L I), R⟩] Q = Q [⟨B, dB (lasK s S R)⟩] := by
 refine Mc.Ends.c (mc.ends F_impl_LassoValid ?_)
 generalize hK : dB (lasK s S R) = K
 have hb1 := h.1.1
 have hb2 := h.2.1
 have hok : ∀ Q : List AV → Prop, mc.C f_impl_lassoOk [⟨L (L I), S⟩, ⟨L (L I), R⟩] Q = Q [⟨B, dB (0 < R.length ∧ S.length + R.length ≤ 500)⟩] := fun Q => by
  refine Mc.Ends.c (mc.ends F_impl_lassoOk ?_)
  simp (contextual := true) (maxSteps := 1000000) (disch := omega) only [↓Sd, ↓So, ↓Sk, ↓den, ↓denA, Sa, Sb, Sc, Se, O1.d, O2.d, O3.d, cmI, arI, envOf, putN, ↓reduceIte, Nat.reduceLT, Nat.reduceSub, Nat.reduceAdd, Int.reduceAdd, Int.reduceEq, Int.reduceLT, Int.reduceLE, arr_pos, arr_neg, tr_impl_lassoOk]
  refine ⟨fun g => ?_, fun g => ?_⟩
  ·rw [← dB_eq]; exact dB_congr ⟨fun g2 => ⟨by omega, by omega⟩, fun g2 => by omega⟩
  ·rw [dB_f fun g2 => g (by omega)]
 by_cases hv : valid s
 ·by_cases hl : 0 < R.length ∧ S.length + R.length ≤ 500
  ·have h5 := hv.1
   have hat := fun i => @atW_len S R h i
   have hf0 : (fst0 s.1).length ≤ 1048576 := by rw [fst0, List.length_map]; omega
   have hfl : ([S] ++ ([R] ++ [R.take 1])).flatten = S ++ (R ++ R.take 1) := by simp
   have ht1 : (R.take 1).length = 1 := by rw [List.length_take]; omega
   obtain ⟨A, hA⟩ : ∃ A, S ++ (R ++ R.take 1) = A := ⟨_, rfl⟩
   have hAl : A.length = S.length + R.length + 1 := by rw [← hA, List.length_append, List.length_append, ht1]; omega
   have hAg : ∀ i, i ≤ S.length + R.length → A.getD i [] = atW S R i := fun i hi => by
    rw [← hA, ← List.append_assoc]
    by_cases e : i = S.length + R.length
    ·rw [e, atW_end hl.1, List.getD_eq_getElem?_getD, List.getElem?_append_right (by rw [List.length_append]; omega), List.length_append, Nat.sub_self, List.getElem?_take_of_lt (by omega), ← List.getD_eq_getElem?_getD]
    ·rw [atW_in (by omega), List.getD_eq_getElem?_getD, List.getD_eq_getElem?_getD, List.getElem?_append_left (by rw [List.length_append]; omega)]
   rw [hA] at hfl
   obtain ⟨m, hm⟩ : ∃ m, S.length + R.length = m := ⟨_, rfl⟩
   simp (contextual := true) (maxSteps := 1000000) (disch := omega) only [↓Sd, ↓So, ↓Sk, ↓den, ↓denA, Sa, Sb, Sc, Se, O1.d, O2.d, O3.d, cmI, arI, envOf, putN, ↓reduceIte, Nat.reduceLT, Nat.reduceSub, Nat.reduceAdd, Int.reduceAdd, Int.reduceEq, Int.reduceLT, Int.reduceLE, arr_pos, arr_neg, tr_impl_LassoValid, C_impl_SystemValid s hs, decide_eq_true hv, hok, dB_t hl, C_slices_Concat2 ([S] ++ ([R] ++ [R.take 1])) (by rw [hfl]; omega) (by simp), hfl, hAl]
   refine mc.lp_for Unit (fun i _ => [⟨I, ((S.length + R.length + 1 : Nat) : Int)⟩, ⟨I, (i : Int)⟩, ⟨L V3, s.1⟩, ⟨L TR, s.2⟩, ⟨L (L I), A⟩]) (fun i _ => ∀ j, j < i → inR s.1 (atW S R j) ∧ (j = 0 → atW S R 0 = fst0 s.1) ∧ ∀ a, j = a + 1 → folP s (atW S R a) (atW S R j)) (S.length + R.length + 1) 0 () _ rfl (Nat.zero_le _) (fun j hj => absurd hj (Nat.not_lt_zero _)) ?_ ?_
   ·rintro i - hi hp
    have e1 := hAg i (by omega)
    by_cases i1 : inR s.1 (atW S R i)
    ·cases i with
     | zero =>
      simp (contextual := true) (maxSteps := 1000000) (disch := omega) only [↓Sd, ↓So, ↓Sk, ↓den, ↓denA, Sa, Sb, Sc, Se, O1.d, O2.d, O3.d, cmI, arI, envOf, putN, ↓reduceIte, Nat.reduceLT, Nat.reduceSub, Nat.reduceAdd, Int.reduceAdd, Int.reduceEq, Int.reduceLT, Int.reduceLE, arr_pos, arr_neg, ↓wpJoin, hAl, e1, C_impl_inRange s (atW S R 0) h5.2 (hat 0), decide_eq_true i1, C_impl_first s h5.2, C_slices_Equal (atW S R 0) (fst0 s.1) (hat 0) hf0]
      refine ⟨fun g => ?_, fun g j hj => ?_⟩
      ·rw [← hK, dB_f fun g2 => g g2.2.2.2.2.1]
      ·obtain rfl : j = 0 := by omega
       first | exact ⟨i1, fun _ => trivial⟩ | exact ⟨i1, fun _ => g, fun a ha => by omega⟩ | exact ⟨i1, fun _ => g, fun _ => trivial⟩ | exact ⟨i1, g, fun _ => trivial⟩
     | succ i =>
      have i0 := (hp i (by omega)).1
      have e0 := hAg i (by omega)
      have hfol := C_impl_follows s (atW S R i) (atW S R (i + 1)) hv i0 i1
      have hres : (if nxt s (atW S R i) = [] then decide (atW S R i = atW S R (i + 1)) else decide (0 ≤ rbt s (atW S R i) (atW S R (i + 1)))) = dB (folP s (atW S R i) (atW S R (i + 1))) := by
       unfold folP
       split <;> rw [← dB_eq]
      rw [hres] at hfol
      have e3 : ((i : Int) + 1).toNat = i + 1 := by omega
      simp (contextual := true) (maxSteps := 1000000) (disch := omega) only [↓Sd, ↓So, ↓Sk, ↓den, ↓denA, Sa, Sb, Sc, Se, O1.d, O2.d, O3.d, cmI, arI, envOf, putN, ↓reduceIte, Nat.reduceLT, Nat.reduceSub, Nat.reduceAdd, Int.reduceAdd, Int.reduceEq, Int.reduceLT, Int.reduceLE, arr_pos, arr_neg, ↓wpJoin, hAl, e3, e1, e0, C_impl_inRange s (atW S R (i + 1)) h5.2 (hat (i + 1)), decide_eq_true i1, hfol]
      refine ⟨fun g => ?_, fun g j hj => ?_⟩
      ·rw [← hK, dB_f fun g2 => ?_]
       rw [dB_t (g2.2.2.2.2.2 i (by omega))] at g; cases g
      ·by_cases e : j = i + 1
       ·refine ⟨by rw [e]; exact i1, fun h0 => by omega, fun a ha => ?_⟩
        obtain rfl : a = i := by omega
        exact Classical.byContradiction fun g2 => g (dB_f g2)
       ·refine ⟨(hp j (by omega)).1, (hp j (by omega)).2.1, fun a ha => ?_⟩
        rw [← ha]; exact (hp j (by omega)).2.2 a ha
    ·simp (contextual := true) (maxSteps := 1000000) (disch := omega) only [↓Sd, ↓So, ↓Sk, ↓den, ↓denA, Sa, Sb, Sc, Se, O1.d, O2.d, O3.d, cmI, arI, envOf, putN, ↓reduceIte, Nat.reduceLT, Nat.reduceSub, Nat.reduceAdd, Int.reduceAdd, Int.reduceEq, Int.reduceLT, Int.reduceLE, arr_pos, arr_neg, ↓wpJoin, hAl, e1, C_impl_inRange s (atW S R i) h5.2 (hat i), decide_eq_false i1]
     rw [← hK, dB_f fun g2 => i1 (g2.2.2.2.1 _ (by omega))]
   ·rintro - hp
    simp (contextual := true) (maxSteps := 1000000) (disch := omega) only [↓Sd, ↓So, ↓Sk, ↓den, ↓denA, Sa, Sb, Sc, Se, O1.d, O2.d, O3.d, cmI, arI, envOf, putN, ↓reduceIte, Nat.reduceLT, Nat.reduceSub, Nat.reduceAdd, Int.reduceAdd, Int.reduceEq, Int.reduceLT, Int.reduceLE, arr_pos, arr_neg, ]
    rw [← hK, dB_t]
    exact ⟨hv, hl.1, hl.2, fun i hi => (hp i (by omega)).1, (hp 0 (by omega)).2.1 rfl, fun i hi => (hp (i + 1) (by omega)).2.2 i rfl⟩
  ·simp (contextual := true) (maxSteps := 1000000) (disch := omega) only [↓Sd, ↓So, ↓Sk, ↓den, ↓denA, Sa, Sb, Sc, Se, O1.d, O2.d, O3.d, cmI, arI, envOf, putN, ↓reduceIte, Nat.reduceLT, Nat.reduceSub, Nat.reduceAdd, Int.reduceAdd, Int.reduceEq, Int.reduceLT, Int.reduceLE, arr_pos, arr_neg, tr_impl_LassoValid, C_impl_SystemValid s hs, decide_eq_true hv, hok, dB_f hl]
   rw [← hK, dB_f fun g => hl ⟨g.2.1, g.2.2.1⟩]
 ·simp (contextual := true) (maxSteps := 1000000) (disch := omega) only [↓Sd, ↓So, ↓Sk, ↓den, ↓denA, Sa, Sb, Sc, Se, O1.d, O2.d, O3.d, cmI, arI, envOf, putN, ↓reduceIte, Nat.reduceLT, Nat.reduceSub, Nat.reduceAdd, Int.reduceAdd, Int.reduceEq, Int.reduceLT, Int.reduceLE, arr_pos, arr_neg, tr_impl_LassoValid, C_impl_SystemValid s hs, decide_eq_false hv]
  rw [← hK, dB_f fun g => hv g.1]
theorem C_spec_l20Row (t : Tm) (RW S R : List (List Int)) (P wl : Nat → Nat → Bool) (n k : Nat) (hto : tO t k n) (hR : 0 < R.length) (hm : S.length + R.length ≤ 60) (hw : LtrsOk (S ++ R) n wl) (hRl : k ≤ RW.length) (hRg : ∀ a, a < k → RW.getD a [] = bR (S.length + R.length) (P a)) (Q : List AV → Prop) :
  mc.C f_spec_l20Row [⟨I, t.1⟩, ⟨I, t.2.1⟩, ⟨I, t.2.2.1⟩, ⟨I, t.2.2.2⟩, ⟨L (L I), RW⟩, ⟨L (L I), S⟩, ⟨L (L I), R⟩] Q = Q [⟨L I, bR (S.length + R.length) (rwB t P wl S.length (S.length + R.length))⟩] := by
 refine Mc.Ends.c (mc.ends F_spec_l20Row ?_)
 obtain ⟨m, hmm⟩ : ∃ m, S.length + R.length = m := ⟨_, rfl⟩
 have hWl : (S ++ R).length = m := by rw [List.length_append, hmm]
 have hmi : (S.length : Int) + (R.length : Int) = (m : Int) := by omega
 have hsm : S.length < m := by omega
 rw [hmm] at hm hRg ⊢
 by_cases h6 : t.1 ≥ 6
 ·have ho : t.1 = 6 ∨ t.1 = 7 := by
   rcases hto with ⟨h, _⟩ | ⟨h, _⟩ | ⟨h, _⟩ <;> omega
  have hAB : (0 ≤ t.2.2.1 ∧ t.2.2.1 < k) ∧ 0 ≤ t.2.2.2 ∧ t.2.2.2 < k := by
   rcases hto with ⟨h, _⟩ | ⟨h, _⟩ | ⟨h, _, hA, hB, _⟩
   ·omega
   ·omega
   ·omega
  simp (contextual := true) (maxSteps := 1000000) (disch := omega) only [↓Sd, ↓So, ↓Sk, ↓den, ↓denA, Sa, Sb, Sc, Se, O1.d, O2.d, O3.d, cmI, arI, envOf, putN, ↓reduceIte, Nat.reduceLT, Nat.reduceSub, Nat.reduceAdd, Int.reduceAdd, Int.reduceEq, Int.reduceLT, Int.reduceLE, arr_pos, arr_neg, tr_spec_l20Row, h6, hmi, C_spec_l20Later t RW P wl S.length m k ho hAB.1 hAB.2 hsm hm hRl hRg]
 ·have hlow : 0 ≤ t.1 ∧ t.1 < 6 := by
   rcases hto with ⟨h, _⟩ | ⟨h, _⟩ | ⟨h, _⟩ <;> omega
  have hval : ∀ i, i < m → rwB t P wl S.length m i = hop t P wl S.length m i true := fun i hi => rwB_low hlow hi
  have hbR : bR m (rwB t P wl S.length m) = tab (fun i => bt (hop t P wl S.length m i true)) m := tab_congr fun i hi => by rw [hval i hi]
  rw [hbR]
  simp (contextual := true) (maxSteps := 1000000) (disch := omega) only [↓Sd, ↓So, ↓Sk, ↓den, ↓denA, Sa, Sb, Sc, Se, O1.d, O2.d, O3.d, cmI, arI, envOf, putN, ↓reduceIte, Nat.reduceLT, Nat.reduceSub, Nat.reduceAdd, Int.reduceAdd, Int.reduceEq, Int.reduceLT, Int.reduceLE, arr_pos, arr_neg, tr_spec_l20Row, h6, hmi]
  refine mc.lp_for (List Int) (fun i o => [⟨L (L I), RW⟩, ⟨L (L I), S⟩, ⟨L (L I), R⟩, ⟨I, (m : Int)⟩, ⟨I, (i : Int)⟩, ⟨I, t.1⟩, ⟨I, t.2.1⟩, ⟨I, t.2.2.1⟩, ⟨I, t.2.2.2⟩, ⟨L I, o⟩]) (fun i o => o = tab (fun i => bt (hop t P wl S.length m i true)) i) m 0 [] _ rfl (Nat.zero_le _) rfl ?_ ?_
  ·rintro i o hi rfl
   have him : i + 1 ≤ m := hi
   rw [← tab_next]
   obtain ⟨o, ho⟩ : ∃ o, tab (fun i => bt (hop t P wl S.length m i true)) i = o := ⟨_, rfl⟩
   have hol : o.length = i := by rw [← ho, tab_len]
   rw [ho]
   clear hbR hval
   rcases hto with ⟨ho, -⟩ | ⟨ho, hnn, -⟩ | ⟨ho, -, hA, hB, -⟩
   ·simp (contextual := true) (maxSteps := 1000000) (disch := omega) only [↓Sd, ↓So, ↓Sk, ↓den, ↓denA, Sa, Sb, Sc, Se, O1.d, O2.d, O3.d, cmI, arI, envOf, putN, ↓reduceIte, Nat.reduceLT, Nat.reduceSub, Nat.reduceAdd, Int.reduceAdd, Int.reduceEq, Int.reduceLT, Int.reduceLE, arr_pos, arr_neg, ↓wpJoin, ho, hol]
    rw [hop, if_pos ho]; rfl
   ·obtain ⟨a, ha⟩ : ∃ a : Nat, t.2.1 = a := ⟨t.2.1.toNat, by omega⟩
    have hwi := hw i (by omega)
    have hat : atW S R i = (S ++ R).getD i [] := atW_in (by omega)
    rw [ha] at hnn ⊢
    have hwj := hwi.2 a (by omega)
    rw [← hat] at hwi hwj
    simp (contextual := true) (maxSteps := 1000000) (disch := omega) only [↓Sd, ↓So, ↓Sk, ↓den, ↓denA, Sa, Sb, Sc, Se, O1.d, O2.d, O3.d, cmI, arI, envOf, putN, ↓reduceIte, Nat.reduceLT, Nat.reduceSub, Nat.reduceAdd, Int.reduceAdd, Int.reduceEq, Int.reduceLT, Int.reduceLE, arr_pos, arr_neg, ↓wpJoin, ho, hol, C_spec_l3At S R i hR (by omega) (by omega), hwi.1, hwj]
    rw [hop, if_neg (by omega), if_pos ho, ha, Int.toNat_natCast]
   ·obtain ⟨a, ha⟩ : ∃ a : Nat, t.2.2.1 = a := ⟨t.2.2.1.toNat, by omega⟩
    obtain ⟨b, hb⟩ : ∃ b : Nat, t.2.2.2 = b := ⟨t.2.2.2.toNat, by omega⟩
    have hak : a < k := by omega
    have hbk : b < k := by omega
    have ga := bR_get (m := m) (ρ := P a) hi
    have gb := bR_get (m := m) (ρ := P b) hi
    rw [ha] at hA ⊢
    rw [hb] at hB ⊢
    have hcase : t.1 = 2 ∨ t.1 = 3 ∨ t.1 = 4 ∨ t.1 = 5 := by omega
    rw [hop, if_neg (by omega), if_neg (by omega), ha, hb, Int.toNat_natCast, Int.toNat_natCast]
    have bm : ∀ x y : Bool, IntKind.i64.wrap (bt x * bt y) = bt (x && y) := fun x y => by cases x <;> cases y <;> decide
    have bs : ∀ x y : Bool, (if decide (bt x + bt y > 0) = true then (1 : Int) else 0) = bt (x || y) := fun x y => by cases x <;> cases y <;> decide
    rcases hcase with ho | ho | ho | ho
    ·rw [if_pos ho]
     simp (contextual := true) (maxSteps := 1000000) (disch := omega) only [↓Sd, ↓So, ↓Sk, ↓den, ↓denA, Sa, Sb, Sc, Se, O1.d, O2.d, O3.d, cmI, arI, envOf, putN, ↓reduceIte, Nat.reduceLT, Nat.reduceSub, Nat.reduceAdd, Int.reduceAdd, Int.reduceEq, Int.reduceLT, Int.reduceLE, arr_pos, arr_neg, ↓wpJoin, ho, hol, hRg a hak, hRg b hbk, bR_len, ga, gb, bt_not]
    ·rw [if_neg (by omega), if_pos ho]
     simp (contextual := true) (maxSteps := 1000000) (disch := omega) only [↓Sd, ↓So, ↓Sk, ↓den, ↓denA, Sa, Sb, Sc, Se, O1.d, O2.d, O3.d, cmI, arI, envOf, putN, ↓reduceIte, Nat.reduceLT, Nat.reduceSub, Nat.reduceAdd, Int.reduceAdd, Int.reduceEq, Int.reduceLT, Int.reduceLE, arr_pos, arr_neg, ↓wpJoin, ho, hol, hRg a hak, hRg b hbk, bR_len, ga, gb, bm]
    ·rw [if_neg (by omega), if_neg (by omega), if_pos ho]
     simp (contextual := true) (maxSteps := 1000000) (disch := omega) only [↓Sd, ↓So, ↓Sk, ↓den, ↓denA, Sa, Sb, Sc, Se, O1.d, O2.d, O3.d, cmI, arI, envOf, putN, ↓reduceIte, Nat.reduceLT, Nat.reduceSub, Nat.reduceAdd, Int.reduceAdd, Int.reduceEq, Int.reduceLT, Int.reduceLE, arr_pos, arr_neg, ↓wpJoin, ho, hol, hRg a hak, hRg b hbk, bR_len, ga, gb, C_spec_l1Truth]
     generalize P a i = pa
     generalize P b i = pb
     congr 2
     cases pa <;> cases pb <;> decide
    ·rw [if_neg (by omega), if_neg (by omega), if_neg (by omega), if_pos ho]
     obtain ⟨nx, hnx⟩ : ∃ nx, (if i + 1 = m then S.length else i + 1) = nx := ⟨_, rfl⟩
     have hnm : nx < m := by rw [← hnx]; split <;> omega
     rw [hnx]
     have gn := bR_get (m := m) (ρ := P a) hnm
     simp (contextual := true) (maxSteps := 1000000) (disch := omega) only [↓Sd, ↓So, ↓Sk, ↓den, ↓denA, Sa, Sb, Sc, Se, O1.d, O2.d, O3.d, cmI, arI, envOf, putN, ↓reduceIte, Nat.reduceLT, Nat.reduceSub, Nat.reduceAdd, Int.reduceAdd, Int.reduceEq, Int.reduceLT, Int.reduceLE, arr_pos, arr_neg, ↓wpJoin, ho, hol, hRg a hak, bR_len, C_spec_l20Next i S.length m (by omega) hi, hnx, gn]
  ·rintro o rfl
   simp (contextual := true) (maxSteps := 1000000) (disch := omega) only [↓Sd, ↓So, ↓Sk, ↓den, ↓denA, Sa, Sb, Sc, Se, O1.d, O2.d, O3.d, cmI, arI, envOf, putN, ↓reduceIte, Nat.reduceLT, Nat.reduceSub, Nat.reduceAdd, Int.reduceAdd, Int.reduceEq, Int.reduceLT, Int.reduceLE, arr_pos, arr_neg, ]
def LtrB (X : List (List Int)) (n : Nat) : Prop := ∀ i, i < X.length → (X.getD i []).length = n ∧ ∀ j, j < n → 0 ≤ (X.getD i []).getD j 0 ∧ (X.getD i []).getD j 0 ≤ 1
def wlO (W : List (List Int)) (i j : Nat) : Bool := decide ((W.getD i []).getD j 0 = 1)
theorem LtrB.app {X Y : List (List Int)} {n : Nat} (hx : LtrB X n) (hy : LtrB Y n) : LtrsOk (X ++ Y) n (wlO (X ++ Y)) := by
 have key : ∀ i, i < (X ++ Y).length → ((X ++ Y).getD i []).length = n ∧ ∀ j, j < n → 0 ≤ ((X ++ Y).getD i []).getD j 0 ∧ ((X ++ Y).getD i []).getD j 0 ≤ 1 := fun i hi => by
  rw [List.length_append] at hi
  by_cases e : i < X.length
  ·rw [List.getD_eq_getElem?_getD, List.getElem?_append_left e, ← List.getD_eq_getElem?_getD]; exact hx i e
  ·rw [List.getD_eq_getElem?_getD, List.getElem?_append_right (by omega), ← List.getD_eq_getElem?_getD]; exact hy _ (by omega)
 intro i hi
 refine ⟨(key i hi).1, fun j hj => ?_⟩
 have h1 := (key i hi).2 j hj
 unfold bt wlO
 by_cases e : ((X ++ Y).getD i []).getD j 0 = 1
 ·rw [if_pos (by rw [decide_eq_true e]), e]
 ·rw [if_neg (by rw [decide_eq_false e]; simp)]; omega
theorem C_spec_l6Are_b (x : List Int) (hl : x.length ≤ 1048576) (h : ∀ j, j < x.length → 0 ≤ x.getD j 0 ∧ x.getD j 0 ≤ 1) (Q : List AV → Prop) : mc.C f_spec_l6Are [⟨L I, x⟩] Q = Q [⟨B, true⟩] := by
 refine Mc.Ends.c (mc.ends F_spec_l6Are ?_)
 simp (contextual := true) (maxSteps := 1000000) (disch := omega) only [↓Sd, ↓So, ↓Sk, ↓den, ↓denA, Sa, Sb, Sc, Se, O1.d, O2.d, O3.d, cmI, arI, envOf, putN, ↓reduceIte, Nat.reduceLT, Nat.reduceSub, Nat.reduceAdd, Int.reduceAdd, Int.reduceEq, Int.reduceLT, Int.reduceLE, arr_pos, arr_neg, tr_spec_l6Are]
 refine lp_all (fun i => [⟨L I, x⟩, ⟨I, (i : Int)⟩]) (fun _ => True) x.length _ rfl ?_ ?_
 ·intro i hi
  have := h i hi
  simp (contextual := true) (maxSteps := 1000000) (disch := omega) only [↓Sd, ↓So, ↓Sk, ↓den, ↓denA, Sa, Sb, Sc, Se, O1.d, O2.d, O3.d, cmI, arI, envOf, putN, ↓reduceIte, Nat.reduceLT, Nat.reduceSub, Nat.reduceAdd, Int.reduceAdd, Int.reduceEq, Int.reduceLT, Int.reduceLE, arr_pos, arr_neg, C_spec_l1In, decide_eq_true this]
 ·intro _
  simp (contextual := true) (maxSteps := 1000000) (disch := omega) only [↓Sd, ↓So, ↓Sk, ↓den, ↓denA, Sa, Sb, Sc, Se, O1.d, O2.d, O3.d, cmI, arI, envOf, putN, ↓reduceIte, Nat.reduceLT, Nat.reduceSub, Nat.reduceAdd, Int.reduceAdd, Int.reduceEq, Int.reduceLT, Int.reduceLE, arr_pos, arr_neg, ]
theorem C_spec_l20Letters_b (X : List (List Int)) (n : Nat) (hl : X.length ≤ 1048576) (hn : n ≤ 1000) (h : LtrB X n) (Q : List AV → Prop) : mc.C f_spec_l20Letters [⟨L (L I), X⟩, ⟨I, (n : Int)⟩] Q = Q [⟨B, true⟩] := by
 refine Mc.Ends.c (mc.ends F_spec_l20Letters ?_)
 simp (contextual := true) (maxSteps := 1000000) (disch := omega) only [↓Sd, ↓So, ↓Sk, ↓den, ↓denA, Sa, Sb, Sc, Se, O1.d, O2.d, O3.d, cmI, arI, envOf, putN, ↓reduceIte, Nat.reduceLT, Nat.reduceSub, Nat.reduceAdd, Int.reduceAdd, Int.reduceEq, Int.reduceLT, Int.reduceLE, arr_pos, arr_neg, tr_spec_l20Letters]
 refine lp_all (fun i => [⟨L (L I), X⟩, ⟨I, (n : Int)⟩, ⟨I, (i : Int)⟩]) (fun _ => True) X.length _ rfl ?_ ?_
 ·intro i hi
  obtain ⟨h1, h2⟩ := h i hi
  simp (contextual := true) (maxSteps := 1000000) (disch := omega) only [↓Sd, ↓So, ↓Sk, ↓den, ↓denA, Sa, Sb, Sc, Se, O1.d, O2.d, O3.d, cmI, arI, envOf, putN, ↓reduceIte, Nat.reduceLT, Nat.reduceSub, Nat.reduceAdd, Int.reduceAdd, Int.reduceEq, Int.reduceLT, Int.reduceLE, arr_pos, arr_neg, h1, C_spec_l6Are_b (X.getD i []) (by omega) (by rw [h1]; exact h2)]
 ·intro _
  simp (contextual := true) (maxSteps := 1000000) (disch := omega) only [↓Sd, ↓So, ↓Sk, ↓den, ↓denA, Sa, Sb, Sc, Se, O1.d, O2.d, O3.d, cmI, arI, envOf, putN, ↓reduceIte, Nat.reduceLT, Nat.reduceSub, Nat.reduceAdd, Int.reduceAdd, Int.reduceEq, Int.reduceLT, Int.reduceLE, arr_pos, arr_neg, ]
theorem C_spec_TimesOn_b (l : List Tm) (n : Nat) (S R : List (List Int)) (hf : Few l) (hn : n ≤ 4) (hR : 0 < R.length) (hS : LtrB S n) (hRb : LtrB R n) (hb : S.length ≤ 1048576 ∧ R.length ≤ 1048576) {Q : List AV → Prop}
  (hy : tV l n → S.length + R.length ≤ 60 → Q [⟨L (L I), rowsT l (wlO (S ++ R)) S.length (S.length + R.length) l.length⟩]) (hno : ¬ (tV l n ∧ S.length + R.length ≤ 60) → Q [⟨L (L I), []⟩]) : mc.C f_spec_TimesOn [⟨L T4, l⟩, ⟨L (L I), S⟩, ⟨L (L I), R⟩, ⟨I, (n : Int)⟩] Q := by
 refine mc.c_of F_spec_TimesOn ?_
 have hw : ∀ Q : List AV → Prop, mc.C f_spec_WordValid [⟨L (L I), S⟩, ⟨L (L I), R⟩, ⟨I, (n : Int)⟩] Q = Q [⟨B, decide (S.length + R.length ≤ 60)⟩] := fun Q => by
  refine Mc.Ends.c (mc.ends F_spec_WordValid ?_)
  simp (contextual := true) (maxSteps := 1000000) (disch := omega) only [↓Sd, ↓So, ↓Sk, ↓den, ↓denA, Sa, Sb, Sc, Se, O1.d, O2.d, O3.d, cmI, arI, envOf, putN, ↓reduceIte, Nat.reduceLT, Nat.reduceSub, Nat.reduceAdd, Int.reduceAdd, Int.reduceEq, Int.reduceLT, Int.reduceLE, arr_pos, arr_neg, tr_spec_WordValid, C_spec_l1In, decide_eq_true (show 0 ≤ (n : Int) ∧ (n : Int) ≤ 4 by omega), C_spec_l20Letters_b S n (by omega) (by omega) hS, C_spec_l20Letters_b R n (by omega) (by omega) hRb]
  refine ⟨fun g => (decide_eq_true (by omega)).symm, fun g => (decide_eq_false (by omega)).symm⟩
 by_cases h1 : tV l n
 ·by_cases h2 : S.length + R.length ≤ 60
  ·have hll := h1.2.1
   have hwl := hS.app hRb
   simp (contextual := true) (maxSteps := 1000000) (disch := omega) only [↓Sd, ↓So, ↓Sk, ↓den, ↓denA, Sa, Sb, Sc, Se, O1.d, O2.d, O3.d, cmI, arI, envOf, putN, ↓reduceIte, Nat.reduceLT, Nat.reduceSub, Nat.reduceAdd, Int.reduceAdd, Int.reduceEq, Int.reduceLT, Int.reduceLE, arr_pos, arr_neg, tr_spec_TimesOn, C_spec_TimesValid l n hf, decide_eq_true h1, hw, decide_eq_true h2]
   refine mc.lp_for Unit (fun k _ => [⟨L T4, l⟩, ⟨L (L I), S⟩, ⟨L (L I), R⟩, ⟨I, (k : Int)⟩, ⟨L (L I), rowsT l (wlO (S ++ R)) S.length (S.length + R.length) k⟩]) (fun _ _ => True) l.length 0 () _ rfl (Nat.zero_le _) trivial ?_ ?_
   ·rintro k - hk -
    obtain ⟨t, ht⟩ : ∃ t, l.getD k (0, 0, 0, 0) = t := ⟨_, rfl⟩
    have hto := h1.2.2 k hk
    have htz : l.getD k zT = t := ht
    rw [htz] at hto
    have hrl := @rowsT_len l (wlO (S ++ R)) S.length (S.length + R.length) k
    simp (contextual := true) (maxSteps := 1000000) (disch := omega) only [↓Sd, ↓So, ↓Sk, ↓den, ↓denA, Sa, Sb, Sc, Se, O1.d, O2.d, O3.d, cmI, arI, envOf, putN, ↓reduceIte, Nat.reduceLT, Nat.reduceSub, Nat.reduceAdd, Int.reduceAdd, Int.reduceEq, Int.reduceLT, Int.reduceLE, arr_pos, arr_neg, ht, hrl, C_spec_l20Row t (rowsT l (wlO (S ++ R)) S.length (S.length + R.length) k) S R (pf l (wlO (S ++ R)) S.length (S.length + R.length) k) (wlO (S ++ R)) n k hto hR h2 hwl (by omega) (fun a ha => rowsT_get ha)]
    rw [rowsT, rowsT, pl, List.map_append, htz]
    rfl
   ·rintro - -
    simp (contextual := true) (maxSteps := 1000000) (disch := omega) only [↓Sd, ↓So, ↓Sk, ↓den, ↓denA, Sa, Sb, Sc, Se, O1.d, O2.d, O3.d, cmI, arI, envOf, putN, ↓reduceIte, Nat.reduceLT, Nat.reduceSub, Nat.reduceAdd, Int.reduceAdd, Int.reduceEq, Int.reduceLT, Int.reduceLE, arr_pos, arr_neg, ]
    exact hy h1 h2
  ·simp (contextual := true) (maxSteps := 1000000) (disch := omega) only [↓Sd, ↓So, ↓Sk, ↓den, ↓denA, Sa, Sb, Sc, Se, O1.d, O2.d, O3.d, cmI, arI, envOf, putN, ↓reduceIte, Nat.reduceLT, Nat.reduceSub, Nat.reduceAdd, Int.reduceAdd, Int.reduceEq, Int.reduceLT, Int.reduceLE, arr_pos, arr_neg, tr_spec_TimesOn, C_spec_TimesValid l n hf, decide_eq_true h1, hw, decide_eq_false h2]
   exact hno fun g => h2 g.2
 ·simp (contextual := true) (maxSteps := 1000000) (disch := omega) only [↓Sd, ↓So, ↓Sk, ↓den, ↓denA, Sa, Sb, Sc, Se, O1.d, O2.d, O3.d, cmI, arI, envOf, putN, ↓reduceIte, Nat.reduceLT, Nat.reduceSub, Nat.reduceAdd, Int.reduceAdd, Int.reduceEq, Int.reduceLT, Int.reduceLE, arr_pos, arr_neg, tr_spec_TimesOn, C_spec_TimesValid l n hf, decide_eq_false h1]
  exact hno fun g => h1 g.1
def hoV (l : List Tm) (S R : List (List Int)) : Bool := pf l (wlO (S ++ R)) S.length (S.length + R.length) l.length (l.length - 1) 0
theorem bt_one {b : Bool} : (bt b == (1 : Int)) = b := by cases b <;> rfl
theorem C_spec_HoldsOn_b (l : List Tm) (n : Nat) (S R : List (List Int)) (hf : Few l) (hn : n ≤ 4) (hR : 0 < R.length) (hS : LtrB S n) (hRb : LtrB R n) (hb : S.length ≤ 1048576 ∧ R.length ≤ 1048576) (Q : List AV → Prop) :
  mc.C f_spec_HoldsOn [⟨L T4, l⟩, ⟨L (L I), S⟩, ⟨L (L I), R⟩, ⟨I, (n : Int)⟩] Q = Q [⟨B, decide (tV l n ∧ S.length + R.length ≤ 60) && hoV l S R⟩] := by
 refine Mc.Ends.c (mc.ends F_spec_HoldsOn ?_)
 simp (contextual := true) (maxSteps := 1000000) (disch := omega) only [↓Sd, ↓So, ↓Sk, ↓den, ↓denA, Sa, Sb, Sc, Se, O1.d, O2.d, O3.d, cmI, arI, envOf, putN, ↓reduceIte, Nat.reduceLT, Nat.reduceSub, Nat.reduceAdd, Int.reduceAdd, Int.reduceEq, Int.reduceLT, Int.reduceLE, arr_pos, arr_neg, tr_spec_HoldsOn]
 refine C_spec_TimesOn_b l n S R hf hn hR hS hRb hb (fun h1 h2 => ?_) (fun h => ?_)
 ·have hll := h1.2.1
  have hrl := @rowsT_len l (wlO (S ++ R)) S.length (S.length + R.length) l.length
  have hrg := rowsT_get (l := l) (wl := wlO (S ++ R)) (s := S.length) (m := S.length + R.length) (k := l.length) (a := l.length - 1) (by omega)
  have hg0 := bR_get (m := S.length + R.length) (i := 0) (ρ := pf l (wlO (S ++ R)) S.length (S.length + R.length) l.length (l.length - 1)) (by omega)
  simp (contextual := true) (maxSteps := 1000000) (disch := omega) only [↓Sd, ↓So, ↓Sk, ↓den, ↓denA, Sa, Sb, Sc, Se, O1.d, O2.d, O3.d, cmI, arI, envOf, putN, ↓reduceIte, Nat.reduceLT, Nat.reduceSub, Nat.reduceAdd, Int.reduceAdd, Int.reduceEq, Int.reduceLT, Int.reduceLE, arr_pos, arr_neg, hrl, hrg, bR_len, hg0, bt_one]
  rw [decide_eq_true (show tV l n ∧ S.length + R.length ≤ 60 from ⟨h1, h2⟩)]
  rfl
 ·simp (contextual := true) (maxSteps := 1000000) (disch := omega) only [↓Sd, ↓So, ↓Sk, ↓den, ↓denA, Sa, Sb, Sc, Se, O1.d, O2.d, O3.d, cmI, arI, envOf, putN, ↓reduceIte, Nat.reduceLT, Nat.reduceSub, Nat.reduceAdd, Int.reduceAdd, Int.reduceEq, Int.reduceLT, Int.reduceLE, arr_pos, arr_neg, ]
  rw [decide_eq_false h]; rfl
theorem C_impl_word (F : List (List Tm)) (S : List (List Int)) (n : Nat) (hl : F.length ≤ 4) (hS : S.length ≤ 1048576) (h : ∀ i, i < F.length → kf (F.getD i []) n = 2) (hb : ∀ x ∈ S, x.length = n ∧ Bds x) (Q : List AV → Prop) : mc.C f_impl_word [⟨L (L T4), F⟩, ⟨L (L I), S⟩] Q = Q [⟨L (L I), S.map (ltr F)⟩] := by
 refine Mc.Ends.c (mc.ends F_impl_word ?_)
 simp (contextual := true) (maxSteps := 1000000) (disch := omega) only [↓Sd, ↓So, ↓Sk, ↓den, ↓denA, Sa, Sb, Sc, Se, O1.d, O2.d, O3.d, cmI, arI, envOf, putN, ↓reduceIte, Nat.reduceLT, Nat.reduceSub, Nat.reduceAdd, Int.reduceAdd, Int.reduceEq, Int.reduceLT, Int.reduceLE, arr_pos, arr_neg, tr_impl_word]
 refine mc.lp_for (List (List Int)) (fun i o => [⟨L (L T4), F⟩, ⟨L (L I), S⟩, ⟨I, (S.length : Int)⟩, ⟨I, (i : Int)⟩, ⟨L (L I), o⟩]) (fun i o => o = (S.take i).map (ltr F)) S.length 0 [] _ rfl (Nat.zero_le _) rfl ?_ ?_
 ·rintro i o hi rfl
  obtain ⟨h1, h2⟩ := hb _ (getD_mem (d := []) hi)
  have hml : ((S.take i).map (ltr F)).length ≤ 1048576 := by rw [List.length_map, List.length_take]; omega
  have hnx : (S.take (i + 1)).map (ltr F) = (S.take i).map (ltr F) ++ [ltr F (S.getD i [])] := by
   rw [List.take_succ_eq_append_getElem hi, List.map_append, getD_lt hi]; rfl
  rw [hnx]
  simp (contextual := true) (maxSteps := 1000000) (disch := omega) only [↓Sd, ↓So, ↓Sk, ↓den, ↓denA, Sa, Sb, Sc, Se, O1.d, O2.d, O3.d, cmI, arI, envOf, putN, ↓reduceIte, Nat.reduceLT, Nat.reduceSub, Nat.reduceAdd, Int.reduceAdd, Int.reduceEq, Int.reduceLT, Int.reduceLE, arr_pos, arr_neg, C_impl_letters F (S.getD i []) hl (by rw [h1]; exact h) h2]
 ·rintro o rfl
  rw [List.take_length]
  simp (contextual := true) (maxSteps := 1000000) (disch := omega) only [↓Sd, ↓So, ↓Sk, ↓den, ↓denA, Sa, Sb, Sc, Se, O1.d, O2.d, O3.d, cmI, arI, envOf, putN, ↓reduceIte, Nat.reduceLT, Nat.reduceSub, Nat.reduceAdd, Int.reduceAdd, Int.reduceEq, Int.reduceLT, Int.reduceLE, arr_pos, arr_neg, ]
theorem las_bds {s : Sy} {S R : List (List Int)} (h : lasK s S R) : (∀ x ∈ S, x.length = s.1.length ∧ Bds x) ∧ ∀ x ∈ R, x.length = s.1.length ∧ Bds x := by
 obtain ⟨hv, h1, h2, h3, -, -⟩ := h
 have key : ∀ i, i < S.length + R.length → inR s.1 ((S ++ R).getD i []) := fun i hi => by rw [← atW_in hi]; exact h3 i (by omega)
 refine ⟨fun x hx => ?_, fun x hx => ?_⟩
 ·obtain ⟨i, hi, rfl⟩ := List.getElem_of_mem hx
  have := key i (by omega)
  rw [List.getD_eq_getElem?_getD, List.getElem?_append_left hi, List.getElem?_eq_getElem hi] at this
  exact ⟨this.1, inR.bds this hv.2.2.1⟩
 ·obtain ⟨i, hi, rfl⟩ := List.getElem_of_mem hx
  have := key (S.length + i) (by omega)
  rw [List.getD_eq_getElem?_getD, List.getElem?_append_right (by omega), Nat.add_sub_cancel_left, List.getElem?_eq_getElem hi] at this
  exact ⟨this.1, inR.bds this hv.2.2.1⟩
theorem ltr_b {F : List (List Tm)} {S : List (List Int)} {n : Nat} (h : ∀ i, i < F.length → kf (F.getD i []) n = 2) (hb : ∀ x ∈ S, x.length = n ∧ Bds x) : LtrB (S.map (ltr F)) F.length := by
 intro i hi
 rw [List.length_map] at hi
 obtain ⟨h1, h2⟩ := hb _ (getD_mem (d := []) hi)
 have e : (S.map (ltr F)).getD i [] = ltr F (S.getD i []) := by rw [getD_lt (by rw [List.length_map]; exact hi), List.getElem_map, getD_lt hi]
 rw [e]
 refine ⟨tab_len, fun j hj => ?_⟩
 rw [ltr, tab_get hj]
 rcases evl_bit (h j hj) h2 (by rw [h1]) with h3 | h3 <;> omega
noncomputable def hrB (s : Sy) (F : List (List Tm)) (l : List Tm) (S R : List (List Int)) : Bool := dB (fOk s F ∧ lasK s S R ∧ tV l F.length ∧ S.length + R.length ≤ 60) && hoV l (S.map (ltr F)) (R.map (ltr F))
theorem C_impl_HoldsOnRun (s : Sy) (F : List (List Tm)) (l : List Tm) (S R : List (List Int)) (hs : FewSy s) (hF : FewSS F) (hf : Few l) (h : SRok S R) (Q : List AV → Prop) : mc.C f_impl_HoldsOnRun [⟨L V3, s.1⟩, ⟨L TR, s.2⟩, ⟨L (L T4), F⟩, ⟨L T4, l⟩, ⟨L (L I), S⟩, ⟨L (L I), R⟩] Q = Q [⟨B, hrB s F l S R⟩] := by
 refine Mc.Ends.c (mc.ends F_impl_HoldsOnRun ?_)
 generalize hK : hrB s F l S R = K
 have hb1 := h.1.1
 have hb2 := h.2.1
 unfold hrB at hK
 have no : ¬ (fOk s F ∧ lasK s S R ∧ tV l F.length ∧ S.length + R.length ≤ 60) → false = K := fun g => by rw [← hK, dB_f g]; rfl
 by_cases h1 : fOk s F
 ·by_cases h2 : lasK s S R
  ·by_cases h3 : S.length + R.length ≤ 60
   ·by_cases h4 : tV l F.length
    ·obtain ⟨b1, b2⟩ := las_bds h2
     have hw := (ltr_b h1.2.2 b1).app (ltr_b h1.2.2 b2)
     have hll := h4.2.1
     have hfl := h1.2.1
     have hrl := @rowsT_len l (wlO (S.map (ltr F) ++ R.map (ltr F))) S.length (S.length + R.length) l.length
     have hR0 := h2.2.1
     have hto := fun Q => C_impl_timesOn l F.length (S.map (ltr F)) (R.map (ltr F)) _ h4 (by rw [List.length_map]; exact hR0) (by rw [List.length_map, List.length_map]; exact h3) hw Q
     simp only [List.length_map] at hto
     have hrg := rowsT_get (l := l) (wl := wlO (S.map (ltr F) ++ R.map (ltr F))) (s := S.length) (m := S.length + R.length) (k := l.length) (a := l.length - 1) (by omega)
     have hg0 := bR_get (m := S.length + R.length) (i := 0) (ρ := pf l (wlO (S.map (ltr F) ++ R.map (ltr F))) S.length (S.length + R.length) l.length (l.length - 1)) (by omega)
     simp (contextual := true) (maxSteps := 1000000) (disch := omega) only [↓Sd, ↓So, ↓Sk, ↓den, ↓denA, Sa, Sb, Sc, Se, O1.d, O2.d, O3.d, cmI, arI, envOf, putN, ↓reduceIte, Nat.reduceLT, Nat.reduceSub, Nat.reduceAdd, Int.reduceAdd, Int.reduceEq, Int.reduceLT, Int.reduceLE, arr_pos, arr_neg, tr_impl_HoldsOnRun, C_impl_factsOk s F hs hF, decide_eq_true h1, C_impl_LassoValid s S R hs h, dB_t h2, C_impl_TimesValid l F.length hf, decide_eq_true h4, C_impl_word F S s.1.length hfl hb1 h1.2.2 b1, C_impl_word F R s.1.length hfl hb2 h1.2.2 b2, hto, hrl, hrg, bR_len, hg0, bt_one]
     rw [← hK, dB_t (show fOk s F ∧ lasK s S R ∧ tV l F.length ∧ S.length + R.length ≤ 60 from ⟨h1, h2, h4, h3⟩), hoV, List.length_map, List.length_map]
     rfl
    ·simp (contextual := true) (maxSteps := 1000000) (disch := omega) only [↓Sd, ↓So, ↓Sk, ↓den, ↓denA, Sa, Sb, Sc, Se, O1.d, O2.d, O3.d, cmI, arI, envOf, putN, ↓reduceIte, Nat.reduceLT, Nat.reduceSub, Nat.reduceAdd, Int.reduceAdd, Int.reduceEq, Int.reduceLT, Int.reduceLE, arr_pos, arr_neg, tr_impl_HoldsOnRun, C_impl_factsOk s F hs hF, decide_eq_true h1, C_impl_LassoValid s S R hs h, dB_t h2, C_impl_TimesValid l F.length hf, decide_eq_false h4]
     exact no fun g => h4 g.2.2.1
   ·simp (contextual := true) (maxSteps := 1000000) (disch := omega) only [↓Sd, ↓So, ↓Sk, ↓den, ↓denA, Sa, Sb, Sc, Se, O1.d, O2.d, O3.d, cmI, arI, envOf, putN, ↓reduceIte, Nat.reduceLT, Nat.reduceSub, Nat.reduceAdd, Int.reduceAdd, Int.reduceEq, Int.reduceLT, Int.reduceLE, arr_pos, arr_neg, tr_impl_HoldsOnRun, C_impl_factsOk s F hs hF, decide_eq_true h1, C_impl_LassoValid s S R hs h, dB_t h2]
    exact no fun g => h3 g.2.2.2
  ·simp (contextual := true) (maxSteps := 1000000) (disch := omega) only [↓Sd, ↓So, ↓Sk, ↓den, ↓denA, Sa, Sb, Sc, Se, O1.d, O2.d, O3.d, cmI, arI, envOf, putN, ↓reduceIte, Nat.reduceLT, Nat.reduceSub, Nat.reduceAdd, Int.reduceAdd, Int.reduceEq, Int.reduceLT, Int.reduceLE, arr_pos, arr_neg, tr_impl_HoldsOnRun, C_impl_factsOk s F hs hF, decide_eq_true h1, C_impl_LassoValid s S R hs h, dB_f h2]
   exact no fun g => h2 g.2.1
 ·simp (contextual := true) (maxSteps := 1000000) (disch := omega) only [↓Sd, ↓So, ↓Sk, ↓den, ↓denA, Sa, Sb, Sc, Se, O1.d, O2.d, O3.d, cmI, arI, envOf, putN, ↓reduceIte, Nat.reduceLT, Nat.reduceSub, Nat.reduceAdd, Int.reduceAdd, Int.reduceEq, Int.reduceLT, Int.reduceLE, arr_pos, arr_neg, tr_impl_HoldsOnRun, C_impl_factsOk s F hs hF, decide_eq_false h1]
  exact no fun g => h1 g.1
theorem C_spec_HoldsOnRun (s : Sy) (F : List (List Tm)) (l : List Tm) (S R : List (List Int)) (hs : FewSy s) (hF : FewSS F) (hf : Few l) (h : SRok S R) (Q : List AV → Prop) : mc.C f_spec_HoldsOnRun [⟨L V3, s.1⟩, ⟨L TR, s.2⟩, ⟨L (L T4), F⟩, ⟨L T4, l⟩, ⟨L (L I), S⟩, ⟨L (L I), R⟩] Q = Q [⟨B, hrB s F l S R⟩] := by
 refine Mc.Ends.c (mc.ends F_spec_HoldsOnRun ?_)
 generalize hK : hrB s F l S R = K
 have hb1 := h.1.1
 have hb2 := h.2.1
 unfold hrB at hK
 have no : ¬ (fOk s F ∧ lasK s S R ∧ tV l F.length ∧ S.length + R.length ≤ 60) → false = K := fun g => by rw [← hK, dB_f g]; rfl
 by_cases h1 : fOk s F
 ·by_cases h2 : lasK s S R
  ·obtain ⟨b1, b2⟩ := las_bds h2
   have hfl := h1.2.1
   have hR0 := h2.2.1
   have hsr := h2.2.2.1
   have l1 := ltr_b h1.2.2 b1
   have l2 := ltr_b h1.2.2 b2
   simp (contextual := true) (maxSteps := 1000000) (disch := omega) only [↓Sd, ↓So, ↓Sk, ↓den, ↓denA, Sa, Sb, Sc, Se, O1.d, O2.d, O3.d, cmI, arI, envOf, putN, ↓reduceIte, Nat.reduceLT, Nat.reduceSub, Nat.reduceAdd, Int.reduceAdd, Int.reduceEq, Int.reduceLT, Int.reduceLE, arr_pos, arr_neg, tr_spec_HoldsOnRun, C_spec_l20Facts s F hs hF, decide_eq_true h1, C_spec_LassoValid s S R hs h, dB_t h2]
   refine mc.lp_for (List (List Int)) (fun i o => [⟨L (L T4), F⟩, ⟨L T4, l⟩, ⟨L (L I), S⟩, ⟨L (L I), R⟩, ⟨I, (i : Int)⟩, ⟨L (L I), o⟩, ⟨L (L I), []⟩]) (fun i o => o = (S.take i).map (ltr F)) S.length 0 [] _ rfl (Nat.zero_le _) rfl ?_ ?_
   ·rintro i o hi rfl
    obtain ⟨x1, x2⟩ := b1 _ (getD_mem (d := []) hi)
    have hml : ((S.take i).map (ltr F)).length ≤ 1048576 := by rw [List.length_map, List.length_take]; omega
    have hnx : (S.take (i + 1)).map (ltr F) = (S.take i).map (ltr F) ++ [ltr F (S.getD i [])] := by
     rw [List.take_succ_eq_append_getElem hi, List.map_append, getD_lt hi]; rfl
    rw [hnx]
    simp (contextual := true) (maxSteps := 1000000) (disch := omega) only [↓Sd, ↓So, ↓Sk, ↓den, ↓denA, Sa, Sb, Sc, Se, O1.d, O2.d, O3.d, cmI, arI, envOf, putN, ↓reduceIte, Nat.reduceLT, Nat.reduceSub, Nat.reduceAdd, Int.reduceAdd, Int.reduceEq, Int.reduceLT, Int.reduceLE, arr_pos, arr_neg, C_spec_l20Of F (S.getD i []) hfl (by rw [x1]; exact h1.2.2) x2]
   rintro o rfl
   rw [List.take_length]
   simp (contextual := true) (maxSteps := 1000000) (disch := omega) only [↓Sd, ↓So, ↓Sk, ↓den, ↓denA, Sa, Sb, Sc, Se, O1.d, O2.d, O3.d, cmI, arI, envOf, putN, ↓reduceIte, Nat.reduceLT, Nat.reduceSub, Nat.reduceAdd, Int.reduceAdd, Int.reduceEq, Int.reduceLT, Int.reduceLE, arr_pos, arr_neg, ]
   refine mc.lp_for (List (List Int)) (fun i o => [⟨L (L T4), F⟩, ⟨L T4, l⟩, ⟨L (L I), R⟩, ⟨I, (i : Int)⟩, ⟨L (L I), S.map (ltr F)⟩, ⟨L (L I), o⟩]) (fun i o => o = (R.take i).map (ltr F)) R.length 0 [] _ rfl (Nat.zero_le _) rfl ?_ ?_
   ·rintro i o hi rfl
    obtain ⟨x1, x2⟩ := b2 _ (getD_mem (d := []) hi)
    have hml : ((R.take i).map (ltr F)).length ≤ 1048576 := by rw [List.length_map, List.length_take]; omega
    have hnx : (R.take (i + 1)).map (ltr F) = (R.take i).map (ltr F) ++ [ltr F (R.getD i [])] := by
     rw [List.take_succ_eq_append_getElem hi, List.map_append, getD_lt hi]; rfl
    rw [hnx]
    simp (contextual := true) (maxSteps := 1000000) (disch := omega) only [↓Sd, ↓So, ↓Sk, ↓den, ↓denA, Sa, Sb, Sc, Se, O1.d, O2.d, O3.d, cmI, arI, envOf, putN, ↓reduceIte, Nat.reduceLT, Nat.reduceSub, Nat.reduceAdd, Int.reduceAdd, Int.reduceEq, Int.reduceLT, Int.reduceLE, arr_pos, arr_neg, C_spec_l20Of F (R.getD i []) hfl (by rw [x1]; exact h1.2.2) x2]
   rintro o rfl
   rw [List.take_length]
   simp (contextual := true) (maxSteps := 1000000) (disch := omega) only [↓Sd, ↓So, ↓Sk, ↓den, ↓denA, Sa, Sb, Sc, Se, O1.d, O2.d, O3.d, cmI, arI, envOf, putN, ↓reduceIte, Nat.reduceLT, Nat.reduceSub, Nat.reduceAdd, Int.reduceAdd, Int.reduceEq, Int.reduceLT, Int.reduceLE, arr_pos, arr_neg, C_spec_HoldsOn_b l F.length (S.map (ltr F)) (R.map (ltr F)) hf hfl (by rw [List.length_map]; exact hR0) l1 l2 ⟨by rw [List.length_map]; omega, by rw [List.length_map]; omega⟩]
   rw [← hK, List.length_map, List.length_map]
   rw [← dB_eq]
   congr 1
   exact dB_congr ⟨fun g => ⟨h1, h2, g.1, g.2⟩, fun g => ⟨g.2.2.1, g.2.2.2⟩⟩
  ·simp (contextual := true) (maxSteps := 1000000) (disch := omega) only [↓Sd, ↓So, ↓Sk, ↓den, ↓denA, Sa, Sb, Sc, Se, O1.d, O2.d, O3.d, cmI, arI, envOf, putN, ↓reduceIte, Nat.reduceLT, Nat.reduceSub, Nat.reduceAdd, Int.reduceAdd, Int.reduceEq, Int.reduceLT, Int.reduceLE, arr_pos, arr_neg, tr_spec_HoldsOnRun, C_spec_l20Facts s F hs hF, decide_eq_true h1, C_spec_LassoValid s S R hs h, dB_f h2]
   exact no fun g => h2 g.2.1
 ·simp (contextual := true) (maxSteps := 1000000) (disch := omega) only [↓Sd, ↓So, ↓Sk, ↓den, ↓denA, Sa, Sb, Sc, Se, O1.d, O2.d, O3.d, cmI, arI, envOf, putN, ↓reduceIte, Nat.reduceLT, Nat.reduceSub, Nat.reduceAdd, Int.reduceAdd, Int.reduceEq, Int.reduceLT, Int.reduceLE, arr_pos, arr_neg, tr_spec_HoldsOnRun, C_spec_l20Facts s F hs hF, decide_eq_false h1]
  exact no fun g => h1 g.1
theorem sz_IntSS (l : List (List Int)) (n : Int) (hn : 0 ≤ n ∧ n ≤ 1048576) (hl : Lt63 l) (hl2 : ∀ x ∈ l, Lt63 x) {Q : List AV → Prop} (h : ∀ k : Int, k ≤ n → (0 ≤ k → Few l ∧ ∀ x ∈ l, Few x) → Q [⟨I, k⟩]) : mc.C f_laws_szIntSS [⟨L (L I), l⟩, ⟨I, n⟩] Q := by
 unfold Lt63 at hl
 refine mc.c_of F_laws_szIntSS ?_
 simp (contextual := true) (maxSteps := 1000000) (disch := omega) only [↓Sd, ↓So, ↓Sk, ↓den, ↓denA, Sa, Sb, Sc, Se, O1.d, O2.d, O3.d, cmI, arI, envOf, putN, ↓reduceIte, Nat.reduceLT, Nat.reduceSub, Nat.reduceAdd, Int.reduceAdd, Int.reduceEq, Int.reduceLT, Int.reduceLE, arr_pos, arr_neg, tr_laws_szIntSS]
 refine ⟨fun h0 => h _ (by omega) (by omega), fun h0 => ?_⟩
 refine lp_sz (L I) l _ (fun x => Few x) _ ?_ ?_ ?_ (by omega)
 ·intro i k X hi h0 hk hX
  simp (contextual := true) (maxSteps := 1000000) (disch := omega) only [↓Sd, ↓So, ↓Sk, ↓den, ↓denA, Sa, Sb, Sc, Se, O1.d, O2.d, O3.d, cmI, arI, envOf, putN, ↓reduceIte, Nat.reduceLT, Nat.reduceSub, Nat.reduceAdd, Int.reduceAdd, Int.reduceEq, Int.reduceLT, Int.reduceLE, arr_pos, arr_neg, ]
  refine sz_IntS _ k ⟨h0, by omega⟩ (hl2 _ (getD_mem hi)) fun j h1 h2 => ?_
  simp (contextual := true) (maxSteps := 1000000) (disch := omega) only [↓Sd, ↓So, ↓Sk, ↓den, ↓denA, Sa, Sb, Sc, Se, O1.d, O2.d, O3.d, cmI, arI, envOf, putN, ↓reduceIte, Nat.reduceLT, Nat.reduceSub, Nat.reduceAdd, Int.reduceAdd, Int.reduceEq, Int.reduceLT, Int.reduceLE, arr_pos, arr_neg, ]
  exact fun h => ⟨by omega, hX j h1 h2⟩
 ·exact h _ (by omega) (by omega)
 ·intro k h0 hk hp
  simp (contextual := true) (maxSteps := 1000000) (disch := omega) only [↓Sd, ↓So, ↓Sk, ↓den, ↓denA, Sa, Sb, Sc, Se, O1.d, O2.d, O3.d, cmI, arI, envOf, putN, ↓reduceIte, Nat.reduceLT, Nat.reduceSub, Nat.reduceAdd, Int.reduceAdd, Int.reduceEq, Int.reduceLT, Int.reduceLE, arr_pos, arr_neg, ]
  exact h _ (by omega) fun _ => ⟨by unfold Few; omega, hp⟩
theorem to_IntSS (l : List (List Int)) (h : Few l) (h2 : ∀ x ∈ l, Few x) (Q : List AV → Prop) : mc.C f_laws_toIntSS [⟨L (L I), l⟩] Q = Q [⟨L (L I), l⟩] := by
 have := few_lim h
 refine Mc.Ends.c (mc.ends F_laws_toIntSS ?_)
 simp (contextual := true) (maxSteps := 1000000) (disch := omega) only [↓Sd, ↓So, ↓Sk, ↓den, ↓denA, Sa, Sb, Sc, Se, O1.d, O2.d, O3.d, cmI, arI, envOf, putN, ↓reduceIte, Nat.reduceLT, Nat.reduceSub, Nat.reduceAdd, Int.reduceAdd, Int.reduceEq, Int.reduceLT, Int.reduceLE, arr_pos, arr_neg, tr_laws_toIntSS]
 refine lp_copy (L I) l ?_ ?_
 ·intro i s hi hs
  simp (contextual := true) (maxSteps := 1000000) (disch := omega) only [↓Sd, ↓So, ↓Sk, ↓den, ↓denA, Sa, Sb, Sc, Se, O1.d, O2.d, O3.d, cmI, arI, envOf, putN, ↓reduceIte, Nat.reduceLT, Nat.reduceSub, Nat.reduceAdd, Int.reduceAdd, Int.reduceEq, Int.reduceLT, Int.reduceLE, arr_pos, arr_neg, to_IntS _ (h2 _ (getD_mem hi))]
 ·simp (contextual := true) (maxSteps := 1000000) (disch := omega) only [↓Sd, ↓So, ↓Sk, ↓den, ↓denA, Sa, Sb, Sc, Se, O1.d, O2.d, O3.d, cmI, arI, envOf, putN, ↓reduceIte, Nat.reduceLT, Nat.reduceSub, Nat.reduceAdd, Int.reduceAdd, Int.reduceEq, Int.reduceLT, Int.reduceLE, arr_pos, arr_neg, ]
theorem eq_IntSS_f (l : List (List Int)) (h : Few l) (h2 : ∀ x ∈ l, Few x) (Q : List AV → Prop) : mc.C f_laws_eqIntSS [⟨L (L I), l⟩, ⟨L (L I), l⟩] Q = Q [⟨B, true⟩] := by
 have := few_lim h
 refine Mc.Ends.c (mc.ends F_laws_eqIntSS ?_)
 simp (contextual := true) (maxSteps := 1000000) (disch := omega) only [↓Sd, ↓So, ↓Sk, ↓den, ↓denA, Sa, Sb, Sc, Se, O1.d, O2.d, O3.d, cmI, arI, envOf, putN, ↓reduceIte, Nat.reduceLT, Nat.reduceSub, Nat.reduceAdd, Int.reduceAdd, Int.reduceEq, Int.reduceLT, Int.reduceLE, arr_pos, arr_neg, tr_laws_eqIntSS]
 refine lp_self (L I) l (fun i hi => ?_) ?_
 ·simp (contextual := true) (maxSteps := 1000000) (disch := omega) only [↓Sd, ↓So, ↓Sk, ↓den, ↓denA, Sa, Sb, Sc, Se, O1.d, O2.d, O3.d, cmI, arI, envOf, putN, ↓reduceIte, Nat.reduceLT, Nat.reduceSub, Nat.reduceAdd, Int.reduceAdd, Int.reduceEq, Int.reduceLT, Int.reduceLE, arr_pos, arr_neg, eq_IntS _ (h2 _ (getD_mem hi))]
 ·simp (contextual := true) (maxSteps := 1000000) (disch := omega) only [↓Sd, ↓So, ↓Sk, ↓den, ↓denA, Sa, Sb, Sc, Se, O1.d, O2.d, O3.d, cmI, arI, envOf, putN, ↓reduceIte, Nat.reduceLT, Nat.reduceSub, Nat.reduceAdd, Int.reduceAdd, Int.reduceEq, Int.reduceLT, Int.reduceLE, arr_pos, arr_neg, ]
theorem law_FnExactHoldsOnRun (s : Sy) (F : List (List Tm)) (l : List Tm) (S R : List (List Int)) (hs : LtSy s) (hF : Lt63 F) (hF2 : ∀ x ∈ F, Lt63 x) (hl : Lt63 l) (hS : Lt63 S) (hS2 : ∀ x ∈ S, Lt63 x) (hR : Lt63 R) (hR2 : ∀ x ∈ R, Lt63 x) : mc.C f_laws_FnExactHoldsOnRun [⟨L V3, s.1⟩, ⟨L TR, s.2⟩, ⟨L (L T4), F⟩, ⟨L T4, l⟩, ⟨L (L I), S⟩, ⟨L (L I), R⟩] (· = [⟨B, true⟩]) := by
 refine mc.c_of F_laws_FnExactHoldsOnRun ?_
 simp (contextual := true) (maxSteps := 1000000) (disch := omega) only [↓Sd, ↓So, ↓Sk, ↓den, ↓denA, Sa, Sb, Sc, Se, O1.d, O2.d, O3.d, cmI, arI, envOf, putN, ↓reduceIte, Nat.reduceLT, Nat.reduceSub, Nat.reduceAdd, Int.reduceAdd, Int.reduceEq, Int.reduceLT, Int.reduceLE, arr_pos, arr_neg, tr_laws_FnExactHoldsOnRun]
 refine sz_System s _ (by omega) hs fun j1 a1 a2 => ?_
 simp (contextual := true) (maxSteps := 1000000) (disch := omega) only [↓Sd, ↓So, ↓Sk, ↓den, ↓denA, Sa, Sb, Sc, Se, O1.d, O2.d, O3.d, cmI, arI, envOf, putN, ↓reduceIte, Nat.reduceLT, Nat.reduceSub, Nat.reduceAdd, Int.reduceAdd, Int.reduceEq, Int.reduceLT, Int.reduceLE, arr_pos, arr_neg, ]
 intro a3
 have hs := a2 (by omega)
 refine sz_TermSS F _ (by omega) hF hF2 fun j2 b1 b2 => ?_
 simp (contextual := true) (maxSteps := 1000000) (disch := omega) only [↓Sd, ↓So, ↓Sk, ↓den, ↓denA, Sa, Sb, Sc, Se, O1.d, O2.d, O3.d, cmI, arI, envOf, putN, ↓reduceIte, Nat.reduceLT, Nat.reduceSub, Nat.reduceAdd, Int.reduceAdd, Int.reduceEq, Int.reduceLT, Int.reduceLE, arr_pos, arr_neg, ]
 intro b3
 have hF := b2 (by omega)
 refine sz_TimeS l _ (by omega) hl fun j3 c1 c2 => ?_
 simp (contextual := true) (maxSteps := 1000000) (disch := omega) only [↓Sd, ↓So, ↓Sk, ↓den, ↓denA, Sa, Sb, Sc, Se, O1.d, O2.d, O3.d, cmI, arI, envOf, putN, ↓reduceIte, Nat.reduceLT, Nat.reduceSub, Nat.reduceAdd, Int.reduceAdd, Int.reduceEq, Int.reduceLT, Int.reduceLE, arr_pos, arr_neg, ]
 intro c3
 have hf := c2 (by omega)
 refine sz_IntSS S _ (by omega) hS hS2 fun j4 d1 d2 => ?_
 simp (contextual := true) (maxSteps := 1000000) (disch := omega) only [↓Sd, ↓So, ↓Sk, ↓den, ↓denA, Sa, Sb, Sc, Se, O1.d, O2.d, O3.d, cmI, arI, envOf, putN, ↓reduceIte, Nat.reduceLT, Nat.reduceSub, Nat.reduceAdd, Int.reduceAdd, Int.reduceEq, Int.reduceLT, Int.reduceLE, arr_pos, arr_neg, ]
 intro d3
 have hS := d2 (by omega)
 refine sz_IntSS R _ (by omega) hR hR2 fun j5 e1 e2 => ?_
 simp (contextual := true) (maxSteps := 1000000) (disch := omega) only [↓Sd, ↓So, ↓Sk, ↓den, ↓denA, Sa, Sb, Sc, Se, O1.d, O2.d, O3.d, cmI, arI, envOf, putN, ↓reduceIte, Nat.reduceLT, Nat.reduceSub, Nat.reduceAdd, Int.reduceAdd, Int.reduceEq, Int.reduceLT, Int.reduceLE, arr_pos, arr_neg, ]
 intro e3
 have hR := e2 (by omega)
 have hok : SRok S R := ⟨⟨hS.1, fun x hx => hS.2 x hx⟩, hR.1, fun x hx => hR.2 x hx⟩
 simp (contextual := true) (maxSteps := 1000000) (disch := omega) only [↓Sd, ↓So, ↓Sk, ↓den, ↓denA, Sa, Sb, Sc, Se, O1.d, O2.d, O3.d, cmI, arI, envOf, putN, ↓reduceIte, Nat.reduceLT, Nat.reduceSub, Nat.reduceAdd, Int.reduceAdd, Int.reduceEq, Int.reduceLT, Int.reduceLE, arr_pos, arr_neg, to_System s hs, to_TermSS F hF.1 hF.2, to_TimeS l hf, to_IntSS S hS.1 hS.2, to_IntSS R hR.1 hR.2, C_spec_HoldsOnRun s F l S R hs hF hf hok, C_impl_HoldsOnRun s F l S R hs hF hf hok, eq_System s hs, eq_TermSS F hF.1 hF.2, eq_TimeS l hf, eq_IntSS_f S hS.1 hS.2, eq_IntSS_f R hR.1 hR.2]
end Go.Proofs.YthapopegchnhlaaGreat
