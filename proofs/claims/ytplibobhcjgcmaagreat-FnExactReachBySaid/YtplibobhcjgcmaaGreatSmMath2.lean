/- What the trees come to: plain mathematics; no condition. -/
import Derived.Test.YtplibobhcjgcmaaGreatSmMath1
/- What the trees come to. -/
namespace Go.Proofs.YtplibobhcjgcmaaGreat
open Go Go.Sm Go.Sm.Q
set_option linter.unusedSimpArgs false
set_option linter.unusedVariables false
theorem Rch.trans {T : List (List Int)} {a b c : Nat} (h : Rch T [(a : Int)] b) (h2 : Rch T [(b : Int)] c) : Rch T [(a : Int)] c := by
  induction h2 with
  | base h3 => simp only [List.mem_singleton] at h3; have h3 := Int.ofNat_inj.1 h3; subst h3; exact h
  | step _ h3 ih => exact .step ih h3
theorem Rch.one {T : List (List Int)} {a : Nat} : Rch T [(a : Int)] a := .base (by simp)
/-- The steps of a table the other way round. -/
def Rev (T U : List (List Int)) (n : Nat) : Prop := ∀ k a : Nat, k < n → ((a : Int) ∈ U.getD k [] ↔ a < n ∧ (k : Int) ∈ T.getD a [])
theorem rch_rev {T U : List (List Int)} {n i k : Nat} (hu : Tbl U n) (ht : Tbl T n) (hr : Rev T U n) (hi : i < n) (hk : k < n) : Rch U [(i : Int)] k ↔ Rch T [(k : Int)] i := by
  constructor
  · intro h
    have key : ∀ k, Rch U [(i : Int)] k → k < n ∧ Rch T [(k : Int)] i := by
      intro k h
      induction h with
      | base h1 => simp only [List.mem_singleton] at h1; have h1 := Int.ofNat_inj.1 h1; subst h1; exact ⟨hi, .one⟩
      | step _ h1 ih =>
        obtain ⟨h2, h3⟩ := (hr _ _ ih.1).1 h1
        exact ⟨h2, Rch.trans (.step .one h3) ih.2⟩
    exact (key k h).2
  · intro h
    have key : ∀ i, Rch T [(k : Int)] i → i < n ∧ Rch U [(i : Int)] k := by
      intro i h
      induction h with
      | base h1 => simp only [List.mem_singleton] at h1; have h1 := Int.ofNat_inj.1 h1; subst h1; exact ⟨hk, .one⟩
      | step _ h1 ih =>
        have h2 := ht.row _ h1
        have h3 := (hr _ _ (by omega)).2 ⟨ih.1, h1⟩
        exact ⟨by omega, Rch.trans (.step .one h3) ih.2⟩
    exact (key i h).2
theorem rev_pasts {T : List (List Int)} {n : Nat} : Rev T (pasts T n) n := by
  intro k a hk
  rw [pasts_get hk, pastL_mem]
  constructor
  · rintro ⟨b, h1, h2, h3⟩
    have : a = b := by omega
    subst this
    exact ⟨h1, h3⟩
  · rintro ⟨h1, h2⟩
    exact ⟨a, h1, rfl, h2⟩
theorem rev_turned {T : List (List Int)} {n : Nat} : Rev T (turned T n) n := fun k a hk => turned_get hk
/-- Do they lie in one component? -/
def eqv (T : List (List Int)) (i k : Nat) : Prop := Rch T [(i : Int)] k ∧ Rch T [(k : Int)] i
/-- The least number ahead of i in the component, or -1. -/
noncomputable def cmp (T : List (List Int)) : Nat → Nat → Int
  | 0, _ => -1
  | i + 1, k => if 0 ≤ cmp T i k then cmp T i k else if dB (eqv T i k) = true then (i : Int) else -1
theorem cmp_spec {T : List (List Int)} : ∀ {i k : Nat}, (0 ≤ cmp T i k ↔ ∃ m, m < i ∧ eqv T m k) ∧ -1 ≤ cmp T i k
  | 0, k => ⟨⟨fun h => by simp [cmp] at h, fun ⟨m, h, _⟩ => absurd h (Nat.not_lt_zero _)⟩, by simp [cmp]⟩
  | i + 1, k => by
    have ih := @cmp_spec T i k
    unfold cmp
    by_cases g : 0 ≤ cmp T i k
    · rw [if_pos g]
      obtain ⟨m, h1, h2⟩ := ih.1.1 g
      exact ⟨⟨fun _ => ⟨m, by omega, h2⟩, fun _ => g⟩, by omega⟩
    · rw [if_neg g]
      by_cases g2 : eqv T i k
      · rw [if_pos (dB_t g2)]
        exact ⟨⟨fun _ => ⟨i, by omega, g2⟩, fun _ => by omega⟩, by omega⟩
      · rw [if_neg (by rw [dB_f g2]; simp)]
        refine ⟨⟨fun h => by omega, fun ⟨m, h1, h2⟩ => ?_⟩, by omega⟩
        by_cases e : m = i
        · subst e; exact absurd h2 g2
        · exact absurd (ih.1.2 ⟨m, by omega, h2⟩) g
theorem cmp_old {T : List (List Int)} {i k : Nat} (h : 0 ≤ cmp T i i) : cmp T (i + 1) k = cmp T i k := by
  have h1 := @cmp_spec T i k
  rw [cmp]
  by_cases g : 0 ≤ cmp T i k
  · rw [if_pos g]
  · rw [if_neg g, if_neg]
    · have h2 := h1.2
      omega
    · intro h2
      have h2 := dB_iff.1 h2
      obtain ⟨m, h3, h4⟩ := cmp_spec.1.1 h
      exact g (h1.1.2 ⟨m, h3, h4.1.trans h2.1, h2.2.trans h4.2⟩)
theorem cmp_new {T : List (List Int)} {i k : Nat} (h : ¬ 0 ≤ cmp T i i) : cmp T (i + 1) k = if dB (eqv T i k) = true then (i : Int) else cmp T i k := by
  have h1 := @cmp_spec T i k
  rw [cmp]
  by_cases g2 : eqv T i k
  · rw [if_pos (dB_t g2), if_pos (dB_t g2), if_neg]
    intro g
    obtain ⟨m, h3, h4⟩ := h1.1.1 g
    exact h (cmp_spec.1.2 ⟨m, h3, h4.1.trans g2.2, g2.1.trans h4.2⟩)
  · have e : ¬ dB (eqv T i k) = true := by rw [dB_f g2]; simp
    rw [if_neg e, if_neg e]
    have h2 := h1.2
    split
    · rfl
    · omega
theorem cmp_bd {T : List (List Int)} {k : Nat} : ∀ {i : Nat}, cmp T i k < i ∨ cmp T i k = -1
  | 0 => .inr rfl
  | i + 1 => by
    have := @cmp_bd T k i
    rw [cmp]
    split
    · left; omega
    · split <;> omega
theorem rch_self_tab {T : List (List Int)} {n i k : Nat} (hk : k < n) : (tab (fun k => dB (Rch T [(i : Int)] k)) n).getD k false = dB (Rch T [(i : Int)] k) := tab_get hk
theorem eqv_sym {T : List (List Int)} {i k : Nat} (h : eqv T i k) : eqv T k i := ⟨h.2, h.1⟩
theorem cmp_row_y {T : List (List Int)} {n i j : Nat} (h : ¬ 0 ≤ cmp T i i) (g : eqv T i j) :
    tab (fun k => if k = j then (i : Int) else if k < j then cmp T (i + 1) k else cmp T i k) n = tab (fun k => if k < j + 1 then cmp T (i + 1) k else cmp T i k) n := by
  refine tab_congr fun k _ => ?_
  by_cases e : k = j
  · subst e
    rw [if_pos rfl, if_pos (by omega), cmp_new h, if_pos (dB_t g)]
  · rw [if_neg e]
    by_cases e2 : k < j
    · rw [if_pos e2, if_pos (by omega)]
    · rw [if_neg e2, if_neg (by omega)]
theorem cmp_row_n {T : List (List Int)} {n i j : Nat} (h : ¬ 0 ≤ cmp T i i) (g : ¬ eqv T i j) :
    tab (fun k => if k < j then cmp T (i + 1) k else cmp T i k) n = tab (fun k => if k < j + 1 then cmp T (i + 1) k else cmp T i k) n := by
  refine tab_congr fun k _ => ?_
  by_cases e : k = j
  · subst e
    have : ¬ dB (eqv T i k) = true := by rw [dB_f g]; simp
    rw [if_neg (by omega), if_pos (by omega), cmp_new h, if_neg this]
  · by_cases e2 : k < j
    · rw [if_pos e2, if_pos (by omega)]
    · rw [if_neg e2, if_neg (by omega)]
theorem cmp_row_s {T : List (List Int)} {n i : Nat} (h : ¬ 0 ≤ cmp T i i) : tab (cmp T i) n = tab (fun k => if k < i then cmp T (i + 1) k else cmp T i k) n := by
  refine tab_congr fun k _ => ?_
  split
  · rename_i g
    have : ¬ dB (eqv T i k) = true := fun g2 => h (cmp_spec.1.2 ⟨k, g, eqv_sym (dB_iff.1 g2)⟩)
    rw [cmp_new h, if_neg this]
  · rfl
theorem cmp_row_e {T : List (List Int)} {n i : Nat} : tab (fun k => if k < n then cmp T (i + 1) k else cmp T i k) n = tab (cmp T (i + 1)) n := tab_congr fun k hk => if_pos hk
theorem C_impl_components (T : List (List Int)) (n : Nat) (ht : Tb8 T n) (Q : List AV → Prop) : mc.C f_impl_components [⟨L (L I), T⟩] Q = Q [⟨L I, tab (cmp T n) n⟩] := by
  have hl := ht.1.1
  have hn := ht.2.1
  have hpt := pasts_tbl ht
  refine Mc.Ends.c (mc.ends F_impl_components ?_)
  simp (contextual := true) (maxSteps := 1000000) (disch := omega) only [↓Sd, ↓So, ↓Sk, ↓den, ↓denA, Sa, Sb, Sc, Se, O1.d, O2.d, O3.d, cmI, arI, envOf, putN, ↓reduceIte, Nat.reduceLT, Nat.reduceSub, Nat.reduceAdd, Int.reduceAdd, Int.reduceEq, Int.reduceLT, Int.reduceLE, arr_pos, arr_neg, tr_impl_components, hl, C_slices_Repeat (-1) n (by omega), C_impl_pasts T n ht]
  refine mc.lp_for (List Int) (fun i o => [⟨L (L I), T⟩, ⟨I, (n : Int)⟩, ⟨I, (i : Int)⟩, ⟨L I, o⟩, ⟨L (L I), pasts T n⟩]) (fun i o => o = tab (cmp T i) n) n 0 (List.replicate n (-1)) _ rfl (Nat.zero_le _) (by rw [rep_tab]; rfl) ?_ ?_
  · rintro i o hi rfl
    have hF : ∀ x ∈ [(i : Int)], 0 ≤ x ∧ x < n := by intro x hx; simp only [List.mem_singleton] at hx; omega
    simp (contextual := true) (maxSteps := 1000000) (disch := omega) only [↓Sd, ↓So, ↓Sk, ↓den, ↓denA, Sa, Sb, Sc, Se, O1.d, O2.d, O3.d, cmI, arI, envOf, putN, ↓reduceIte, Nat.reduceLT, Nat.reduceSub, Nat.reduceAdd, Int.reduceAdd, Int.reduceEq, Int.reduceLT, Int.reduceLE, arr_pos, arr_neg, ↓wpJoin, tab_len, tab_get hi]
    refine ⟨fun g => ?_, fun g => ?_⟩
    · exact tab_congr fun k _ => (cmp_old (k := k) g).symm
    · simp (contextual := true) (maxSteps := 1000000) (disch := omega) only [↓Sd, ↓So, ↓Sk, ↓den, ↓denA, Sa, Sb, Sc, Se, O1.d, O2.d, O3.d, cmI, arI, envOf, putN, ↓reduceIte, Nat.reduceLT, Nat.reduceSub, Nat.reduceAdd, Int.reduceAdd, Int.reduceEq, Int.reduceLT, Int.reduceLE, arr_pos, arr_neg, C_impl_reach T [(i : Int)] n (by simp) (by omega) ht.1 hF (by simp), C_impl_reach (pasts T n) [(i : Int)] n (by simp) (by omega) hpt hF (by simp), hl]
      refine mc.lp_for (List Int) (fun j o => [⟨L (L I), T⟩, ⟨I, (i : Int)⟩, ⟨I, (n : Int)⟩, ⟨I, (i : Int)⟩, ⟨I, (n : Int)⟩, ⟨I, (j : Int)⟩, ⟨L I, o⟩, ⟨L (L I), pasts T n⟩, ⟨L B, tab (fun k => dB (Rch T [(i : Int)] k)) n⟩, ⟨L B, tab (fun k => dB (Rch (pasts T n) [(i : Int)] k)) n⟩])
        (fun j o => o = tab (fun k => if k < j then cmp T (i + 1) k else cmp T i k) n) n 0 (tab (cmp T i) n) _ rfl (Nat.zero_le _) (by simp) ?_ ?_
      · rintro j o hj rfl
        have e1 : dB (Rch (pasts T n) [(i : Int)] j) = dB (Rch T [(j : Int)] i) := dB_congr (rch_rev hpt ht.1 rev_pasts hi hj)
        simp (contextual := true) (maxSteps := 1000000) (disch := omega) only [↓Sd, ↓So, ↓Sk, ↓den, ↓denA, Sa, Sb, Sc, Se, O1.d, O2.d, O3.d, cmI, arI, envOf, putN, ↓reduceIte, Nat.reduceLT, Nat.reduceSub, Nat.reduceAdd, Int.reduceAdd, Int.reduceEq, Int.reduceLT, Int.reduceLE, arr_pos, arr_neg, ↓wpJoin, tab_len, tab_get hj, rch_self_tab hj, e1, tab_set']
        refine ⟨fun g1 => ⟨fun g2 => cmp_row_y g ⟨dB_iff.1 g1, dB_iff.1 g2⟩, fun g2 => cmp_row_n g fun h => g2 (dB_t h.2)⟩, fun g1 => cmp_row_n g fun h => g1 (dB_t h.1)⟩
      · rintro o rfl
        rw [cmp_row_e]
        simp (contextual := true) (maxSteps := 1000000) (disch := omega) only [↓Sd, ↓So, ↓Sk, ↓den, ↓denA, Sa, Sb, Sc, Se, O1.d, O2.d, O3.d, cmI, arI, envOf, putN, ↓reduceIte, Nat.reduceLT, Nat.reduceSub, Nat.reduceAdd, Int.reduceAdd, Int.reduceEq, Int.reduceLT, Int.reduceLE, arr_pos, arr_neg, ]
  · rintro o rfl
    simp (contextual := true) (maxSteps := 1000000) (disch := omega) only [↓Sd, ↓So, ↓Sk, ↓den, ↓denA, Sa, Sb, Sc, Se, O1.d, O2.d, O3.d, cmI, arI, envOf, putN, ↓reduceIte, Nat.reduceLT, Nat.reduceSub, Nat.reduceAdd, Int.reduceAdd, Int.reduceEq, Int.reduceLT, Int.reduceLE, arr_pos, arr_neg, ]
theorem C_spec_l5Parts (T : List (List Int)) (n : Nat) (ht : Tb8 T n) (Q : List AV → Prop) : mc.C f_spec_l5Parts [⟨L (L I), T⟩] Q = Q [⟨L I, tab (cmp T n) n⟩] := by
  have hl := ht.1.1
  have hn := ht.2.1
  have htt := turned_tbl (T := T) (n := n) (by omega)
  refine Mc.Ends.c (mc.ends F_spec_l5Parts ?_)
  simp (contextual := true) (maxSteps := 1000000) (disch := omega) only [↓Sd, ↓So, ↓Sk, ↓den, ↓denA, Sa, Sb, Sc, Se, O1.d, O2.d, O3.d, cmI, arI, envOf, putN, ↓reduceIte, Nat.reduceLT, Nat.reduceSub, Nat.reduceAdd, Int.reduceAdd, Int.reduceEq, Int.reduceLT, Int.reduceLE, arr_pos, arr_neg, tr_spec_l5Parts, C_spec_l5Turned T n (by omega) ht.1]
  refine mc.lp_for (List Int) (fun i o => [⟨L (L I), T⟩, ⟨I, (i : Int)⟩, ⟨L (L I), turned T n⟩, ⟨L I, o⟩]) (fun i o => o = tab (fun _ => -1) i) n 0 [] _ rfl (Nat.zero_le _) rfl ?_ ?_
  · rintro i o hi rfl
    simp (contextual := true) (maxSteps := 1000000) (disch := omega) only [↓Sd, ↓So, ↓Sk, ↓den, ↓denA, Sa, Sb, Sc, Se, O1.d, O2.d, O3.d, cmI, arI, envOf, putN, ↓reduceIte, Nat.reduceLT, Nat.reduceSub, Nat.reduceAdd, Int.reduceAdd, Int.reduceEq, Int.reduceLT, Int.reduceLE, arr_pos, arr_neg, hl, tab_len]
    exact tab_next
  rintro o rfl
  simp (contextual := true) (maxSteps := 1000000) (disch := omega) only [↓Sd, ↓So, ↓Sk, ↓den, ↓denA, Sa, Sb, Sc, Se, O1.d, O2.d, O3.d, cmI, arI, envOf, putN, ↓reduceIte, Nat.reduceLT, Nat.reduceSub, Nat.reduceAdd, Int.reduceAdd, Int.reduceEq, Int.reduceLT, Int.reduceLE, arr_pos, arr_neg, hl]
  refine mc.lp_for (List Int) (fun i o => [⟨L (L I), T⟩, ⟨I, (i : Int)⟩, ⟨L (L I), turned T n⟩, ⟨L I, o⟩]) (fun i o => o = tab (cmp T i) n) n 0 (tab (fun _ => -1) n) _ rfl (Nat.zero_le _) rfl ?_ ?_
  · rintro i o hi rfl
    have hF : ∀ x ∈ [(i : Int)], 0 ≤ x ∧ x < n := by intro x hx; simp only [List.mem_singleton] at hx; omega
    simp (contextual := true) (maxSteps := 1000000) (disch := omega) only [↓Sd, ↓So, ↓Sk, ↓den, ↓denA, Sa, Sb, Sc, Se, O1.d, O2.d, O3.d, cmI, arI, envOf, putN, ↓reduceIte, Nat.reduceLT, Nat.reduceSub, Nat.reduceAdd, Int.reduceAdd, Int.reduceEq, Int.reduceLT, Int.reduceLE, arr_pos, arr_neg, ↓wpJoin, tab_len, tab_get hi]
    refine ⟨fun g => ?_, fun g => ?_⟩
    · have g' : ¬ 0 ≤ cmp T i i := fun h => absurd g (by show ¬ cmp T i i < 0; omega)
      simp (contextual := true) (maxSteps := 1000000) (disch := omega) only [↓Sd, ↓So, ↓Sk, ↓den, ↓denA, Sa, Sb, Sc, Se, O1.d, O2.d, O3.d, cmI, arI, envOf, putN, ↓reduceIte, Nat.reduceLT, Nat.reduceSub, Nat.reduceAdd, Int.reduceAdd, Int.reduceEq, Int.reduceLT, Int.reduceLE, arr_pos, arr_neg, hl, C_spec_l4Marks [(i : Int)] n (by omega) (by simp) hF, C_spec_l5Steps T _ [(i : Int)] n (by omega) ht.1 hF (fun k _ => dB_iff), C_spec_l5Steps (turned T n) _ [(i : Int)] n (by omega) htt hF (fun k _ => dB_iff)]
      refine mc.lp_for (List Int) (fun j o => [⟨L (L I), T⟩, ⟨I, (i : Int)⟩, ⟨I, (j : Int)⟩, ⟨L (L I), turned T n⟩, ⟨L I, o⟩, ⟨L I, tab (dst T [(i : Int)]) n⟩, ⟨L I, tab (dst (turned T n) [(i : Int)]) n⟩])
        (fun j o => o = tab (fun k => if k < j then cmp T (i + 1) k else cmp T i k) n) n i (tab (cmp T i) n) _ rfl (by omega) (cmp_row_s g') ?_ ?_
      · rintro j o hj rfl
        have e1 : 0 ≤ dst (turned T n) [(i : Int)] j ↔ Rch T [(j : Int)] i := dst_rch.trans (rch_rev htt ht.1 rev_turned hi hj)
        have e2 : 0 ≤ dst T [(i : Int)] j ↔ Rch T [(i : Int)] j := dst_rch
        simp (contextual := true) (maxSteps := 1000000) (disch := omega) only [↓Sd, ↓So, ↓Sk, ↓den, ↓denA, Sa, Sb, Sc, Se, O1.d, O2.d, O3.d, cmI, arI, envOf, putN, ↓reduceIte, Nat.reduceLT, Nat.reduceSub, Nat.reduceAdd, Int.reduceAdd, Int.reduceEq, Int.reduceLT, Int.reduceLE, arr_pos, arr_neg, ↓wpJoin, tab_len, hl, tab_get hj, tab_set']
        exact ⟨fun g1 => ⟨fun g2 => cmp_row_y g' ⟨e2.1 g1, e1.1 g2⟩, fun g2 => cmp_row_n g' fun h => g2 (e1.2 h.2)⟩, fun g1 => cmp_row_n g' fun h => g1 (e2.2 h.1)⟩
      · rintro o rfl
        rw [cmp_row_e]
        simp (contextual := true) (maxSteps := 1000000) (disch := omega) only [↓Sd, ↓So, ↓Sk, ↓den, ↓denA, Sa, Sb, Sc, Se, O1.d, O2.d, O3.d, cmI, arI, envOf, putN, ↓reduceIte, Nat.reduceLT, Nat.reduceSub, Nat.reduceAdd, Int.reduceAdd, Int.reduceEq, Int.reduceLT, Int.reduceLE, arr_pos, arr_neg, hl]
    · have g' : 0 ≤ cmp T i i := Int.not_lt.1 g
      exact tab_congr fun k _ => (cmp_old (k := k) g').symm
  · rintro o rfl
    simp (contextual := true) (maxSteps := 1000000) (disch := omega) only [↓Sd, ↓So, ↓Sk, ↓den, ↓denA, Sa, Sb, Sc, Se, O1.d, O2.d, O3.d, cmI, arI, envOf, putN, ↓reduceIte, Nat.reduceLT, Nat.reduceSub, Nat.reduceAdd, Int.reduceAdd, Int.reduceEq, Int.reduceLT, Int.reduceLE, arr_pos, arr_neg, hl]
noncomputable def cmpV (s : Sy) : List Int := if valid s then tab (cmp (steps s) (szn s.1)) (szn s.1) else []
theorem cmpV_len (s : Sy) : (cmpV s).length ≤ 400 := by
  unfold cmpV
  exact ite_few fun h => by rw [tab_len]; have := szn_eq h; omega
theorem C_impl_Components (s : Sy) (hs : FewSy s) (Q : List AV → Prop) : mc.C f_impl_Components [⟨L V3, s.1⟩, ⟨L TR, s.2⟩] Q = Q [⟨L I, cmpV s⟩] := by
  refine Mc.Ends.c (mc.ends F_impl_Components ?_)
  have hlen := cmpV_len s
  generalize hK : cmpV s = K at *
  unfold cmpV at hK
  simp (contextual := true) (maxSteps := 1000000) (disch := omega) only [↓Sd, ↓So, ↓Sk, ↓den, ↓denA, Sa, Sb, Sc, Se, O1.d, O2.d, O3.d, cmI, arI, envOf, putN, ↓reduceIte, Nat.reduceLT, Nat.reduceSub, Nat.reduceAdd, Int.reduceAdd, Int.reduceEq, Int.reduceLT, Int.reduceLE, arr_pos, arr_neg, tr_impl_Components, C_impl_SystemValid s hs]
  refine ⟨fun h => ?_, fun h => ?_⟩
  · rw [if_neg h] at hK; exact hK
  · rw [if_pos h] at hK
    simp (contextual := true) (maxSteps := 1000000) (disch := omega) only [↓Sd, ↓So, ↓Sk, ↓den, ↓denA, Sa, Sb, Sc, Se, O1.d, O2.d, O3.d, cmI, arI, envOf, putN, ↓reduceIte, Nat.reduceLT, Nat.reduceSub, Nat.reduceAdd, Int.reduceAdd, Int.reduceEq, Int.reduceLT, Int.reduceLE, arr_pos, arr_neg, C_impl_nexts s h, C_impl_components _ _ (steps_tb8 h), hK, C_impl_clone_int K (by omega)]
theorem C_spec_Components (s : Sy) (hs : FewSy s) (Q : List AV → Prop) : mc.C f_spec_Components [⟨L V3, s.1⟩, ⟨L TR, s.2⟩] Q = Q [⟨L I, cmpV s⟩] := by
  refine Mc.Ends.c (mc.ends F_spec_Components ?_)
  generalize hK : cmpV s = K at *
  unfold cmpV at hK
  simp (contextual := true) (maxSteps := 1000000) (disch := omega) only [↓Sd, ↓So, ↓Sk, ↓den, ↓denA, Sa, Sb, Sc, Se, O1.d, O2.d, O3.d, cmI, arI, envOf, putN, ↓reduceIte, Nat.reduceLT, Nat.reduceSub, Nat.reduceAdd, Int.reduceAdd, Int.reduceEq, Int.reduceLT, Int.reduceLE, arr_pos, arr_neg, tr_spec_Components, C_spec_SystemValid s hs]
  refine ⟨fun h => ?_, fun h => ?_⟩
  · rw [if_neg h] at hK; exact hK
  · rw [if_pos h] at hK
    simp (contextual := true) (maxSteps := 1000000) (disch := omega) only [↓Sd, ↓So, ↓Sk, ↓den, ↓denA, Sa, Sb, Sc, Se, O1.d, O2.d, O3.d, cmI, arI, envOf, putN, ↓reduceIte, Nat.reduceLT, Nat.reduceSub, Nat.reduceAdd, Int.reduceAdd, Int.reduceEq, Int.reduceLT, Int.reduceLE, arr_pos, arr_neg, C_spec_l4Steps s hs h, C_spec_l5Parts _ _ (steps_tb8 h), hK]
theorem law_FnExactComponents (s : Sy) (hs : LtSy s) : mc.C f_laws_FnExactComponents [⟨L V3, s.1⟩, ⟨L TR, s.2⟩] (· = [⟨B, true⟩]) := by
  refine mc.c_of F_laws_FnExactComponents ?_
  simp (contextual := true) (maxSteps := 1000000) (disch := omega) only [↓Sd, ↓So, ↓Sk, ↓den, ↓denA, Sa, Sb, Sc, Se, O1.d, O2.d, O3.d, cmI, arI, envOf, putN, ↓reduceIte, Nat.reduceLT, Nat.reduceSub, Nat.reduceAdd, Int.reduceAdd, Int.reduceEq, Int.reduceLT, Int.reduceLE, arr_pos, arr_neg, tr_laws_FnExactComponents]
  refine sz_System s _ (by omega) hs fun j h2 h3 => ?_
  simp (contextual := true) (maxSteps := 1000000) (disch := omega) only [↓Sd, ↓So, ↓Sk, ↓den, ↓denA, Sa, Sb, Sc, Se, O1.d, O2.d, O3.d, cmI, arI, envOf, putN, ↓reduceIte, Nat.reduceLT, Nat.reduceSub, Nat.reduceAdd, Int.reduceAdd, Int.reduceEq, Int.reduceLT, Int.reduceLE, arr_pos, arr_neg, ]
  intro h4
  have hs := h3 (by omega)
  obtain ⟨K, hK⟩ : ∃ K, cmpV s = K := ⟨_, rfl⟩
  have hr : K.length ≤ 400 := by rw [← hK]; exact cmpV_len s
  simp (contextual := true) (maxSteps := 1000000) (disch := omega) only [↓Sd, ↓So, ↓Sk, ↓den, ↓denA, Sa, Sb, Sc, Se, O1.d, O2.d, O3.d, cmI, arI, envOf, putN, ↓reduceIte, Nat.reduceLT, Nat.reduceSub, Nat.reduceAdd, Int.reduceAdd, Int.reduceEq, Int.reduceLT, Int.reduceLE, arr_pos, arr_neg, to_System s hs, C_spec_Components s hs, C_impl_Components s hs, hK, eq_IntS K (few_i (by omega)), eq_System s hs]
  refine mk_System s 1 (by omega) hs fun k' v r hk' => ?_
  simp (contextual := true) (maxSteps := 1000000) (disch := omega) only [↓Sd, ↓So, ↓Sk, ↓den, ↓denA, Sa, Sb, Sc, Se, O1.d, O2.d, O3.d, cmI, arI, envOf, putN, ↓reduceIte, Nat.reduceLT, Nat.reduceSub, Nat.reduceAdd, Int.reduceAdd, Int.reduceEq, Int.reduceLT, Int.reduceLE, arr_pos, arr_neg, eq_IntS K (few_i (by omega)), mk_IntS K 1 (by omega) (by omega), held_IntS K.length 1 (by omega) (by omega), to_System s hs, C_impl_Components s hs, hK]
/-- The greatest one. -/
def IsTop (l : List Int) (M : Int) : Prop := M ∈ l ∧ ∀ x ∈ l, x ≤ M
theorem IsTop.eq {l : List Int} {M N : Int} (h : IsTop l M) (h2 : IsTop l N) : M = N := Int.le_antisymm (h2.2 _ h.1) (h.2 _ h2.1)
theorem C_slices_Max (l : List Int) (M : Int) (h : IsTop l M) (hl : l.length ≤ 1048576) (Q : List AV → Prop) : mc.C f_slices_Max_Sint_int [⟨L I, l⟩] Q = Q [⟨I, M⟩] := by
  have hp : 0 < l.length := List.length_pos_of_mem h.1
  refine Mc.Ends.c (mc.ends F_slices_Max_Sint_int ?_)
  simp (contextual := true) (maxSteps := 1000000) (disch := omega) only [↓Sd, ↓So, ↓Sk, ↓den, ↓denA, Sa, Sb, Sc, Se, O1.d, O2.d, O3.d, cmI, arI, envOf, putN, ↓reduceIte, Nat.reduceLT, Nat.reduceSub, Nat.reduceAdd, Int.reduceAdd, Int.reduceEq, Int.reduceLT, Int.reduceLE, arr_pos, arr_neg, tr_slices_Max_Sint_int]
  refine mc.lp_for Int (fun i m => [⟨L I, l⟩, ⟨I, m⟩, ⟨I, (i : Int)⟩]) (fun i m => 1 ≤ i ∧ IsTop (l.take i) m) l.length 1 (l.getD 0 0) _ (by simp) (by omega) ⟨Nat.le_refl _, ?_⟩ ?_ ?_
  · cases l with
    | nil => simp at hp
    | cons x l => exact ⟨by simp, by simp⟩
  · rintro i m hi ⟨h0, h1⟩
    simp (contextual := true) (maxSteps := 1000000) (disch := omega) only [↓Sd, ↓So, ↓Sk, ↓den, ↓denA, Sa, Sb, Sc, Se, O1.d, O2.d, O3.d, cmI, arI, envOf, putN, ↓reduceIte, Nat.reduceLT, Nat.reduceSub, Nat.reduceAdd, Int.reduceAdd, Int.reduceEq, Int.reduceLT, Int.reduceLE, arr_pos, arr_neg, ]
    refine ⟨by omega, ?_, fun x hx => ?_⟩
    · split
      · exact (mem_take_next hi).2 (.inr rfl)
      · exact (mem_take_next hi).2 (.inl h1.1)
    · rcases (mem_take_next hi).1 hx with h2 | h2
      · have := h1.2 x h2
        split
        · rename_i g; exact Int.le_trans this (Int.le_of_lt g)
        · exact this
      · rw [h2]
        split
        · exact Int.le_refl _
        · rename_i g; exact Int.not_lt.1 g
  · rintro m ⟨h0, h1⟩
    rw [List.take_length] at h1
    have := h1.eq h
    subst this
    simp (contextual := true) (maxSteps := 1000000) (disch := omega) only [↓Sd, ↓So, ↓Sk, ↓den, ↓denA, Sa, Sb, Sc, Se, O1.d, O2.d, O3.d, cmI, arI, envOf, putN, ↓reduceIte, Nat.reduceLT, Nat.reduceSub, Nat.reduceAdd, Int.reduceAdd, Int.reduceEq, Int.reduceLT, Int.reduceLE, arr_pos, arr_neg, ]
/-- Within so many steps, as marks. -/
noncomputable def layB (T : List (List Int)) (F : List Int) (d k : Nat) : Bool := dB (Lay T F d k)
theorem layB_next {T : List (List Int)} {F : List Int} {n d k : Nat} (ht : Tbl T n) (hF : ∀ x ∈ F, 0 ≤ x ∧ x < n) : (layB T F d k || dB (behind T (layB T F d) n k)) = layB T F (d + 1) k := by
  have hlt : ∀ d a, Lay T F d a → a < n := fun d a h => (h.rch).lt ht fun x hx => (hF x hx).2
  by_cases h : Lay T F (d + 1) k
  · unfold layB
    rw [dB_t h]
    rcases h with h | ⟨a, h1, h2⟩
    · rw [dB_t h]; rfl
    · rw [dB_t (p := behind T (fun k => dB (Lay T F d k)) n k) ⟨a, hlt d a h1, dB_t h1, h2⟩]; simp
  · unfold layB
    rw [dB_f h, dB_f fun g => h (.inl g), dB_f]
    · rfl
    · rintro ⟨a, h1, h2, h3⟩
      exact h (.inr ⟨a, dB_iff.1 h2, h3⟩)
theorem dst_le {T : List (List Int)} {F : List Int} {d k : Nat} : Lay T F d k ↔ 0 ≤ dst T F k ∧ dst T F k ≤ d := by
  unfold dst
  constructor
  · intro h
    have hh : ∃ d, Lay T F d k := ⟨d, h⟩
    rw [dif_pos hh]
    obtain ⟨b1, b2⟩ := Classical.choose_spec (least hh)
    generalize Classical.choose (least hh) = e at b1 b2
    have : ¬ d < e := fun g => b2 d g h
    omega
  · rintro ⟨h1, h2⟩
    by_cases g : ∃ d, Lay T F d k
    · rw [dif_pos g] at h1 h2
      obtain ⟨b1, -⟩ := Classical.choose_spec (least g)
      generalize Classical.choose (least g) = e at b1 h1 h2
      exact b1.up (by omega)
    · rw [dif_neg g] at h1; omega
/-- The greatest distance is d just if something is so far, and nothing further. -/
theorem top_lay {T : List (List Int)} {m n d : Nat} (ht : Tbl T n) (hm : m < n) (h1 : d = 0 ∨ ∃ k, k < n ∧ Lay T [(m : Int)] d k ∧ ¬ Lay T [(m : Int)] (d - 1) k) (h2 : ∀ k, k < n → Lay T [(m : Int)] (d + 1) k → Lay T [(m : Int)] d k) :
    IsTop (tab (dst T [(m : Int)]) n) d := by
  have hlt : ∀ d a, Lay T [(m : Int)] d a → a < n := fun d a h => (h.rch).lt ht fun x hx => by simp only [List.mem_singleton] at hx; omega
  have hst : ∀ e k, Lay T [(m : Int)] (d + e) k → Lay T [(m : Int)] d k := by
    intro e
    induction e with
    | zero => intro k h; exact h
    | succ e ih =>
      intro k h
      rcases h with h | ⟨a, h3, h4⟩
      · exact ih k h
      · exact h2 k (hlt (d + e + 1) k (Or.inr ⟨a, h3, h4⟩)) (Or.inr ⟨a, ih a h3, h4⟩)
  constructor
  · rcases h1 with rfl | ⟨k, h3, h4, h5⟩
    · have h0 : Lay T [(m : Int)] 0 m := by simp [Lay]
      have := dst_le.1 h0
      exact List.mem_map.2 ⟨m, List.mem_range.2 hm, by omega⟩
    · have a1 := dst_le.1 h4
      have a2 : ¬ (0 ≤ dst T [(m : Int)] k ∧ dst T [(m : Int)] k ≤ ((d - 1 : Nat) : Int)) := fun g => h5 (dst_le.2 g)
      exact List.mem_map.2 ⟨k, List.mem_range.2 h3, by omega⟩
  · intro x hx
    obtain ⟨k, hk, rfl⟩ := List.mem_map.1 hx
    by_cases g : 0 ≤ dst T [(m : Int)] k
    · have h3 : Lay T [(m : Int)] (dst T [(m : Int)] k).toNat k := dst_le.2 ⟨g, by omega⟩
      have h4 := dst_le.1 (hst (dst T [(m : Int)] k).toNat k (h3.up (by omega)))
      omega
    · omega
theorem upTo_more {p q : Nat → Bool} {n : Nat} (h : (upTo p n).length < (upTo q n).length) : ∃ k, k < n ∧ q k = true ∧ ¬ p k = true := by
  by_cases g : ∃ k, k < n ∧ q k = true ∧ ¬ p k = true
  · exact g
  · have := (upTo_mono (p := q) (q := p) (n := n) fun k hk hq => by
      by_cases e : p k = true
      · exact e
      · exact absurd ⟨k, hk, hq, e⟩ g).1
    omega
theorem lay_rch {T : List (List Int)} {m n d : Nat} (ht : Tbl T n) (hm : m < n) (h2 : ∀ k, k < n → Lay T [(m : Int)] (d + 1) k → Lay T [(m : Int)] d k) : ∀ k, k < n → layB T [(m : Int)] d k = dB (Rch T [(m : Int)] k) := by
  intro k hk
  refine dB_congr ⟨Lay.rch, fun h => ?_⟩
  induction h with
  | base h => exact (show Lay T [(m : Int)] 0 _ from h).up (Nat.zero_le _)
  | step h1 h3 ih =>
    have ha := h1.lt ht fun x hx => by simp only [List.mem_singleton] at hx; omega
    exact h2 _ hk (Or.inr ⟨_, ih ha, h3⟩)
/-- The greatest distance of a state that is reached. -/
noncomputable def ecc (s : Sy) : List Int := tab (dst (steps s) [num s.1 (fst0 s.1)]) (szn s.1)
theorem C_spec_ReachBy_n (s : Sy) (hs : FewSy s) (h : nar s) {Q : List AV → Prop} (hQ : ∀ d : Int, IsTop (ecc s) d → d ≤ 400 → Q [⟨L I, rset s⟩, ⟨I, d + 1⟩]) : mc.C f_spec_ReachBy [⟨L V3, s.1⟩, ⟨L TR, s.2⟩] Q := by
  have hv := h.1
  have hz := szn_eq hv
  have hb := h.2
  have hfi := fst0_in hv.2.2.1
  have hn := num_bd hv.2.2.1 hfi
  have ht := steps_tbl hv
  have hb0 : 0 ≤ bc s.1 := (sumN_bd (f := bw s.1) (fun i => bn_bd _) s.1.length).1
  refine mc.c_of F_spec_ReachBy ?_
  simp (contextual := true) (maxSteps := 1000000) (disch := omega) only [↓Sd, ↓So, ↓Sk, ↓den, ↓denA, Sa, Sb, Sc, Se, O1.d, O2.d, O3.d, cmI, arI, envOf, putN, ↓reduceIte, Nat.reduceLT, Nat.reduceSub, Nat.reduceAdd, Int.reduceAdd, Int.reduceEq, Int.reduceLT, Int.reduceLE, arr_pos, arr_neg, tr_spec_ReachBy, C_spec_l10Wide s hs, if_pos h, C_spec_l4Steps s hs hv, C_spec_FirstState s hs hv, C_spec_l4Number s _ hv.1.2 hv.2.2.1 hfi]
  obtain ⟨m, hm⟩ : ∃ m : Nat, num s.1 (fst0 s.1) = m := ⟨(num s.1 (fst0 s.1)).toNat, by omega⟩
  have hmn : m < szn s.1 := by omega
  have hrs : rset s = upTo (fun k => dB (Rch (steps s) [(m : Int)] k)) (szn s.1) := by rw [rset, hm]
  have hec : ecc s = tab (dst (steps s) [(m : Int)]) (szn s.1) := by rw [ecc, hm]
  rw [hm]
  rw [hrs, hec] at hQ
  generalize steps s = T at *
  generalize szn s.1 = n at *
  clear hrs hec hm hn hb hb0 hfi
  have hF : ∀ x ∈ [(m : Int)], 0 ≤ x ∧ x < n := by intro x hx; simp only [List.mem_singleton] at hx; omega
  have e0 : ∀ k, k < n → (k == m) = layB T [(m : Int)] 0 k := fun k _ => by
    by_cases g : k = m
    · subst g; rw [layB, dB_t (by simp [Lay])]; simp
    · rw [layB, dB_f (by simp only [Lay, List.mem_singleton]; omega)]; simpa using g
  refine mc.lp_inv (fun j us => ∃ (d : Nat) (ag : Bool), us = [⟨I, (d : Int)⟩, ⟨B, ag⟩, ⟨L (L I), T⟩, ⟨L I, upTo (layB T [(m : Int)] d) n⟩] ∧ (ag = true → (d = 0 ∨ ∃ k, k < n ∧ Lay T [(m : Int)] d k ∧ ¬ Lay T [(m : Int)] (d - 1) k) ∧ d ≤ (upTo (layB T [(m : Int)] d) n).length) ∧
    (ag = false → ∃ e, d = e + 1 ∧ e ≤ 400 ∧ IsTop (tab (dst T [(m : Int)]) n) e ∧ ∀ k, k < n → layB T [(m : Int)] d k = dB (Rch T [(m : Int)] k)) ∧ j = if ag = true then n + 1 - (upTo (layB T [(m : Int)] d) n).length else 0) _ _
    ⟨0, true, ?_, fun _ => ⟨.inl rfl, Nat.zero_le _⟩, fun g => (by cases g), rfl⟩ ?_
  · rw [← upTo_congr e0, upTo_one, if_pos hmn]; rfl
  rintro j us ⟨d, ag, rfl, i1, i2, rfl⟩
  have hlen := @upTo_len (layB T [(m : Int)] d) n
  cases ag with
  | false =>
    obtain ⟨e, rfl, h1, h2, h3⟩ := i2 rfl
    simp (contextual := true) (maxSteps := 1000000) (disch := omega) only [↓Sd, ↓So, ↓Sk, ↓den, ↓denA, Sa, Sb, Sc, Se, O1.d, O2.d, O3.d, cmI, arI, envOf, putN, ↓reduceIte, Nat.reduceLT, Nat.reduceSub, Nat.reduceAdd, Int.reduceAdd, Int.reduceEq, Int.reduceLT, Int.reduceLE, arr_pos, arr_neg, ]
    rw [upTo_congr h3]
    exact hQ e h2 (by omega)
  | true =>
    obtain ⟨i1, i3⟩ := i1 rfl
    simp (contextual := true) (maxSteps := 1000000) (disch := omega) only [↓Sd, ↓So, ↓Sk, ↓den, ↓denA, Sa, Sb, Sc, Se, O1.d, O2.d, O3.d, cmI, arI, envOf, putN, ↓reduceIte, Nat.reduceLT, Nat.reduceSub, Nat.reduceAdd, Int.reduceAdd, Int.reduceEq, Int.reduceLT, Int.reduceLE, arr_pos, arr_neg, ht.1, C_spec_l4Marks (upTo (layB T [(m : Int)] d) n) n (by omega) (by omega) (fun x hx => by have h1 := lset_mem (upTo_lset (Nat.le_refl n)) x hx; exact h1)]
    rw [tab_congr (g := layB T [(m : Int)] d) (n := n) fun k hk => by rw [dB_upTo]; simp [hk]]
    rw [C_spec_l4Behind T (layB T [(m : Int)] d) n (by omega) ht.1 ht.2]
    simp (contextual := true) (maxSteps := 1000000) (disch := omega) only [↓Sd, ↓So, ↓Sk, ↓den, ↓denA, Sa, Sb, Sc, Se, O1.d, O2.d, O3.d, cmI, arI, envOf, putN, ↓reduceIte, Nat.reduceLT, Nat.reduceSub, Nat.reduceAdd, Int.reduceAdd, Int.reduceEq, Int.reduceLT, Int.reduceLE, arr_pos, arr_neg, C_spec_l4List_tab _ n (by omega : n ≤ 1048576), C_spec_SetEither _ _ (upTo_lset (p := layB T [(m : Int)] d) (m := 400) (n := n) (by omega)) (upTo_lset (p := fun k => dB (behind T (layB T [(m : Int)] d) n k)) (m := 400) (n := n) (by omega)), either_upTo (by omega : n ≤ 400)]
    rw [upTo_congr (q := layB T [(m : Int)] (d + 1)) fun k _ => layB_next ht hF]
    have hlen2 := @upTo_len (layB T [(m : Int)] (d + 1)) n
    refine ⟨_, ?_, d + 1, _, ⟨(Int.natCast_add d 1).symm, rfl, rfl⟩, fun hg => ?_, fun hg => ?_, rfl⟩
    · split
      · rename_i hg; have := of_decide_eq_true hg; omega
      · omega
    · have hg := of_decide_eq_true hg
      refine ⟨.inr ?_, by omega⟩
      obtain ⟨k, h1, h2, h3⟩ := upTo_more (p := layB T [(m : Int)] d) (q := layB T [(m : Int)] (d + 1)) (n := n) (by omega)
      exact ⟨k, h1, dB_iff.1 h2, fun g => h3 (dB_t g)⟩
    · have hg := of_decide_eq_false hg
      have hmono := upTo_mono (p := layB T [(m : Int)] d) (q := layB T [(m : Int)] (d + 1)) (n := n) fun k _ hk => dB_t (Or.inl (dB_iff.1 hk))
      have hcl : ∀ k, k < n → Lay T [(m : Int)] (d + 1) k → Lay T [(m : Int)] d k := fun k hk h => dB_iff.1 (hmono.2 (by omega) k hk (dB_t h))
      refine ⟨d, rfl, by omega, top_lay ht hmn i1 hcl, fun k hk => ?_⟩
      rw [← lay_rch ht hmn hcl k hk]
      exact dB_congr ⟨hcl k hk, Or.inl⟩
theorem C_impl_ReachBy (s : Sy) (hs : FewSy s) (h : nar s) (d : Int) (hd : IsTop (ecc s) d) (hd2 : d ≤ 400) (Q : List AV → Prop) : mc.C f_impl_ReachBy [⟨L V3, s.1⟩, ⟨L TR, s.2⟩] Q = Q [⟨L I, rset s⟩, ⟨I, d + 1⟩] := by
  have hv := h.1
  have hz := szn_eq hv
  have hfi := fst0_in hv.2.2.1
  have hn := num_bd hv.2.2.1 hfi
  have ht := steps_tbl hv
  obtain ⟨m, hm⟩ : ∃ m : Nat, num s.1 (fst0 s.1) = m := ⟨(num s.1 (fst0 s.1)).toNat, by omega⟩
  have hd0 : -1 ≤ d := by
    obtain ⟨k, -, hk⟩ := List.mem_map.1 hd.1
    rw [← hk]
    unfold dst
    split <;> omega
  refine Mc.Ends.c (mc.ends F_impl_ReachBy ?_)
  simp (contextual := true) (maxSteps := 1000000) (disch := omega) only [↓Sd, ↓So, ↓Sk, ↓den, ↓denA, Sa, Sb, Sc, Se, O1.d, O2.d, O3.d, cmI, arI, envOf, putN, ↓reduceIte, Nat.reduceLT, Nat.reduceSub, Nat.reduceAdd, Int.reduceAdd, Int.reduceEq, Int.reduceLT, Int.reduceLE, arr_pos, arr_neg, tr_impl_ReachBy, C_impl_halfNarrow s hs, h, C_impl_nexts s hv, C_impl_first s hv.1.2, C_impl_number s _ hv.1.2 hv.2.2.1 hfi]
  rw [ecc, hm] at hd
  rw [hm]
  simp (contextual := true) (maxSteps := 1000000) (disch := omega) only [↓Sd, ↓So, ↓Sk, ↓den, ↓denA, Sa, Sb, Sc, Se, O1.d, O2.d, O3.d, cmI, arI, envOf, putN, ↓reduceIte, Nat.reduceLT, Nat.reduceSub, Nat.reduceAdd, Int.reduceAdd, Int.reduceEq, Int.reduceLT, Int.reduceLE, arr_pos, arr_neg, C_impl_steps (steps s) m (szn s.1) (by omega) (by omega) ht, C_impl_reachOf s hv, C_impl_listOf_tab _ (szn s.1) (by omega : szn s.1 ≤ 1048576), C_slices_Max _ d hd (by rw [tab_len]; omega)]
  rfl
theorem C_impl_ReachBy_no (s : Sy) (hs : FewSy s) (h : ¬ nar s) (Q : List AV → Prop) : mc.C f_impl_ReachBy [⟨L V3, s.1⟩, ⟨L TR, s.2⟩] Q = Q [⟨L I, []⟩, ⟨I, (0 : Int)⟩] := by
  refine Mc.Ends.c (mc.ends F_impl_ReachBy ?_)
  simp (contextual := true) (maxSteps := 1000000) (disch := omega) only [↓Sd, ↓So, ↓Sk, ↓den, ↓denA, Sa, Sb, Sc, Se, O1.d, O2.d, O3.d, cmI, arI, envOf, putN, ↓reduceIte, Nat.reduceLT, Nat.reduceSub, Nat.reduceAdd, Int.reduceAdd, Int.reduceEq, Int.reduceLT, Int.reduceLE, arr_pos, arr_neg, tr_impl_ReachBy, C_impl_halfNarrow s hs, h]
theorem C_spec_ReachBy_no (s : Sy) (hs : FewSy s) (h : ¬ nar s) (Q : List AV → Prop) : mc.C f_spec_ReachBy [⟨L V3, s.1⟩, ⟨L TR, s.2⟩] Q = Q [⟨L I, []⟩, ⟨I, (0 : Int)⟩] := by
  refine Mc.Ends.c (mc.ends F_spec_ReachBy ?_)
  simp (contextual := true) (maxSteps := 1000000) (disch := omega) only [↓Sd, ↓So, ↓Sk, ↓den, ↓denA, Sa, Sb, Sc, Se, O1.d, O2.d, O3.d, cmI, arI, envOf, putN, ↓reduceIte, Nat.reduceLT, Nat.reduceSub, Nat.reduceAdd, Int.reduceAdd, Int.reduceEq, Int.reduceLT, Int.reduceLE, arr_pos, arr_neg, tr_spec_ReachBy, C_spec_l10Wide s hs, if_neg h]
theorem rset_len {s : Sy} (h : valid s) : (rset s).length ≤ 400 := upTo_few h
theorem law_FnExactReachBy (s : Sy) (hs : LtSy s) : mc.C f_laws_FnExactReachBy [⟨L V3, s.1⟩, ⟨L TR, s.2⟩] (· = [⟨B, true⟩]) := by
  refine mc.c_of F_laws_FnExactReachBy ?_
  simp (contextual := true) (maxSteps := 1000000) (disch := omega) only [↓Sd, ↓So, ↓Sk, ↓den, ↓denA, Sa, Sb, Sc, Se, O1.d, O2.d, O3.d, cmI, arI, envOf, putN, ↓reduceIte, Nat.reduceLT, Nat.reduceSub, Nat.reduceAdd, Int.reduceAdd, Int.reduceEq, Int.reduceLT, Int.reduceLE, arr_pos, arr_neg, tr_laws_FnExactReachBy]
  refine sz_System s _ (by omega) hs fun j h2 h3 => ?_
  simp (contextual := true) (maxSteps := 1000000) (disch := omega) only [↓Sd, ↓So, ↓Sk, ↓den, ↓denA, Sa, Sb, Sc, Se, O1.d, O2.d, O3.d, cmI, arI, envOf, putN, ↓reduceIte, Nat.reduceLT, Nat.reduceSub, Nat.reduceAdd, Int.reduceAdd, Int.reduceEq, Int.reduceLT, Int.reduceLE, arr_pos, arr_neg, ]
  intro h4
  have hs := h3 (by omega)
  simp (contextual := true) (maxSteps := 1000000) (disch := omega) only [↓Sd, ↓So, ↓Sk, ↓den, ↓denA, Sa, Sb, Sc, Se, O1.d, O2.d, O3.d, cmI, arI, envOf, putN, ↓reduceIte, Nat.reduceLT, Nat.reduceSub, Nat.reduceAdd, Int.reduceAdd, Int.reduceEq, Int.reduceLT, Int.reduceLE, arr_pos, arr_neg, to_System s hs]
  by_cases h : nar s
  · refine C_spec_ReachBy_n s hs h fun d hd hd2 => ?_
    obtain ⟨K, hK⟩ : ∃ K, rset s = K := ⟨_, rfl⟩
    have hr : K.length ≤ 400 := by rw [← hK]; exact rset_len h.1
    simp (contextual := true) (maxSteps := 1000000) (disch := omega) only [↓Sd, ↓So, ↓Sk, ↓den, ↓denA, Sa, Sb, Sc, Se, O1.d, O2.d, O3.d, cmI, arI, envOf, putN, ↓reduceIte, Nat.reduceLT, Nat.reduceSub, Nat.reduceAdd, Int.reduceAdd, Int.reduceEq, Int.reduceLT, Int.reduceLE, arr_pos, arr_neg, to_System s hs, C_impl_ReachBy s hs h d hd hd2, hK, eq_IntS K (few_i (by omega)), eq_System s hs]
    refine mk_System s 1 (by omega) hs fun k' v r hk' => ?_
    simp (contextual := true) (maxSteps := 1000000) (disch := omega) only [↓Sd, ↓So, ↓Sk, ↓den, ↓denA, Sa, Sb, Sc, Se, O1.d, O2.d, O3.d, cmI, arI, envOf, putN, ↓reduceIte, Nat.reduceLT, Nat.reduceSub, Nat.reduceAdd, Int.reduceAdd, Int.reduceEq, Int.reduceLT, Int.reduceLE, arr_pos, arr_neg, eq_IntS K (few_i (by omega)), mk_IntS K 1 (by omega) (by omega), held_IntS K.length 1 (by omega) (by omega), to_System s hs, C_impl_ReachBy s hs h d hd hd2, hK]
  · simp (contextual := true) (maxSteps := 1000000) (disch := omega) only [↓Sd, ↓So, ↓Sk, ↓den, ↓denA, Sa, Sb, Sc, Se, O1.d, O2.d, O3.d, cmI, arI, envOf, putN, ↓reduceIte, Nat.reduceLT, Nat.reduceSub, Nat.reduceAdd, Int.reduceAdd, Int.reduceEq, Int.reduceLT, Int.reduceLE, arr_pos, arr_neg, C_spec_ReachBy_no s hs h, to_System s hs, C_impl_ReachBy_no s hs h, eq_IntS [] (few_i (by simp)), eq_System s hs]
    refine mk_System s 1 (by omega) hs fun k' v r hk' => ?_
    simp (contextual := true) (maxSteps := 1000000) (disch := omega) only [↓Sd, ↓So, ↓Sk, ↓den, ↓denA, Sa, Sb, Sc, Se, O1.d, O2.d, O3.d, cmI, arI, envOf, putN, ↓reduceIte, Nat.reduceLT, Nat.reduceSub, Nat.reduceAdd, Int.reduceAdd, Int.reduceEq, Int.reduceLT, Int.reduceLE, arr_pos, arr_neg, eq_IntS [] (few_i (by simp)), mk_IntS [] 1 (by omega) (by simp), held_IntS 0 1 (by omega) (by omega), to_System s hs, C_impl_ReachBy_no s hs h]
end Go.Proofs.YtplibobhcjgcmaaGreat
