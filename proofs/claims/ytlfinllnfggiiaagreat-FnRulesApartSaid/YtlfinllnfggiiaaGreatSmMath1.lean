/- What the trees come to: plain mathematics; no condition. -/
import Derived.Test.YtlfinllnfggiiaaGreatSmMath0
namespace Go.Proofs.YtlfinllnfggiiaaGreat
open Go Go.Sm Go.Sm.Q
set_option linter.unusedSimpArgs false
set_option linter.unusedVariables false
theorem D_Shifted (l : List Tm) (vars by_ : Int) (hl : l.length ≤ 1000) {Q : List AV → Prop} (h : ∀ (r : List Tm), r.length ≤ l.length → Q [⟨L T4, r⟩]) : mc.C f_spec_Shifted [⟨L T4, l⟩, ⟨I, vars⟩, ⟨I, by_⟩] Q := by
 have h1 : Few l := by unfold Few; omega
 refine mc.c_of F_spec_Shifted ?_
 simp (contextual := true) (maxSteps := 1000000) (disch := omega) only [↓Sd, ↓So, ↓Sk, ↓den, ↓denA, Sa, Sb, Sc, Se, O1.d, O2.d, O3.d, cmI, arI, envOf, putN, ↓reduceIte, Nat.reduceLT, Nat.reduceSub, Nat.reduceAdd, Int.reduceAdd, Int.reduceEq, Int.reduceLT, Int.reduceLE, arr_pos, arr_neg, tr_spec_Shifted, C_spec_TermsValid l vars h1, C_spec_l1In]
 refine ⟨fun _ => h _ (by simp), fun _ => ⟨fun _ => h _ (by simp), fun _ => ?_⟩⟩
 refine mc.lp_for (List Tm) (fun i s => [⟨L T4, l⟩, ⟨I, by_⟩, ⟨I, (i : Int)⟩, ⟨L T4, s⟩]) (fun i s => s.length = i) l.length 0 [] _ rfl (Nat.zero_le _) rfl ?_ ?_
 ·rintro i s hi hs
  simp (contextual := true) (maxSteps := 1000000) (disch := omega) only [↓Sd, ↓So, ↓Sk, ↓den, ↓denA, Sa, Sb, Sc, Se, O1.d, O2.d, O3.d, cmI, arI, envOf, putN, ↓reduceIte, Nat.reduceLT, Nat.reduceSub, Nat.reduceAdd, Int.reduceAdd, Int.reduceEq, Int.reduceLT, Int.reduceLE, arr_pos, arr_neg, ]
  refine mc.wp_join (fun us => ∃ t : Tm, us = [⟨L T4, l⟩, ⟨I, by_⟩, ⟨I, (i : Int)⟩, ⟨L T4, s⟩, ⟨I, t.1⟩, ⟨I, t.2.1⟩, ⟨I, t.2.2.1⟩, ⟨I, t.2.2.2⟩]) ?_ ?_
  ·simp (contextual := true) (maxSteps := 1000000) (disch := omega) only [↓Sd, ↓So, ↓Sk, ↓den, ↓denA, Sa, Sb, Sc, Se, O1.d, O2.d, O3.d, cmI, arI, envOf, putN, ↓reduceIte, Nat.reduceLT, Nat.reduceSub, Nat.reduceAdd, Int.reduceAdd, Int.reduceEq, Int.reduceLT, Int.reduceLE, arr_pos, arr_neg, ]
   exact ⟨fun _ => ⟨(_, _, _, _), rfl, rfl, rfl, rfl⟩, fun _ => ⟨(_, _, _, _), rfl, rfl, rfl, rfl⟩⟩
  ·rintro us ⟨t, rfl⟩
   simp (contextual := true) (maxSteps := 1000000) (disch := omega) only [↓Sd, ↓So, ↓Sk, ↓den, ↓denA, Sa, Sb, Sc, Se, O1.d, O2.d, O3.d, cmI, arI, envOf, putN, ↓reduceIte, Nat.reduceLT, Nat.reduceSub, Nat.reduceAdd, Int.reduceAdd, Int.reduceEq, Int.reduceLT, Int.reduceLE, arr_pos, arr_neg, ]
   omega
 ·rintro s hs
  simp (contextual := true) (maxSteps := 1000000) (disch := omega) only [↓Sd, ↓So, ↓Sk, ↓den, ↓denA, Sa, Sb, Sc, Se, O1.d, O2.d, O3.d, cmI, arI, envOf, putN, ↓reduceIte, Nat.reduceLT, Nat.reduceSub, Nat.reduceAdd, Int.reduceAdd, Int.reduceEq, Int.reduceLT, Int.reduceLE, arr_pos, arr_neg, ]
  exact h _ (by omega)
set_option maxHeartbeats 2000000 in
theorem D_l26System (b : List Int) (p : Int) (hb : Rdy b) (hp : 0 ≤ p ∧ p ≤ 300000000) {Q : List AV → Prop} (h : ∀ (s : Sy) (p' : Int), p ≤ p' ∧ p' ≤ p + 200000 → SmSy s → Q [⟨L V3, s.1⟩, ⟨L TR, s.2⟩, ⟨RD, (b, p')⟩]) : mc.C f_spec_l26System [⟨RD, (b, p)⟩] Q := by
 refine mc.c_of F_spec_l26System ?_
 simp (contextual := true) (maxSteps := 1000000) (disch := omega) only [↓Sd, ↓So, ↓Sk, ↓den, ↓denA, Sa, Sb, Sc, Se, O1.d, O2.d, O3.d, cmI, arI, envOf, putN, ↓reduceIte, Nat.reduceLT, Nat.reduceSub, Nat.reduceAdd, Int.reduceAdd, Int.reduceEq, Int.reduceLT, Int.reduceLE, arr_pos, arr_neg, tr_spec_l26System]
 refine D_pick1 _ _ _ hb (by omega) (by omega) fun a a0 a1 => ?_; simp (contextual := true) (maxSteps := 1000000) (disch := omega) only [↓Sd, ↓So, ↓Sk, ↓den, ↓denA, Sa, Sb, Sc, Se, O1.d, O2.d, O3.d, cmI, arI, envOf, putN, ↓reduceIte, Nat.reduceLT, Nat.reduceSub, Nat.reduceAdd, Int.reduceAdd, Int.reduceEq, Int.reduceLT, Int.reduceLE, arr_pos, arr_neg, ]
 refine ⟨fun _ => ?_, fun _ => ?_⟩
 ·refine D_l2Any _ _ _ hb (by omega) fun s p1 hp1 hs => ?_
  simp (contextual := true) (maxSteps := 1000000) (disch := omega) only [↓Sd, ↓So, ↓Sk, ↓den, ↓denA, Sa, Sb, Sc, Se, O1.d, O2.d, O3.d, cmI, arI, envOf, putN, ↓reduceIte, Nat.reduceLT, Nat.reduceSub, Nat.reduceAdd, Int.reduceAdd, Int.reduceEq, Int.reduceLT, Int.reduceLE, arr_pos, arr_neg, ]
  exact h s p1 (by omega) hs
 refine D_pick1 _ _ _ hb (by omega) (by omega) fun n n0 n1 => ?_; simp (contextual := true) (maxSteps := 1000000) (disch := omega) only [↓Sd, ↓So, ↓Sk, ↓den, ↓denA, Sa, Sb, Sc, Se, O1.d, O2.d, O3.d, cmI, arI, envOf, putN, ↓reduceIte, Nat.reduceLT, Nat.reduceSub, Nat.reduceAdd, Int.reduceAdd, Int.reduceEq, Int.reduceLT, Int.reduceLE, arr_pos, arr_neg, ]
 obtain ⟨N1, hN⟩ : ∃ N1 : Nat, n = N1 := ⟨n.toNat, by omega⟩
 subst hN
 refine mc.lp_inv (fun k us => ∃ (p1 : Int) (vs : List Vr), us = [⟨I, (k : Int)⟩, ⟨L U, b⟩, ⟨I, p1⟩, ⟨L V3, vs⟩] ∧ vs.length + k = 2 + N1 ∧ p ≤ p1 ∧ p1 + 20 * k ≤ p + 2 + 20 * (2 + N1)) (2 + N1) _ ⟨p + 1 + 1, [], by simp, by simp, by omega, by omega⟩ ?_
 rintro k us ⟨p1, vs, rfl, i1, i2, i3⟩
 cases k with
 | succ k =>
  simp (contextual := true) (maxSteps := 1000000) (disch := omega) only [↓Sd, ↓So, ↓Sk, ↓den, ↓denA, Sa, Sb, Sc, Se, O1.d, O2.d, O3.d, cmI, arI, envOf, putN, ↓reduceIte, Nat.reduceLT, Nat.reduceSub, Nat.reduceAdd, Int.reduceAdd, Int.reduceEq, Int.reduceLT, Int.reduceLE, arr_pos, arr_neg, ]
  refine D_num _ _ _ hb (by omega) (by simp) (by simp) fun o o0 => ?_; simp (contextual := true) (maxSteps := 1000000) (disch := omega) only [↓Sd, ↓So, ↓Sk, ↓den, ↓denA, Sa, Sb, Sc, Se, O1.d, O2.d, O3.d, cmI, arI, envOf, putN, ↓reduceIte, Nat.reduceLT, Nat.reduceSub, Nat.reduceAdd, Int.reduceAdd, Int.reduceEq, Int.reduceLT, Int.reduceLE, arr_pos, arr_neg, ]
  have ho : 2 ≤ o ∧ o ≤ 3 := by simp only [List.mem_append, List.mem_singleton] at o0; omega
  refine D_pick1 _ _ _ hb (by omega) (by omega) fun x x0 x1 => ?_; simp (contextual := true) (maxSteps := 1000000) (disch := omega) only [↓Sd, ↓So, ↓Sk, ↓den, ↓denA, Sa, Sb, Sc, Se, O1.d, O2.d, O3.d, cmI, arI, envOf, putN, ↓reduceIte, Nat.reduceLT, Nat.reduceSub, Nat.reduceAdd, Int.reduceAdd, Int.reduceEq, Int.reduceLT, Int.reduceLE, arr_pos, arr_neg, ]
  simp (contextual := true) (maxSteps := 1000000) (disch := omega) only [↓Sd, ↓So, ↓Sk, ↓den, ↓denA, Sa, Sb, Sc, Se, O1.d, O2.d, O3.d, cmI, arI, envOf, putN, ↓reduceIte, Nat.reduceLT, Nat.reduceSub, Nat.reduceAdd, Int.reduceAdd, Int.reduceEq, Int.reduceLT, Int.reduceLE, arr_pos, arr_neg, ↓wpJoin, ]
  exact ⟨k, by omega, _, _, ⟨iD (by omega), rfl, rfl⟩, by simp only [List.length_append, List.length_singleton]; omega, by omega, by omega⟩
 | zero =>
  have hvl : 2 ≤ vs.length ∧ vs.length ≤ 3 := by omega
  simp (contextual := true) (maxSteps := 1000000) (disch := omega) only [↓Sd, ↓So, ↓Sk, ↓den, ↓denA, Sa, Sb, Sc, Se, O1.d, O2.d, O3.d, cmI, arI, envOf, putN, ↓reduceIte, Nat.reduceLT, Nat.reduceSub, Nat.reduceAdd, Int.reduceAdd, Int.reduceEq, Int.reduceLT, Int.reduceLE, arr_pos, arr_neg, ]
  refine D_pick1 _ _ _ hb (by omega) (by omega) fun m m0 m1 => ?_; simp (contextual := true) (maxSteps := 1000000) (disch := omega) only [↓Sd, ↓So, ↓Sk, ↓den, ↓denA, Sa, Sb, Sc, Se, O1.d, O2.d, O3.d, cmI, arI, envOf, putN, ↓reduceIte, Nat.reduceLT, Nat.reduceSub, Nat.reduceAdd, Int.reduceAdd, Int.reduceEq, Int.reduceLT, Int.reduceLE, arr_pos, arr_neg, ]
  obtain ⟨N2, hN⟩ : ∃ N2 : Nat, m = N2 := ⟨m.toNat, by omega⟩
  subst hN
  refine mc.lp_inv (fun k us => ∃ (p2 : Int) (R : List Ru), us = [⟨I, (k : Int)⟩, ⟨L U, b⟩, ⟨I, p2⟩, ⟨L V3, vs⟩, ⟨L TR, R⟩] ∧ R.length + k = 2 + N2 ∧ p1 ≤ p2 ∧ p2 + 1000 * k ≤ p1 + 2 + 1000 * (2 + N2) ∧ ∀ r ∈ R, SmRu r) (2 + N2) _ ⟨p1 + 1, [], by simp, by simp, by omega, by omega, by simp⟩ ?_
  rintro k us ⟨p2, R, rfl, j1, j2, j3, j4⟩
  cases k with
  | zero =>
   simp (contextual := true) (maxSteps := 1000000) (disch := omega) only [↓Sd, ↓So, ↓Sk, ↓den, ↓denA, Sa, Sb, Sc, Se, O1.d, O2.d, O3.d, cmI, arI, envOf, putN, ↓reduceIte, Nat.reduceLT, Nat.reduceSub, Nat.reduceAdd, Int.reduceAdd, Int.reduceEq, Int.reduceLT, Int.reduceLE, arr_pos, arr_neg, ]
   exact h (vs, R) p2 (by omega) ⟨by simp only; omega, by simp only; omega, j4⟩
  | succ k =>
   simp (contextual := true) (maxSteps := 1000000) (disch := omega) only [↓Sd, ↓So, ↓Sk, ↓den, ↓denA, Sa, Sb, Sc, Se, O1.d, O2.d, O3.d, cmI, arI, envOf, putN, ↓reduceIte, Nat.reduceLT, Nat.reduceSub, Nat.reduceAdd, Int.reduceAdd, Int.reduceEq, Int.reduceLT, Int.reduceLE, arr_pos, arr_neg, ]
   refine D_pick1 _ _ _ hb (by omega) (by omega) fun x x0 x1 => ?_; simp (contextual := true) (maxSteps := 1000000) (disch := omega) only [↓Sd, ↓So, ↓Sk, ↓den, ↓denA, Sa, Sb, Sc, Se, O1.d, O2.d, O3.d, cmI, arI, envOf, putN, ↓reduceIte, Nat.reduceLT, Nat.reduceSub, Nat.reduceAdd, Int.reduceAdd, Int.reduceEq, Int.reduceLT, Int.reduceLE, arr_pos, arr_neg, ]
   obtain ⟨X, hX⟩ : ∃ X : Nat, x = X := ⟨x.toNat, by omega⟩
   subst hX
   refine D_l2Cond _ _ (vs.getD X (0, 0, 0)) _ hb (by omega) fun w p3 hp3 hw => ?_
   simp (contextual := true) (maxSteps := 1000000) (disch := omega) only [↓Sd, ↓So, ↓Sk, ↓den, ↓denA, Sa, Sb, Sc, Se, O1.d, O2.d, O3.d, cmI, arI, envOf, putN, ↓reduceIte, Nat.reduceLT, Nat.reduceSub, Nat.reduceAdd, Int.reduceAdd, Int.reduceEq, Int.reduceLT, Int.reduceLE, arr_pos, arr_neg, ]
   refine mc.wp_join (fun us => ∃ (p4 : Int) (w : List Tm), us = [⟨I, (k : Int) + 1⟩, ⟨I, (X : Int)⟩, ⟨L U, b⟩, ⟨I, p4⟩, ⟨L V3, vs⟩, ⟨L TR, R⟩, ⟨L T4, w⟩] ∧ p2 ≤ p4 ∧ p4 ≤ p2 + 100 ∧ w.length ≤ 20) ?_ ?_
   ·simp (contextual := true) (maxSteps := 1000000) (disch := omega) only [↓Sd, ↓So, ↓Sk, ↓den, ↓denA, Sa, Sb, Sc, Se, O1.d, O2.d, O3.d, cmI, arI, envOf, putN, ↓reduceIte, Nat.reduceLT, Nat.reduceSub, Nat.reduceAdd, Int.reduceAdd, Int.reduceEq, Int.reduceLT, Int.reduceLE, arr_pos, arr_neg, ]
    refine D_pick1 _ _ _ hb (by omega) (by omega) fun y y0 y1 => ?_; simp (contextual := true) (maxSteps := 1000000) (disch := omega) only [↓Sd, ↓So, ↓Sk, ↓den, ↓denA, Sa, Sb, Sc, Se, O1.d, O2.d, O3.d, cmI, arI, envOf, putN, ↓reduceIte, Nat.reduceLT, Nat.reduceSub, Nat.reduceAdd, Int.reduceAdd, Int.reduceEq, Int.reduceLT, Int.reduceLE, arr_pos, arr_neg, ]
    refine ⟨fun _ => ?_, fun _ => ⟨_, _, ⟨rfl, rfl⟩, by omega, by omega, by omega⟩⟩
    refine D_pick1 _ _ _ hb (by omega) (by omega) fun z z0 z1 => ?_; simp (contextual := true) (maxSteps := 1000000) (disch := omega) only [↓Sd, ↓So, ↓Sk, ↓den, ↓denA, Sa, Sb, Sc, Se, O1.d, O2.d, O3.d, cmI, arI, envOf, putN, ↓reduceIte, Nat.reduceLT, Nat.reduceSub, Nat.reduceAdd, Int.reduceAdd, Int.reduceEq, Int.reduceLT, Int.reduceLE, arr_pos, arr_neg, ]
    obtain ⟨Z, hZ⟩ : ∃ Z : Nat, z = Z := ⟨z.toNat, by omega⟩
    subst hZ
    refine D_l2Cond _ _ (vs.getD Z (0, 0, 0)) _ hb (by omega) fun w2 p4 hp4 hw2 => ?_
    simp (contextual := true) (maxSteps := 1000000) (disch := omega) only [↓Sd, ↓So, ↓Sk, ↓den, ↓denA, Sa, Sb, Sc, Se, O1.d, O2.d, O3.d, cmI, arI, envOf, putN, ↓reduceIte, Nat.reduceLT, Nat.reduceSub, Nat.reduceAdd, Int.reduceAdd, Int.reduceEq, Int.reduceLT, Int.reduceLE, arr_pos, arr_neg, ]
    refine D_Joined _ _ _ _ (by omega) (by omega) fun w3 hw3 => ?_
    simp (contextual := true) (maxSteps := 1000000) (disch := omega) only [↓Sd, ↓So, ↓Sk, ↓den, ↓denA, Sa, Sb, Sc, Se, O1.d, O2.d, O3.d, cmI, arI, envOf, putN, ↓reduceIte, Nat.reduceLT, Nat.reduceSub, Nat.reduceAdd, Int.reduceAdd, Int.reduceEq, Int.reduceLT, Int.reduceLE, arr_pos, arr_neg, ↓wpJoin, ]
    exact ⟨_, _, ⟨rfl, rfl⟩, by omega, by omega, by omega⟩
   ·rintro us ⟨p4, w, rfl, c1, c2, c3⟩
    simp (contextual := true) (maxSteps := 1000000) (disch := omega) only [↓Sd, ↓So, ↓Sk, ↓den, ↓denA, Sa, Sb, Sc, Se, O1.d, O2.d, O3.d, cmI, arI, envOf, putN, ↓reduceIte, Nat.reduceLT, Nat.reduceSub, Nat.reduceAdd, Int.reduceAdd, Int.reduceEq, Int.reduceLT, Int.reduceLE, arr_pos, arr_neg, ]
    have hone : ((vs.take ((X : Int) + 1).toNat).drop X).length = 1 := by rw [List.length_drop, List.length_take]; omega
    refine D_l2Value _ _ _ _ 0 rfl hb (by omega) (by rw [hone]; omega) (by rw [hone]; omega) fun val p5 hp5 hv => ?_
    obtain ⟨O, hO⟩ : ∃ O, R ++ [((w, [(X : Int)], [val]) : Ru)] = O := ⟨_, rfl⟩
    have hOl : O.length = R.length + 1 := by rw [← hO]; simp
    have hOg : O.getD R.length ([], [], []) = (w, [(X : Int)], [val]) := by rw [← hO]; simp
    have hOm : ∀ r ∈ O, SmRu r := by
     rw [← hO]
     intro r hr
     rcases List.mem_append.1 hr with hr | hr
     ·exact j4 r hr
     ·rw [List.mem_singleton.1 hr]
      refine ⟨by simp only; omega, by simp, by simp, fun x hx => ?_⟩
      simp only [List.mem_singleton] at hx
      subst hx; omega
    simp (contextual := true) (maxSteps := 1000000) (disch := omega) only [↓Sd, ↓So, ↓Sk, ↓den, ↓denA, Sa, Sb, Sc, Se, O1.d, O2.d, O3.d, cmI, arI, envOf, putN, ↓reduceIte, Nat.reduceLT, Nat.reduceSub, Nat.reduceAdd, Int.reduceAdd, Int.reduceEq, Int.reduceLT, Int.reduceLE, arr_pos, arr_neg, ↓wpJoin, hO, hOl, hOg]
    refine D_Shifted val 1 _ (by omega) fun sh hsh => ?_
    simp (contextual := true) (maxSteps := 1000000) (disch := omega) only [↓Sd, ↓So, ↓Sk, ↓den, ↓denA, Sa, Sb, Sc, Se, O1.d, O2.d, O3.d, cmI, arI, envOf, putN, ↓reduceIte, Nat.reduceLT, Nat.reduceSub, Nat.reduceAdd, Int.reduceAdd, Int.reduceEq, Int.reduceLT, Int.reduceLE, arr_pos, arr_neg, hO, hOl, hOg]
    refine ⟨k, by omega, p5, O.set R.length (w, [(X : Int)], [sh]), ⟨iD (by omega), rfl, rfl⟩, by rw [List.length_set]; omega, by omega, by omega, fun r hr => ?_⟩
    rcases List.mem_or_eq_of_mem_set hr with hr | hr
    ·exact hOm r hr
    ·rw [hr]
     refine ⟨by simp only; omega, by simp, by simp, fun x hx => ?_⟩
     simp only [List.mem_singleton] at hx
     subst hx; omega
theorem D_l2Some (b : List Int) (p : Int) (s : Sy) (hb : Rdy b) (hp : 0 ≤ p ∧ p ≤ 600000000) (hs : SmSy s) {Q : List AV → Prop} (h : ∀ (l : List Int) (p' : Int), p ≤ p' ∧ p' ≤ p + 100 → l.length ≤ 10 → Q [⟨L I, l⟩, ⟨RD, (b, p')⟩]) : mc.C f_spec_l2Some [⟨RD, (b, p)⟩, ⟨L V3, s.1⟩, ⟨L TR, s.2⟩] Q := by
 have h3 := hs.1
 refine mc.c_of F_spec_l2Some ?_
 simp (contextual := true) (maxSteps := 1000000) (disch := omega) only [↓Sd, ↓So, ↓Sk, ↓den, ↓denA, Sa, Sb, Sc, Se, O1.d, O2.d, O3.d, cmI, arI, envOf, putN, ↓reduceIte, Nat.reduceLT, Nat.reduceSub, Nat.reduceAdd, Int.reduceAdd, Int.reduceEq, Int.reduceLT, Int.reduceLE, arr_pos, arr_neg, tr_spec_l2Some]
 refine mc.lp_for (List Int × Int) (fun i o => [⟨I, (i : Int)⟩, ⟨L U, b⟩, ⟨I, o.2⟩, ⟨L V3, s.1⟩, ⟨L TR, s.2⟩, ⟨L I, o.1⟩]) (fun i o => o.1.length = i ∧ p ≤ o.2 ∧ o.2 ≤ p + 2 * i) s.1.length 0 ([], p) _ rfl (Nat.zero_le _) ⟨rfl, by omega, by omega⟩ ?_ ?_
 ·rintro i ⟨o, p1⟩ hi ⟨e1, e2, e3⟩
  simp only at e1 e2 e3
  simp (contextual := true) (maxSteps := 1000000) (disch := omega) only [↓Sd, ↓So, ↓Sk, ↓den, ↓denA, Sa, Sb, Sc, Se, O1.d, O2.d, O3.d, cmI, arI, envOf, putN, ↓reduceIte, Nat.reduceLT, Nat.reduceSub, Nat.reduceAdd, Int.reduceAdd, Int.reduceEq, Int.reduceLT, Int.reduceLE, arr_pos, arr_neg, ]
  refine mc.wp_join (fun us => ∃ (x p2 : Int), us = [⟨I, (i : Int)⟩, ⟨I, x⟩, ⟨L U, b⟩, ⟨I, p2⟩, ⟨L V3, s.1⟩, ⟨L TR, s.2⟩, ⟨L I, o⟩] ∧ p1 ≤ p2 ∧ p2 ≤ p1 + 2) ?_ ?_
  ·simp (contextual := true) (maxSteps := 1000000) (disch := omega) only [↓Sd, ↓So, ↓Sk, ↓den, ↓denA, Sa, Sb, Sc, Se, O1.d, O2.d, O3.d, cmI, arI, envOf, putN, ↓reduceIte, Nat.reduceLT, Nat.reduceSub, Nat.reduceAdd, Int.reduceAdd, Int.reduceEq, Int.reduceLT, Int.reduceLE, arr_pos, arr_neg, ]
   refine ⟨fun _ => ⟨fun _ => ?_, fun _ => ⟨_, _, ⟨rfl, rfl⟩, by omega, by omega⟩⟩, fun _ => ⟨_, _, ⟨rfl, rfl⟩, by omega, by omega⟩⟩
   refine D_pick _ _ _ hb (by omega) fun v _ _ => ?_
   simp (contextual := true) (maxSteps := 1000000) (disch := omega) only [↓Sd, ↓So, ↓Sk, ↓den, ↓denA, Sa, Sb, Sc, Se, O1.d, O2.d, O3.d, cmI, arI, envOf, putN, ↓reduceIte, Nat.reduceLT, Nat.reduceSub, Nat.reduceAdd, Int.reduceAdd, Int.reduceEq, Int.reduceLT, Int.reduceLE, arr_pos, arr_neg, ]
   exact ⟨_, _, ⟨rfl, rfl⟩, by omega, by omega⟩
  ·rintro us ⟨x, p2, rfl, c1, c2⟩
   simp (contextual := true) (maxSteps := 1000000) (disch := omega) only [↓Sd, ↓So, ↓Sk, ↓den, ↓denA, Sa, Sb, Sc, Se, O1.d, O2.d, O3.d, cmI, arI, envOf, putN, ↓reduceIte, Nat.reduceLT, Nat.reduceSub, Nat.reduceAdd, Int.reduceAdd, Int.reduceEq, Int.reduceLT, Int.reduceLE, arr_pos, arr_neg, ]
   exact ⟨(_, _), ⟨rfl, rfl⟩, by simp [e1], by simp only; omega, by simp only; omega⟩
 ·rintro ⟨o, p1⟩ ⟨e1, e2, e3⟩
  simp only at e1 e2 e3
  simp (contextual := true) (maxSteps := 1000000) (disch := omega) only [↓Sd, ↓So, ↓Sk, ↓den, ↓denA, Sa, Sb, Sc, Se, O1.d, O2.d, O3.d, cmI, arI, envOf, putN, ↓reduceIte, Nat.reduceLT, Nat.reduceSub, Nat.reduceAdd, Int.reduceAdd, Int.reduceEq, Int.reduceLT, Int.reduceLE, arr_pos, arr_neg, ]
  refine mc.wp_join (fun us => ∃ (p2 : Int) (l : List Int), us = [⟨L U, b⟩, ⟨I, p2⟩, ⟨L I, l⟩] ∧ p1 ≤ p2 ∧ p2 ≤ p1 + 10 ∧ l.length ≤ 10) ?_ ?_
  ·simp (contextual := true) (maxSteps := 1000000) (disch := omega) only [↓Sd, ↓So, ↓Sk, ↓den, ↓denA, Sa, Sb, Sc, Se, O1.d, O2.d, O3.d, cmI, arI, envOf, putN, ↓reduceIte, Nat.reduceLT, Nat.reduceSub, Nat.reduceAdd, Int.reduceAdd, Int.reduceEq, Int.reduceLT, Int.reduceLE, arr_pos, arr_neg, ]
   refine D_pick1 _ _ _ hb (by omega) (by omega) fun x x0 x1 => ?_; simp (contextual := true) (maxSteps := 1000000) (disch := omega) only [↓Sd, ↓So, ↓Sk, ↓den, ↓denA, Sa, Sb, Sc, Se, O1.d, O2.d, O3.d, cmI, arI, envOf, putN, ↓reduceIte, Nat.reduceLT, Nat.reduceSub, Nat.reduceAdd, Int.reduceAdd, Int.reduceEq, Int.reduceLT, Int.reduceLE, arr_pos, arr_neg, ]
   refine ⟨fun _ => ?_, fun _ => ⟨_, _, ⟨rfl, rfl⟩, by omega, by omega, by omega⟩⟩
   refine D_pick1 _ _ _ hb (by omega) (by omega) fun y y0 y1 => ?_; simp (contextual := true) (maxSteps := 1000000) (disch := omega) only [↓Sd, ↓So, ↓Sk, ↓den, ↓denA, Sa, Sb, Sc, Se, O1.d, O2.d, O3.d, cmI, arI, envOf, putN, ↓reduceIte, Nat.reduceLT, Nat.reduceSub, Nat.reduceAdd, Int.reduceAdd, Int.reduceEq, Int.reduceLT, Int.reduceLE, arr_pos, arr_neg, ]
   refine ⟨fun _ => ⟨_, _, ⟨rfl, rfl⟩, by omega, by omega, by simp; omega⟩, fun _ => ⟨fun _ => ⟨_, _, ⟨rfl, rfl⟩, by omega, by omega, by simp; omega⟩, fun _ => ⟨_, _, ⟨rfl, rfl⟩, by omega, by omega, by simp; omega⟩⟩⟩
  ·rintro us ⟨p2, l, rfl, c1, c2, c3⟩
   simp (contextual := true) (maxSteps := 1000000) (disch := omega) only [↓Sd, ↓So, ↓Sk, ↓den, ↓denA, Sa, Sb, Sc, Se, O1.d, O2.d, O3.d, cmI, arI, envOf, putN, ↓reduceIte, Nat.reduceLT, Nat.reduceSub, Nat.reduceAdd, Int.reduceAdd, Int.reduceEq, Int.reduceLT, Int.reduceLE, arr_pos, arr_neg, ]
   exact h l p2 (by omega) c3
theorem D_l26Two (b : List Int) (hb : Byt b) (hl : Lt63 b) {Q : List AV → Prop} (h : ∀ (s : Sy) (l : List Int) (i j : Int), SmSy s → l.length ≤ 10 → -1 ≤ i ∧ i ≤ 20 → 0 ≤ j ∧ j ≤ 20 → Q [⟨L V3, s.1⟩, ⟨L TR, s.2⟩, ⟨L I, l⟩, ⟨I, i⟩, ⟨I, j⟩]) : mc.C f_spec_l26Two [⟨L U, b⟩] Q := by
 refine mc.c_of F_spec_l26Two ?_
 simp (contextual := true) (maxSteps := 1000000) (disch := omega) only [↓Sd, ↓So, ↓Sk, ↓den, ↓denA, Sa, Sb, Sc, Se, O1.d, O2.d, O3.d, cmI, arI, envOf, putN, ↓reduceIte, Nat.reduceLT, Nat.reduceSub, Nat.reduceAdd, Int.reduceAdd, Int.reduceEq, Int.reduceLT, Int.reduceLE, arr_pos, arr_neg, tr_spec_l26Two]
 refine D_open b hb hl fun b hb => ?_
 simp (contextual := true) (maxSteps := 1000000) (disch := omega) only [↓Sd, ↓So, ↓Sk, ↓den, ↓denA, Sa, Sb, Sc, Se, O1.d, O2.d, O3.d, cmI, arI, envOf, putN, ↓reduceIte, Nat.reduceLT, Nat.reduceSub, Nat.reduceAdd, Int.reduceAdd, Int.reduceEq, Int.reduceLT, Int.reduceLE, arr_pos, arr_neg, ]
 refine D_l26System _ _ hb (by omega) fun s p1 hp1 hs => ?_
 have h9 := hs.2.1
 simp (contextual := true) (maxSteps := 1000000) (disch := omega) only [↓Sd, ↓So, ↓Sk, ↓den, ↓denA, Sa, Sb, Sc, Se, O1.d, O2.d, O3.d, cmI, arI, envOf, putN, ↓reduceIte, Nat.reduceLT, Nat.reduceSub, Nat.reduceAdd, Int.reduceAdd, Int.reduceEq, Int.reduceLT, Int.reduceLE, arr_pos, arr_neg, ]
 refine D_l2Some _ _ s hb (by omega) hs fun l p2 hp2 hll => ?_
 simp (contextual := true) (maxSteps := 1000000) (disch := omega) only [↓Sd, ↓So, ↓Sk, ↓den, ↓denA, Sa, Sb, Sc, Se, O1.d, O2.d, O3.d, cmI, arI, envOf, putN, ↓reduceIte, Nat.reduceLT, Nat.reduceSub, Nat.reduceAdd, Int.reduceAdd, Int.reduceEq, Int.reduceLT, Int.reduceLE, arr_pos, arr_neg, ]
 refine D_pick1 _ _ _ hb (by omega) (by omega) fun x x0 x1 => ?_; simp (contextual := true) (maxSteps := 1000000) (disch := omega) only [↓Sd, ↓So, ↓Sk, ↓den, ↓denA, Sa, Sb, Sc, Se, O1.d, O2.d, O3.d, cmI, arI, envOf, putN, ↓reduceIte, Nat.reduceLT, Nat.reduceSub, Nat.reduceAdd, Int.reduceAdd, Int.reduceEq, Int.reduceLT, Int.reduceLE, arr_pos, arr_neg, ]
 refine D_pick1 _ _ _ hb (by omega) (by omega) fun y y0 y1 => ?_; simp (contextual := true) (maxSteps := 1000000) (disch := omega) only [↓Sd, ↓So, ↓Sk, ↓den, ↓denA, Sa, Sb, Sc, Se, O1.d, O2.d, O3.d, cmI, arI, envOf, putN, ↓reduceIte, Nat.reduceLT, Nat.reduceSub, Nat.reduceAdd, Int.reduceAdd, Int.reduceEq, Int.reduceLT, Int.reduceLE, arr_pos, arr_neg, ]
 refine D_pick1 _ _ _ hb (by omega) (by omega) fun z z0 z1 => ?_; simp (contextual := true) (maxSteps := 1000000) (disch := omega) only [↓Sd, ↓So, ↓Sk, ↓den, ↓denA, Sa, Sb, Sc, Se, O1.d, O2.d, O3.d, cmI, arI, envOf, putN, ↓reduceIte, Nat.reduceLT, Nat.reduceSub, Nat.reduceAdd, Int.reduceAdd, Int.reduceEq, Int.reduceLT, Int.reduceLE, arr_pos, arr_neg, ]
 simp (contextual := true) (maxSteps := 1000000) (disch := omega) only [↓Sd, ↓So, ↓Sk, ↓den, ↓denA, Sa, Sb, Sc, Se, O1.d, O2.d, O3.d, cmI, arI, envOf, putN, ↓reduceIte, Nat.reduceLT, Nat.reduceSub, Nat.reduceAdd, Int.reduceAdd, Int.reduceEq, Int.reduceLT, Int.reduceLE, arr_pos, arr_neg, ↓wpJoin, ]
 exact h s l _ _ hs hll (by omega) (by omega)
theorem D_DrawRulesApart (b : List Int) (hb : Byt b) (hl : Lt63 b) {Q : List AV → Prop} (h : ∀ (s : Sy) (i j : Int), SmSy s → -1 ≤ i ∧ i ≤ 20 → 0 ≤ j ∧ j ≤ 20 → Q [⟨L V3, s.1⟩, ⟨L TR, s.2⟩, ⟨I, i⟩, ⟨I, j⟩]) : mc.C f_spec_DrawRulesApart [⟨L U, b⟩] Q := by
 refine mc.c_of F_spec_DrawRulesApart ?_
 simp (contextual := true) (maxSteps := 1000000) (disch := omega) only [↓Sd, ↓So, ↓Sk, ↓den, ↓denA, Sa, Sb, Sc, Se, O1.d, O2.d, O3.d, cmI, arI, envOf, putN, ↓reduceIte, Nat.reduceLT, Nat.reduceSub, Nat.reduceAdd, Int.reduceAdd, Int.reduceEq, Int.reduceLT, Int.reduceLE, arr_pos, arr_neg, tr_spec_DrawRulesApart]
 refine D_l26Two b hb hl fun s l i j hs hll hi hj => ?_
 simp (contextual := true) (maxSteps := 1000000) (disch := omega) only [↓Sd, ↓So, ↓Sk, ↓den, ↓denA, Sa, Sb, Sc, Se, O1.d, O2.d, O3.d, cmI, arI, envOf, putN, ↓reduceIte, Nat.reduceLT, Nat.reduceSub, Nat.reduceAdd, Int.reduceAdd, Int.reduceEq, Int.reduceLT, Int.reduceLE, arr_pos, arr_neg, ]
 exact h s i j hs hi hj
theorem C_impl_RulesApart_n (s : Sy) (i j : Nat) (hs : FewSy s) (h : valid s) (hi : i < s.2.length) (hj : j < s.2.length) (Q : List AV → Prop) : mc.C f_impl_RulesApart [⟨L V3, s.1⟩, ⟨L TR, s.2⟩, ⟨I, (i : Int)⟩, ⟨I, (j : Int)⟩] Q = Q [⟨B, dB (Apr s i j)⟩] := by
 have hsl : s.2.length ≤ 1048576 := hs.2.1
 refine Mc.Ends.c (mc.ends F_impl_RulesApart ?_)
 simp (contextual := true) (maxSteps := 1000000) (disch := omega) only [↓Sd, ↓So, ↓Sk, ↓den, ↓denA, Sa, Sb, Sc, Se, O1.d, O2.d, O3.d, cmI, arI, envOf, putN, ↓reduceIte, Nat.reduceLT, Nat.reduceSub, Nat.reduceAdd, Int.reduceAdd, Int.reduceEq, Int.reduceLT, Int.reduceLE, arr_pos, arr_neg, tr_impl_RulesApart, C_impl_SystemValid s hs, decide_eq_true h, C_impl_in, decide_eq_true (show 0 ≤ (i : Int) ∧ (i : Int) ≤ (s.2.length : Int) - 1 by omega), decide_eq_true (show 0 ≤ (j : Int) ∧ (j : Int) ≤ (s.2.length : Int) - 1 by omega), C_impl_rulesApart s i j h hi hj]
theorem C_impl_WakersOf_n (s : Sy) (i : Nat) (hs : FewSy s) (h : valid s) (hi : i < s.2.length) (Q : List AV → Prop) : mc.C f_impl_WakersOf [⟨L V3, s.1⟩, ⟨L TR, s.2⟩, ⟨I, (i : Int)⟩] Q = Q [⟨L I, wkL s i⟩] := by
 have hsl : s.2.length ≤ 1048576 := hs.2.1
 refine Mc.Ends.c (mc.ends F_impl_WakersOf ?_)
 simp (contextual := true) (maxSteps := 1000000) (disch := omega) only [↓Sd, ↓So, ↓Sk, ↓den, ↓denA, Sa, Sb, Sc, Se, O1.d, O2.d, O3.d, cmI, arI, envOf, putN, ↓reduceIte, Nat.reduceLT, Nat.reduceSub, Nat.reduceAdd, Int.reduceAdd, Int.reduceEq, Int.reduceLT, Int.reduceLE, arr_pos, arr_neg, tr_impl_WakersOf, C_impl_SystemValid s hs, decide_eq_true h, C_impl_in, decide_eq_true (show 0 ≤ (i : Int) ∧ (i : Int) ≤ (s.2.length : Int) - 1 by omega), C_impl_wakersOf s i h hi]
theorem C_impl_Use_n (s : Sy) (st : List Int) (i : Nat) (hs : FewSy s) (hl : st.length ≤ 1048576) (h : inS s st) (hi : i < s.2.length) (Q : List AV → Prop) : mc.C f_impl_Use [⟨L V3, s.1⟩, ⟨L TR, s.2⟩, ⟨L I, st⟩, ⟨I, (i : Int)⟩] Q = Q [⟨L I, useM s.1 (rl s i) st⟩, ⟨B, abS s st i⟩] := by
 have hsl : s.2.length ≤ 1048576 := hs.2.1
 refine Mc.Ends.c (mc.ends F_impl_Use ?_)
 simp (contextual := true) (maxSteps := 1000000) (disch := omega) only [↓Sd, ↓So, ↓Sk, ↓den, ↓denA, Sa, Sb, Sc, Se, O1.d, O2.d, O3.d, cmI, arI, envOf, putN, ↓reduceIte, Nat.reduceLT, Nat.reduceSub, Nat.reduceAdd, Int.reduceAdd, Int.reduceEq, Int.reduceLT, Int.reduceLE, arr_pos, arr_neg, tr_impl_Use, C_impl_InRange_a s st hs hl, dB_t h, C_impl_in, decide_eq_true (show 0 ≤ (i : Int) ∧ (i : Int) ≤ (s.2.length : Int) - 1 by omega), C_impl_use s st i h.1 h.2 hi]
 exact ⟨rfl, rfl⟩
theorem evs_len2 {st : List Int} : ∀ {l : List Tm} {vs : List Int}, (evs st l vs).length = vs.length + l.length
 | [], vs => rfl
 | t :: l, vs => by rw [evs, evs_len2]; simp; omega
theorem evs_pre {st : List Int} : ∀ {l : List Tm} {vs : List Int} {j : Nat}, j < vs.length → (evs st l vs).getD j 0 = vs.getD j 0
 | [], vs, j, h => rfl
 | t :: l, vs, j, h => by
  rw [evs, evs_pre (by simp; omega), getD_snoc, if_pos h]
theorem evs_app {st : List Int} : ∀ {l m : List Tm} {vs : List Int}, evs st (l ++ m) vs = evs st m (evs st l vs)
 | [], m, vs => rfl
 | t :: l, m, vs => by rw [List.cons_append, evs, evs, evs_app]
theorem evs_at {st : List Int} {l : List Tm} {i : Nat} (hi : i < l.length) (hop : 2 ≤ (tAt l i).1 → (0 ≤ (tAt l i).2.2.1 ∧ (tAt l i).2.2.1 < i) ∧ 0 ≤ (tAt l i).2.2.2 ∧ (tAt l i).2.2.2 < i) (h01 : (tAt l i).1 = 0 ∨ (tAt l i).1 = 1 ∨ 2 ≤ (tAt l i).1) :
  (evs st l []).getD i 0 = ev1 st (tAt l i) (evs st l []) := by
 have hl : l = l.take i ++ (tAt l i :: l.drop (i + 1)) := by
  have h1 : tAt l i = l[i] := by unfold tAt; rw [getD_lt hi]
  rw [h1, List.getElem_cons_drop, List.take_append_drop]
 obtain ⟨V, hV⟩ : ∃ V, evs st (l.take i) [] = V := ⟨_, rfl⟩
 have hVl : V.length = i := by rw [← hV, evs_len2]; simp; omega
 have hE : evs st l [] = evs st (l.drop (i + 1)) (V ++ [ev1 st (tAt l i) V]) := by
  conv => lhs; rw [hl]
  rw [evs_app, hV, evs]
 have hpre : ∀ j, j < i → (evs st l []).getD j 0 = V.getD j 0 := fun j hj => by
  rw [hE, evs_pre (by simp; omega), getD_snoc, if_pos (by omega)]
 have hself : (evs st l []).getD i 0 = ev1 st (tAt l i) V := by
  rw [hE, evs_pre (by simp; omega), getD_snoc, if_neg (by omega), if_pos hVl.symm]
 rw [hself]
 unfold ev1
 by_cases h0 : (tAt l i).1 = 0
 ·rw [if_pos h0, if_pos h0]
 ·by_cases h1 : (tAt l i).1 = 1
  ·rw [if_neg h0, if_neg h0, if_pos h1, if_pos h1]
  ·have h2 : 2 ≤ (tAt l i).1 := by omega
   have h3 := hop h2
   rw [if_neg h0, if_neg h0, if_neg h1, if_neg h1, hpre _ (by omega), hpre _ (by omega)]
theorem ev1_0 {st vs : List Int} {t : Tm} (h : t.1 = 0) : ev1 st t vs = t.2.1 := if_pos h
theorem ev1_1 {st vs : List Int} {t : Tm} (h : t.1 = 1) : ev1 st t vs = st.getD t.2.1.toNat 0 := by
 unfold ev1
 rw [if_neg (by omega), if_pos h]
theorem ev1_2 {st vs : List Int} {t : Tm} (h : 2 ≤ t.1) : ev1 st t vs = doM t.1 (vs.getD t.2.2.1.toNat 0) (vs.getD t.2.2.2.toNat 0) := by
 unfold ev1
 rw [if_neg (by omega), if_neg (by omega)]
theorem evl_agree {l : List Tm} {vars : Int} (ho : TmsOk l vars) {st st' : List Int} (h : ∀ x : Nat, Us l (x : Int) → st.getD x 0 = st'.getD x 0) : evl l st = evl l st' := by
 have key : ∀ n i, i ≤ n → i < l.length → Nd l i → (evs st l []).getD i 0 = (evs st' l []).getD i 0 := by
  intro n
  induction n with
  | zero =>
   intro i hin hi hN
   have hi0 : i = 0 := by omega
   subst hi0
   rcases ho.at' 0 hi with h5 | h5 | h5
   ·rw [evs_at hi (fun h => by omega) (.inl h5), evs_at hi (fun h => by omega) (.inl h5)]
    rw [ev1_0 h5, ev1_0 h5]
   ·rw [evs_at hi (fun h => by omega) (.inr (.inl h5.1)), evs_at hi (fun h => by omega) (.inr (.inl h5.1))]
    rw [ev1_1 h5.1, ev1_1 h5.1]
    exact h _ ⟨0, hi, hN, h5.1, by omega⟩
   ·omega
  | succ n ih =>
   intro i hin hi hN
   rcases ho.at' i hi with h5 | h5 | h5
   ·rw [evs_at hi (fun h => by omega) (.inl h5), evs_at hi (fun h => by omega) (.inl h5)]
    rw [ev1_0 h5, ev1_0 h5]
   ·rw [evs_at hi (fun h => by omega) (.inr (.inl h5.1)), evs_at hi (fun h => by omega) (.inr (.inl h5.1))]
    rw [ev1_1 h5.1, ev1_1 h5.1]
    exact h _ ⟨i, hi, hN, h5.1, by omega⟩
   ·rw [evs_at hi (fun _ => h5.2) (.inr (.inr h5.1)), evs_at hi (fun _ => h5.2) (.inr (.inr h5.1))]
    have hA := ih (tAt l i).2.2.1.toNat (by omega) (by omega) (.arg hN hi h5.1 (.inl rfl))
    have hB := ih (tAt l i).2.2.2.toNat (by omega) (by omega) (.arg hN hi h5.1 (.inr rfl))
    rw [ev1_2 h5.1, ev1_2 h5.1, hA, hB]
 have hlen := ho.len
 exact key (l.length - 1) (l.length - 1) (Nat.le_refl _) (by omega) .top
theorem gset_s {l : List Int} {x : Nat} {v : Int} (h : x < l.length) : (l.set x v).getD x 0 = v := by simp [List.getD_eq_getElem?_getD, h]
theorem gset_n {l : List Int} {x y : Nat} {v : Int} (h : y ≠ x) : (l.set y v).getD x 0 = l.getD x 0 := by simp [List.getD_eq_getElem?_getD, List.getElem?_set_ne h]
theorem upR_out {r : Ru} {st : List Int} {x : Nat} : ∀ {n : Nat}, (∀ m, m < n → (r.2.1.getD m 0).toNat ≠ x) → (upR r st n).getD x 0 = st.getD x 0
 | 0, _ => rfl
 | n + 1, h => by
  rw [upR_next, gset_n (h n (by omega))]
  exact upR_out fun m hm => h m (by omega)
theorem upR_in {r : Ru} {st st' : List Int} {x : Nat} (hl : st.length = st'.length) (hx : x < st.length) : ∀ {n : Nat}, (∀ m, m < n → evl (r.2.2.getD m []) st = evl (r.2.2.getD m []) st') → (∃ m, m < n ∧ (r.2.1.getD m 0).toNat = x) → (upR r st n).getD x 0 = (upR r st' n).getD x 0
 | 0, _, ⟨m, hm, _⟩ => absurd hm (Nat.not_lt_zero _)
 | n + 1, he, ⟨m, hm, hmx⟩ => by
  have h1 : x < (upR r st n).length := by rw [upR_len]; exact hx
  have h2 : x < (upR r st' n).length := by rw [upR_len, ← hl]; exact hx
  rw [upR_next, upR_next, he n (by omega)]
  by_cases e : (r.2.1.getD n 0).toNat = x
  ·rw [e, gset_s h1, gset_s h2]
  ·have hm' : m < n := by
    rcases Nat.lt_succ_iff_lt_or_eq.1 hm with h | h
    ·exact h
    ·subst h; exact absurd hmx e
   rw [gset_n e, gset_n e]
   exact upR_in hl hx (fun m hm => he m (by omega)) ⟨m, hm', hmx⟩
theorem rule_same {s : Sy} (h : valid s) {j : Nat} (hj : j < s.2.length) {st st' : List Int} (hd : ∀ x : Nat, (x : Int) ∈ tcL s.1.length (rl s j) → st.getD x 0 = st'.getD x 0) :
  evl (rl s j).1 st = evl (rl s j).1 st' ∧ ∀ m, m < (rl s j).2.1.length → evl ((rl s j).2.2.getD m []) st = evl ((rl s j).2.2.getD m []) st' := by
 obtain ⟨h1, h2, h3, h4⟩ := rl_terms h hj
 refine ⟨evl_agree (tms_ok h3) fun x hx => hd x (tcL_mem.2 (.inl ((usL_mem (tms_ok h3)).2 hx))), fun m hm => ?_⟩
 have h5 := tms_ok (h4 m (by omega))
 exact evl_agree h5 fun x hx => hd x (tcL_mem.2 (.inr ⟨m, by omega, (usL_mem h5).2 hx⟩))
theorem set_at {s : Sy} (h : valid s) {i : Nat} (hi : i < s.2.length) {m : Nat} (hm : m < (rl s i).2.1.length) : 0 ≤ (rl s i).2.1.getD m 0 ∧ (rl s i).2.1.getD m 0 < (s.1.length : Int) := by
 have := ((rl_ok h hi).2.2 m hm).1
 omega
theorem apart_swap {s : Sy} (h : valid s) {i j : Nat} (hi : i < s.2.length) (hj : j < s.2.length) (ha : Apr s i j) {st : List Int} (hst : inR s.1 st) (h1 : useM s.1 (rl s i) st ≠ []) (h2 : useM s.1 (rl s j) st ≠ []) :
  useM s.1 (rl s j) (useM s.1 (rl s i) st) = useM s.1 (rl s i) (useM s.1 (rl s j) st) ∧ useM s.1 (rl s j) (useM s.1 (rl s i) st) ≠ [] := by
 have hun : ∀ {k : Nat} {a : List Int}, useM s.1 (rl s k) a ≠ [] → evl (rl s k).1 a ≠ 0 ∧ inR s.1 (upR (rl s k) a (rl s k).2.1.length) ∧ useM s.1 (rl s k) a = upR (rl s k) a (rl s k).2.1.length := by
  intro k a hu
  unfold useM at hu ⊢
  by_cases g : evl (rl s k).1 a = 0
  ·rw [if_pos g] at hu; exact absurd rfl hu
  ·rw [if_neg g] at hu ⊢
   by_cases g2 : inR s.1 (upR (rl s k) a (rl s k).2.1.length)
   ·rw [if_pos g2]; exact ⟨g, g2, rfl⟩
   ·rw [if_neg g2] at hu; exact absurd rfl hu
 obtain ⟨e1, r1, u1⟩ := hun h1
 obtain ⟨e2, r2, u2⟩ := hun h2
 rw [u1, u2]
 obtain ⟨A, hA⟩ : ∃ A, upR (rl s i) st (rl s i).2.1.length = A := ⟨_, rfl⟩
 obtain ⟨B0, hB⟩ : ∃ B0, upR (rl s j) st (rl s j).2.1.length = B0 := ⟨_, rfl⟩
 rw [hA] at r1 ⊢
 rw [hB] at r2 ⊢
 have mem : ∀ {k : Nat}, k < s.2.length → ∀ x : Nat, (∃ m, m < (rl s k).2.1.length ∧ ((rl s k).2.1.getD m 0).toNat = x) ↔ (x : Int) ∈ (rl s k).2.1 := by
  intro k hk x
  constructor
  ·rintro ⟨m, hm, hx⟩
   have := set_at h hk hm
   rw [show (x : Int) = (rl s k).2.1.getD m 0 by omega]
   exact getD_mem hm
  ·intro hx
   obtain ⟨m, hm, he⟩ := List.getElem_of_mem hx
   refine ⟨m, hm, ?_⟩
   rw [getD_lt hm, he]
   omega
 have out : ∀ {k : Nat}, k < s.2.length → ∀ (a : List Int) (x : Nat), ¬ (x : Int) ∈ (rl s k).2.1 → (upR (rl s k) a (rl s k).2.1.length).getD x 0 = a.getD x 0 := fun hk a x hx =>
  upR_out fun m hm hmx => hx ((mem hk x).1 ⟨m, hm, hmx⟩)
 have hAx : ∀ x : Nat, ¬ (x : Int) ∈ (rl s i).2.1 → A.getD x 0 = st.getD x 0 := fun x hx => by rw [← hA]; exact out hi st x hx
 have hBx : ∀ x : Nat, ¬ (x : Int) ∈ (rl s j).2.1 → B0.getD x 0 = st.getD x 0 := fun x hx => by rw [← hB]; exact out hj st x hx
 have sj := rule_same h hj (st := A) (st' := st) fun x hx => hAx x fun g => ha.2.1 ⟨_, g, hx⟩
 have si := rule_same h hi (st := B0) (st' := st) fun x hx => hBx x fun g => ha.2.2 ⟨_, g, hx⟩
 have lA : A.length = st.length := by rw [← hA, upR_len]
 have lB : B0.length = st.length := by rw [← hB, upR_len]
 have ls := hst.1
 obtain ⟨C1, hC1⟩ : ∃ C1, upR (rl s j) A (rl s j).2.1.length = C1 := ⟨_, rfl⟩
 obtain ⟨C2, hC2⟩ : ∃ C2, upR (rl s i) B0 (rl s i).2.1.length = C2 := ⟨_, rfl⟩
 have l1 : C1.length = st.length := by rw [← hC1, upR_len, lA]
 have l2 : C2.length = st.length := by rw [← hC2, upR_len, lB]
 have inj : ∀ x : Nat, x < st.length → (x : Int) ∈ (rl s j).2.1 → C1.getD x 0 = B0.getD x 0 := fun x hx hm => by
  rw [← hC1, ← hB]
  exact upR_in lA (by omega) sj.2 ((mem hj x).2 hm)
 have ini : ∀ x : Nat, x < st.length → (x : Int) ∈ (rl s i).2.1 → C2.getD x 0 = A.getD x 0 := fun x hx hm => by
  rw [← hC2, ← hA]
  exact upR_in lB (by omega) si.2 ((mem hi x).2 hm)
 have outj : ∀ x : Nat, ¬ (x : Int) ∈ (rl s j).2.1 → C1.getD x 0 = A.getD x 0 := fun x hx => by rw [← hC1]; exact out hj A x hx
 have outi : ∀ x : Nat, ¬ (x : Int) ∈ (rl s i).2.1 → C2.getD x 0 = B0.getD x 0 := fun x hx => by rw [← hC2]; exact out hi B0 x hx
 have hsame : ∀ x : Nat, x < st.length → C1.getD x 0 = C2.getD x 0 := by
  intro x hx
  by_cases g1 : (x : Int) ∈ (rl s i).2.1
  ·have g2 : ¬ (x : Int) ∈ (rl s j).2.1 := fun g => ha.1 ⟨_, g1, g⟩
   rw [outj x g2, ini x hx g1]
  ·by_cases g2 : (x : Int) ∈ (rl s j).2.1
   ·rw [inj x hx g2, outi x g1]
   ·rw [outj x g2, outi x g1, hAx x g1, hBx x g2]
 have hC : C1 = C2 := by
  apply List.ext_getElem
  ·rw [l1, l2]
  ·intro x hx1 hx2
   have := hsame x (by omega)
   rw [getD_lt hx1, getD_lt hx2] at this
   exact this
 have hrange : inR s.1 C1 := by
  refine ⟨by rw [l1, ls], fun x hx => ?_⟩
  by_cases g2 : (x : Int) ∈ (rl s j).2.1
  ·rw [inj x (by omega) g2]; exact r2.2 x hx
  ·rw [outj x g2]; exact r1.2 x hx
 have hne : C1 ≠ [] := fun g => by
  have := h.1.1
  rw [g, List.length_nil] at l1
  omega
 have k1 : useM s.1 (rl s j) A = C1 := by
  unfold useM
  rw [if_neg (by rw [sj.1]; exact e2), hC1, if_pos hrange]
 have k2 : useM s.1 (rl s i) B0 = C2 := by
  unfold useM
  rw [if_neg (by rw [si.1]; exact e1), hC2, if_pos (by rw [← hC]; exact hrange)]
 rw [k1, k2]
 exact ⟨hC, hne⟩
def raK (s : Sy) (i j : Int) : Prop := valid s ∧ (0 ≤ i ∧ i ≤ (s.2.length : Int) - 1) ∧ (0 ≤ j ∧ j ≤ (s.2.length : Int) - 1) ∧ Apr s i.toNat j.toNat
theorem raK_n {s : Sy} {i j : Int} (h : raK s i j) : ∃ a b : Nat, i = (a : Int) ∧ j = (b : Int) ∧ a < s.2.length ∧ b < s.2.length ∧ Apr s a b := by
 obtain ⟨h1, h2, h3, h4⟩ := h
 exact ⟨i.toNat, j.toNat, by omega, by omega, by omega, by omega, h4⟩
theorem C_impl_RulesApart_a (s : Sy) (i j : Int) (hs : FewSy s) (Q : List AV → Prop) : mc.C f_impl_RulesApart [⟨L V3, s.1⟩, ⟨L TR, s.2⟩, ⟨I, i⟩, ⟨I, j⟩] Q = Q [⟨B, dB (raK s i j)⟩] := by
 have hsl : s.2.length ≤ 1048576 := hs.2.1
 by_cases h : valid s ∧ (0 ≤ i ∧ i ≤ (s.2.length : Int) - 1) ∧ (0 ≤ j ∧ j ≤ (s.2.length : Int) - 1)
 ·obtain ⟨hv, hi, hj⟩ := h
  obtain ⟨a, rfl⟩ : ∃ a : Nat, i = a := ⟨i.toNat, by omega⟩
  obtain ⟨b, rfl⟩ : ∃ b : Nat, j = b := ⟨j.toNat, by omega⟩
  rw [C_impl_RulesApart_n s a b hs hv (by omega) (by omega)]
  rw [dB_congr (p := Apr s a b) (q := raK s a b) ⟨fun g => ⟨hv, hi, hj, g⟩, fun g => g.2.2.2⟩]
 ·rw [dB_f fun g => h ⟨g.1, g.2.1, g.2.2.1⟩]
  refine Mc.Ends.c (mc.ends F_impl_RulesApart ?_)
  by_cases hv : valid s
  ·by_cases hi : 0 ≤ i ∧ i ≤ (s.2.length : Int) - 1
   ·have hj : ¬ (0 ≤ j ∧ j ≤ (s.2.length : Int) - 1) := fun hj => h ⟨hv, hi, hj⟩
    simp (contextual := true) (maxSteps := 1000000) (disch := omega) only [↓Sd, ↓So, ↓Sk, ↓den, ↓denA, Sa, Sb, Sc, Se, O1.d, O2.d, O3.d, cmI, arI, envOf, putN, ↓reduceIte, Nat.reduceLT, Nat.reduceSub, Nat.reduceAdd, Int.reduceAdd, Int.reduceEq, Int.reduceLT, Int.reduceLE, arr_pos, arr_neg, tr_impl_RulesApart, C_impl_SystemValid s hs, decide_eq_true hv, C_impl_in, decide_eq_true hi, decide_eq_false hj]
   ·simp (contextual := true) (maxSteps := 1000000) (disch := omega) only [↓Sd, ↓So, ↓Sk, ↓den, ↓denA, Sa, Sb, Sc, Se, O1.d, O2.d, O3.d, cmI, arI, envOf, putN, ↓reduceIte, Nat.reduceLT, Nat.reduceSub, Nat.reduceAdd, Int.reduceAdd, Int.reduceEq, Int.reduceLT, Int.reduceLE, arr_pos, arr_neg, tr_impl_RulesApart, C_impl_SystemValid s hs, decide_eq_true hv, C_impl_in, decide_eq_false hi]
  ·simp (contextual := true) (maxSteps := 1000000) (disch := omega) only [↓Sd, ↓So, ↓Sk, ↓den, ↓denA, Sa, Sb, Sc, Se, O1.d, O2.d, O3.d, cmI, arI, envOf, putN, ↓reduceIte, Nat.reduceLT, Nat.reduceSub, Nat.reduceAdd, Int.reduceAdd, Int.reduceEq, Int.reduceLT, Int.reduceLE, arr_pos, arr_neg, tr_impl_RulesApart, C_impl_SystemValid s hs, decide_eq_false hv]
theorem C_spec_RulesApart_a (s : Sy) (i j : Int) (hs : FewSy s) (Q : List AV → Prop) : mc.C f_spec_RulesApart [⟨L V3, s.1⟩, ⟨L TR, s.2⟩, ⟨I, i⟩, ⟨I, j⟩] Q = Q [⟨B, dB (raK s i j)⟩] := by
 have hsl : s.2.length ≤ 1048576 := hs.2.1
 refine Mc.Ends.c (mc.ends F_spec_RulesApart ?_)
 by_cases hv : valid s
 ·by_cases hi : 0 ≤ i ∧ i ≤ (s.2.length : Int) - 1
  ·by_cases hj : 0 ≤ j ∧ j ≤ (s.2.length : Int) - 1
   ·obtain ⟨a, rfl⟩ : ∃ a : Nat, i = a := ⟨i.toNat, by omega⟩
    obtain ⟨b, rfl⟩ : ∃ b : Nat, j = b := ⟨j.toNat, by omega⟩
    simp (contextual := true) (maxSteps := 1000000) (disch := omega) only [↓Sd, ↓So, ↓Sk, ↓den, ↓denA, Sa, Sb, Sc, Se, O1.d, O2.d, O3.d, cmI, arI, envOf, putN, ↓reduceIte, Nat.reduceLT, Nat.reduceSub, Nat.reduceAdd, Int.reduceAdd, Int.reduceEq, Int.reduceLT, Int.reduceLE, arr_pos, arr_neg, tr_spec_RulesApart, C_spec_SystemValid s hs, decide_eq_true hv, C_spec_l1In, decide_eq_true hi, decide_eq_true hj, C_spec_l26Apart s a b hs hv (by omega) (by omega)]
    exact dB_congr (p := Apr s a b) (q := raK s a b) ⟨fun g => ⟨hv, hi, hj, g⟩, fun g => g.2.2.2⟩
   ·rw [dB_f fun g => hj g.2.2.1]
    simp (contextual := true) (maxSteps := 1000000) (disch := omega) only [↓Sd, ↓So, ↓Sk, ↓den, ↓denA, Sa, Sb, Sc, Se, O1.d, O2.d, O3.d, cmI, arI, envOf, putN, ↓reduceIte, Nat.reduceLT, Nat.reduceSub, Nat.reduceAdd, Int.reduceAdd, Int.reduceEq, Int.reduceLT, Int.reduceLE, arr_pos, arr_neg, tr_spec_RulesApart, C_spec_SystemValid s hs, decide_eq_true hv, C_spec_l1In, decide_eq_true hi, decide_eq_false hj]
  ·rw [dB_f fun g => hi g.2.1]
   simp (contextual := true) (maxSteps := 1000000) (disch := omega) only [↓Sd, ↓So, ↓Sk, ↓den, ↓denA, Sa, Sb, Sc, Se, O1.d, O2.d, O3.d, cmI, arI, envOf, putN, ↓reduceIte, Nat.reduceLT, Nat.reduceSub, Nat.reduceAdd, Int.reduceAdd, Int.reduceEq, Int.reduceLT, Int.reduceLE, arr_pos, arr_neg, tr_spec_RulesApart, C_spec_SystemValid s hs, decide_eq_true hv, C_spec_l1In, decide_eq_false hi]
 ·rw [dB_f fun g => hv g.1]
  simp (contextual := true) (maxSteps := 1000000) (disch := omega) only [↓Sd, ↓So, ↓Sk, ↓den, ↓denA, Sa, Sb, Sc, Se, O1.d, O2.d, O3.d, cmI, arI, envOf, putN, ↓reduceIte, Nat.reduceLT, Nat.reduceSub, Nat.reduceAdd, Int.reduceAdd, Int.reduceEq, Int.reduceLT, Int.reduceLE, arr_pos, arr_neg, tr_spec_RulesApart, C_spec_SystemValid s hs, decide_eq_false hv]
theorem C_impl_SizeOf_b (s : Sy) (hs : FewSy s) (Q : List AV → Prop) : mc.C f_impl_SizeOf [⟨L V3, s.1⟩, ⟨L TR, s.2⟩] Q = Q [⟨I, if valid s then sz s.1 else 0⟩] := by
 by_cases h : valid s
 ·rw [if_pos h]; exact C_impl_SizeOf s hs h Q
 ·rw [if_neg h]
  refine Mc.Ends.c (mc.ends F_impl_SizeOf ?_)
  simp (contextual := true) (maxSteps := 1000000) (disch := omega) only [↓Sd, ↓So, ↓Sk, ↓den, ↓denA, Sa, Sb, Sc, Se, O1.d, O2.d, O3.d, cmI, arI, envOf, putN, ↓reduceIte, Nat.reduceLT, Nat.reduceSub, Nat.reduceAdd, Int.reduceAdd, Int.reduceEq, Int.reduceLT, Int.reduceLE, arr_pos, arr_neg, tr_impl_SizeOf, C_impl_SystemValid s hs, h]
theorem C_impl_RulesCommute_t (s : Sy) (st : List Int) (i j : Nat) (hs : FewSy s) (h : inS s st) (hi : i < s.2.length) (hj : j < s.2.length) (ha : Apr s i j) (h1 : abS s st i = true) (h2 : abS s st j = true) (Q : List AV → Prop) : mc.C f_impl_RulesCommute [⟨L V3, s.1⟩, ⟨L TR, s.2⟩, ⟨L I, st⟩, ⟨I, (i : Int)⟩, ⟨I, (j : Int)⟩] Q = Q [⟨B, true⟩] := by
 have hsl : s.2.length ≤ 1048576 := hs.2.1
 have h5 := h.1.1.2
 have hl : st.length ≤ 1048576 := by have := h.2.1; omega
 have u1 : useM s.1 (rl s i) st ≠ [] := by simpa [abS] using h1
 have u2 : useM s.1 (rl s j) st ≠ [] := by simpa [abS] using h2
 obtain ⟨hsw, hne⟩ := apart_swap h.1 hi hj ha h.2 u1 u2
 have r1 := useM_in u1
 have r2 := useM_in u2
 have ci := fun Q => C_impl_use s st i h.1 h.2 hi Q
 have cj := fun Q => C_impl_use s st j h.1 h.2 hj Q
 have cij := fun Q => C_impl_use s (useM s.1 (rl s i) st) j h.1 r1 hj Q
 have cji := fun Q => C_impl_use s (useM s.1 (rl s j) st) i h.1 r2 hi Q
 have ei : s.2.getD i ([], [], []) = rl s i := rfl
 have ej : s.2.getD j ([], [], []) = rl s j := rfl
 rw [ei] at ci cji
 rw [ej] at cj cij
 rw [← hsw] at cji
 have rc := useM_in hne
 obtain ⟨C, hC⟩ : ∃ C, useM s.1 (rl s j) (useM s.1 (rl s i) st) = C := ⟨_, rfl⟩
 rw [hC] at cij cji hne rc
 obtain ⟨A, hA⟩ : ∃ A, useM s.1 (rl s i) st = A := ⟨_, rfl⟩
 obtain ⟨B0, hB⟩ : ∃ B0, useM s.1 (rl s j) st = B0 := ⟨_, rfl⟩
 rw [hA] at ci cij u1
 rw [hB] at cj cji u2
 rw [decide_eq_true u1] at ci
 rw [decide_eq_true u2] at cj
 rw [decide_eq_true hne] at cij cji
 have hCl : C.length ≤ 1048576 := by have := rc.1; omega
 refine Mc.Ends.c (mc.ends F_impl_RulesCommute ?_)
 simp (contextual := true) (maxSteps := 1000000) (disch := omega) only [↓Sd, ↓So, ↓Sk, ↓den, ↓denA, Sa, Sb, Sc, Se, O1.d, O2.d, O3.d, cmI, arI, envOf, putN, ↓reduceIte, Nat.reduceLT, Nat.reduceSub, Nat.reduceAdd, Int.reduceAdd, Int.reduceEq, Int.reduceLT, Int.reduceLE, arr_pos, arr_neg, tr_impl_RulesCommute, C_impl_InRange_a s st hs hl, dB_t h, C_impl_in, decide_eq_true (show 0 ≤ (i : Int) ∧ (i : Int) ≤ (s.2.length : Int) - 1 by omega), decide_eq_true (show 0 ≤ (j : Int) ∧ (j : Int) ≤ (s.2.length : Int) - 1 by omega), ci, cj, cij, cji, C_slices_Equal C C hCl hCl]
set_option maxHeartbeats 2000000 in
theorem law_FnRulesApart (b : List Int) (hb : Byt b) (hl : Lt63 b) : mc.C f_laws_FnRulesApart [⟨L U, b⟩] (· = [⟨B, true⟩]) := by
 refine mc.c_of F_laws_FnRulesApart ?_
 have h63 := hl
 unfold Lt63 at h63
 simp (contextual := true) (maxSteps := 1000000) (disch := omega) only [↓Sd, ↓So, ↓Sk, ↓den, ↓denA, Sa, Sb, Sc, Se, O1.d, O2.d, O3.d, cmI, arI, envOf, putN, ↓reduceIte, Nat.reduceLT, Nat.reduceSub, Nat.reduceAdd, Int.reduceAdd, Int.reduceEq, Int.reduceLT, Int.reduceLE, arr_pos, arr_neg, tr_laws_FnRulesApart]
 intro _
 refine D_DrawRulesApart b hb hl fun s i j hs hi hj => ?_
 have hs := hs.few
 simp (contextual := true) (maxSteps := 1000000) (disch := omega) only [↓Sd, ↓So, ↓Sk, ↓den, ↓denA, Sa, Sb, Sc, Se, O1.d, O2.d, O3.d, cmI, arI, envOf, putN, ↓reduceIte, Nat.reduceLT, Nat.reduceSub, Nat.reduceAdd, Int.reduceAdd, Int.reduceEq, Int.reduceLT, Int.reduceLE, arr_pos, arr_neg, C_impl_RulesApart_a s i j hs, C_spec_RulesApart_a s i j hs, C_impl_SizeOf_b s hs, C_spec_SizeOf s hs]
 by_cases hK : raK s i j
 ·rw [dB_t hK]
  have hv := hK.1
  have hz := szn_eq hv
  obtain ⟨a, c, rfl, rfl, ha, hc, hap⟩ := raK_n hK
  refine mc.wp_join (fun us => us = [⟨I, (a : Int)⟩, ⟨I, (c : Int)⟩, ⟨B, true⟩, ⟨L V3, s.1⟩, ⟨L TR, s.2⟩]) ?_ ?_
  ·simp (contextual := true) (maxSteps := 1000000) (disch := omega) only [↓Sd, ↓So, ↓Sk, ↓den, ↓denA, Sa, Sb, Sc, Se, O1.d, O2.d, O3.d, cmI, arI, envOf, putN, ↓reduceIte, Nat.reduceLT, Nat.reduceSub, Nat.reduceAdd, Int.reduceAdd, Int.reduceEq, Int.reduceLT, Int.reduceLE, arr_pos, arr_neg, ]
   refine mc.lp_for Unit (fun n _ => [⟨I, (a : Int)⟩, ⟨I, (c : Int)⟩, ⟨B, true⟩, ⟨I, (n : Int)⟩, ⟨L V3, s.1⟩, ⟨L TR, s.2⟩]) (fun _ _ => True) (szn s.1) 0 () _ rfl (Nat.zero_le _) trivial ?_ ?_
   ·rintro n - hn -
    have hin : inS s (stN s n) := ⟨hv, stN_in hv hn⟩
    have hsl : (stN s n).length ≤ 1048576 := by have := hin.2.1; have := hv.1.2; omega
    have hcm := fun h1 h2 Q => C_impl_RulesCommute_t s (stN s n) a c hs hin ha hc hap h1 h2 Q
    cases h1 : abS s (stN s n) a with
    | false =>
     simp (contextual := true) (maxSteps := 1000000) (disch := omega) only [↓Sd, ↓So, ↓Sk, ↓den, ↓denA, Sa, Sb, Sc, Se, O1.d, O2.d, O3.d, cmI, arI, envOf, putN, ↓reduceIte, Nat.reduceLT, Nat.reduceSub, Nat.reduceAdd, Int.reduceAdd, Int.reduceEq, Int.reduceLT, Int.reduceLE, arr_pos, arr_neg, ↓wpJoin, C_impl_SizeOf s hs hv, ← hz.1, C_impl_StateAt s n hs hv hn, C_impl_Use_n s (stN s n) a hs hsl hin ha, C_impl_Use_n s (stN s n) c hs hsl hin hc, h1]
    | true =>
     cases h2 : abS s (stN s n) c with
     | false =>
      simp (contextual := true) (maxSteps := 1000000) (disch := omega) only [↓Sd, ↓So, ↓Sk, ↓den, ↓denA, Sa, Sb, Sc, Se, O1.d, O2.d, O3.d, cmI, arI, envOf, putN, ↓reduceIte, Nat.reduceLT, Nat.reduceSub, Nat.reduceAdd, Int.reduceAdd, Int.reduceEq, Int.reduceLT, Int.reduceLE, arr_pos, arr_neg, ↓wpJoin, C_impl_SizeOf s hs hv, ← hz.1, C_impl_StateAt s n hs hv hn, C_impl_Use_n s (stN s n) a hs hsl hin ha, C_impl_Use_n s (stN s n) c hs hsl hin hc, h1, h2]
     | true =>
      have hcm := hcm h1 h2
      simp (contextual := true) (maxSteps := 1000000) (disch := omega) only [↓Sd, ↓So, ↓Sk, ↓den, ↓denA, Sa, Sb, Sc, Se, O1.d, O2.d, O3.d, cmI, arI, envOf, putN, ↓reduceIte, Nat.reduceLT, Nat.reduceSub, Nat.reduceAdd, Int.reduceAdd, Int.reduceEq, Int.reduceLT, Int.reduceLE, arr_pos, arr_neg, ↓wpJoin, C_impl_SizeOf s hs hv, ← hz.1, C_impl_StateAt s n hs hv hn, C_impl_Use_n s (stN s n) a hs hsl hin ha, C_impl_Use_n s (stN s n) c hs hsl hin hc, h1, h2, hcm]
   ·rintro - -
    simp (contextual := true) (maxSteps := 1000000) (disch := omega) only [↓Sd, ↓So, ↓Sk, ↓den, ↓denA, Sa, Sb, Sc, Se, O1.d, O2.d, O3.d, cmI, arI, envOf, putN, ↓reduceIte, Nat.reduceLT, Nat.reduceSub, Nat.reduceAdd, Int.reduceAdd, Int.reduceEq, Int.reduceLT, Int.reduceLE, arr_pos, arr_neg, ↓wpJoin, C_impl_SizeOf s hs hv, ← hz.1]
  ·rintro _ rfl
   have w1 := @wkL_len s a hv
   have w2 := @wkL_len s c hv
   have n1 : dB ((c : Int) ∈ wkL s a) = false := dB_f fun g => by
    unfold wkL at g
    obtain ⟨k, h1, h2, h3⟩ := upTo_mem.1 g
    have : k = c := by omega
    subst this
    exact hap.2.2 (dB_iff.1 h3).2
   have n2 : dB ((a : Int) ∈ wkL s c) = false := dB_f fun g => by
    unfold wkL at g
    obtain ⟨k, h1, h2, h3⟩ := upTo_mem.1 g
    have : k = a := by omega
    subst this
    exact hap.2.1 (dB_iff.1 h3).2
   have hsym : Apr s c a := ⟨fun ⟨x, g1, g2⟩ => hap.1 ⟨x, g2, g1⟩, hap.2.2, hap.2.1⟩
   simp (contextual := true) (maxSteps := 1000000) (disch := omega) only [↓Sd, ↓So, ↓Sk, ↓den, ↓denA, Sa, Sb, Sc, Se, O1.d, O2.d, O3.d, cmI, arI, envOf, putN, ↓reduceIte, Nat.reduceLT, Nat.reduceSub, Nat.reduceAdd, Int.reduceAdd, Int.reduceEq, Int.reduceLT, Int.reduceLE, arr_pos, arr_neg, C_impl_WakersOf_n s a hs hv ha, C_impl_WakersOf_n s c hs hv hc, C_laws_wcHas (wkL s a) (c : Int) (by omega), C_laws_wcHas (wkL s c) (a : Int) (by omega), n1, n2, C_impl_RulesApart_n s c a hs hv hc ha, dB_t hsym]
 ·rw [dB_f hK]
  refine mc.wp_join (fun us => us = [⟨I, i⟩, ⟨I, j⟩, ⟨B, false⟩, ⟨L V3, s.1⟩, ⟨L TR, s.2⟩]) ?_ ?_
  ·simp (contextual := true) (maxSteps := 1000000) (disch := omega) only [↓Sd, ↓So, ↓Sk, ↓den, ↓denA, Sa, Sb, Sc, Se, O1.d, O2.d, O3.d, cmI, arI, envOf, putN, ↓reduceIte, Nat.reduceLT, Nat.reduceSub, Nat.reduceAdd, Int.reduceAdd, Int.reduceEq, Int.reduceLT, Int.reduceLE, arr_pos, arr_neg, ]
   refine mc.lp_step ?_
   simp (contextual := true) (maxSteps := 1000000) (disch := omega) only [↓Sd, ↓So, ↓Sk, ↓den, ↓denA, Sa, Sb, Sc, Se, O1.d, O2.d, O3.d, cmI, arI, envOf, putN, ↓reduceIte, Nat.reduceLT, Nat.reduceSub, Nat.reduceAdd, Int.reduceAdd, Int.reduceEq, Int.reduceLT, Int.reduceLE, arr_pos, arr_neg, ]
  ·rintro _ rfl
   simp (contextual := true) (maxSteps := 1000000) (disch := omega) only [↓Sd, ↓So, ↓Sk, ↓den, ↓denA, Sa, Sb, Sc, Se, O1.d, O2.d, O3.d, cmI, arI, envOf, putN, ↓reduceIte, Nat.reduceLT, Nat.reduceSub, Nat.reduceAdd, Int.reduceAdd, Int.reduceEq, Int.reduceLT, Int.reduceLE, arr_pos, arr_neg, ]
end Go.Proofs.YtlfinllnfggiiaaGreat
