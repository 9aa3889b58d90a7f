/- What the trees come to: plain mathematics; no condition. -/
import Derived.Test.YthapopegchnhlabGreatSmMath1
namespace Go.Proofs.YthapopegchnhlabGreat
open Go Go.Sm Go.Sm.Q
set_option linter.unusedSimpArgs false
set_option linter.unusedVariables false
theorem C_spec_TouchedBy (s : Sy) (i : Nat) (hs : FewSy s) (h : valid s) (hi : i < s.2.length) (Q : List AV → Prop) : mc.C f_spec_TouchedBy [⟨L V3, s.1⟩, ⟨L TR, s.2⟩, ⟨I, (i : Int)⟩] Q = Q [⟨L I, (rl s i).2.1⟩, ⟨L I, tcS s.1.length (rl s i)⟩] := by
 refine Mc.Ends.c (mc.ends F_spec_TouchedBy ?_)
 obtain ⟨h1, h2, h3, h4⟩ := rl_terms h hi
 have h5 := h.1
 obtain ⟨r, hr⟩ : ∃ r, rl s i = r := ⟨_, rfl⟩
 have hr' : s.2.getD i ([], [], []) = r := hr
 have hrm : r ∈ s.2 := by rw [← hr']; exact getD_mem hi
 have hru : FewRu r := hs.2.2 r hrm
 have h8 := h.2.1
 rw [hr] at h1 h2 h3 h4 ⊢
 simp (contextual := true) (maxSteps := 1000000) (disch := omega) only [↓Sd, ↓So, ↓Sk, ↓den, ↓denA, Sa, Sb, Sc, Se, O1.d, O2.d, O3.d, cmI, arI, envOf, putN, ↓reduceIte, Nat.reduceLT, Nat.reduceSub, Nat.reduceAdd, Int.reduceAdd, Int.reduceEq, Int.reduceLT, Int.reduceLE, arr_pos, arr_neg, tr_spec_TouchedBy, C_spec_SystemValid s hs, decide_eq_true h, C_spec_l1In, decide_eq_true (show 0 ≤ (i : Int) ∧ (i : Int) ≤ (s.2.length : Int) - 1 by omega), hr']
 refine mc.lp_for (List Int) (fun k o => [⟨I, (k : Int)⟩, ⟨L V3, s.1⟩, ⟨L TR, s.2⟩, ⟨L T4, r.1⟩, ⟨L I, r.2.1⟩, ⟨L (L T4), r.2.2⟩, ⟨L I, o⟩]) (fun k o => o = r.2.1.take k) r.2.1.length 0 [] _ rfl (Nat.zero_le _) rfl ?_ ?_
 ·rintro k o hk rfl
  have : (r.2.1.take k).length ≤ 5 := by rw [List.length_take]; omega
  simp (contextual := true) (maxSteps := 1000000) (disch := omega) only [↓Sd, ↓So, ↓Sk, ↓den, ↓denA, Sa, Sb, Sc, Se, O1.d, O2.d, O3.d, cmI, arI, envOf, putN, ↓reduceIte, Nat.reduceLT, Nat.reduceSub, Nat.reduceAdd, Int.reduceAdd, Int.reduceEq, Int.reduceLT, Int.reduceLE, arr_pos, arr_neg, ]
  rw [List.take_succ_eq_append_getElem hk, getD_lt hk]
 rintro o rfl
 rw [List.take_length]
 simp (contextual := true) (maxSteps := 1000000) (disch := omega) only [↓Sd, ↓So, ↓Sk, ↓den, ↓denA, Sa, Sb, Sc, Se, O1.d, O2.d, O3.d, cmI, arI, envOf, putN, ↓reduceIte, Nat.reduceLT, Nat.reduceSub, Nat.reduceAdd, Int.reduceAdd, Int.reduceEq, Int.reduceLT, Int.reduceLE, arr_pos, arr_neg, ]
 refine mc.lp_for (List Int) (fun k o => [⟨I, (k : Int)⟩, ⟨L V3, s.1⟩, ⟨L TR, s.2⟩, ⟨L T4, r.1⟩, ⟨L I, r.2.1⟩, ⟨L (L T4), r.2.2⟩, ⟨L I, r.2.1⟩, ⟨L I, o⟩]) (fun k o => o = upTo (fun x => dB ((x : Int) ∈ usL r.1 s.1.length ∨ ∃ m, m < r.2.2.length ∧ (x : Int) ∈ usL (r.2.2.getD m []) s.1.length)) k) s.1.length 0 [] _ rfl (Nat.zero_le _) rfl ?_ ?_
 ·rintro x o hx rfl
  have h6 := @upTo_len (fun x => dB ((x : Int) ∈ usL r.1 s.1.length ∨ ∃ m, m < r.2.2.length ∧ (x : Int) ∈ usL (r.2.2.getD m []) s.1.length)) x
  obtain ⟨U, hU⟩ : ∃ U, upTo (fun x => dB ((x : Int) ∈ usL r.1 s.1.length ∨ ∃ m, m < r.2.2.length ∧ (x : Int) ∈ usL (r.2.2.getD m []) s.1.length)) x = U := ⟨_, rfl⟩
  have h7 := @usL_len r.1 s.1.length
  rw [hU] at h6 ⊢
  simp (contextual := true) (maxSteps := 1000000) (disch := omega) only [↓Sd, ↓So, ↓Sk, ↓den, ↓denA, Sa, Sb, Sc, Se, O1.d, O2.d, O3.d, cmI, arI, envOf, putN, ↓reduceIte, Nat.reduceLT, Nat.reduceSub, Nat.reduceAdd, Int.reduceAdd, Int.reduceEq, Int.reduceLT, Int.reduceLE, arr_pos, arr_neg, ↓wpJoin, C_spec_UsedBy r.1 s.1.length hru.1 h3, C_spec_l2Has (usL r.1 s.1.length) x (by omega)]
  refine mc.lp_for Bool (fun m b => [⟨I, (x : Int)⟩, ⟨B, b⟩, ⟨I, (m : Int)⟩, ⟨L V3, s.1⟩, ⟨L TR, s.2⟩, ⟨L T4, r.1⟩, ⟨L I, r.2.1⟩, ⟨L (L T4), r.2.2⟩, ⟨L I, r.2.1⟩, ⟨L I, U⟩]) (fun m b => b = dB ((x : Int) ∈ usL r.1 s.1.length ∨ ∃ a, a < m ∧ (x : Int) ∈ usL (r.2.2.getD a []) s.1.length)) r.2.2.length 0 _ _ rfl (Nat.zero_le _) (dB_congr ⟨.inl, fun h => h.elim id fun ⟨a, h, _⟩ => absurd h (Nat.not_lt_zero _)⟩) ?_ ?_
  ·rintro m b hm rfl
   have h9 := @usL_len (r.2.2.getD m []) s.1.length
   have hfm : Few (r.2.2.getD m []) := hru.2.2.2 _ (getD_mem hm)
   simp (contextual := true) (maxSteps := 1000000) (disch := omega) only [↓Sd, ↓So, ↓Sk, ↓den, ↓denA, Sa, Sb, Sc, Se, O1.d, O2.d, O3.d, cmI, arI, envOf, putN, ↓reduceIte, Nat.reduceLT, Nat.reduceSub, Nat.reduceAdd, Int.reduceAdd, Int.reduceEq, Int.reduceLT, Int.reduceLE, arr_pos, arr_neg, ↓wpJoin, C_spec_UsedBy (r.2.2.getD m []) s.1.length hfm (h4 m hm), C_spec_l2Has (usL (r.2.2.getD m []) s.1.length) x (by omega)]
   refine ⟨fun g => ?_, fun g => dB_congr ⟨fun g2 => .inr ⟨m, by omega, g2⟩, fun g2 => ?_⟩⟩
   ·rw [dB_t]
    rcases dB_iff.1 g with g1 | ⟨a, g1, g2⟩
    ·exact .inl g1
    ·exact .inr ⟨a, by omega, g2⟩
   ·rcases g2 with g1 | ⟨a, g1, g2⟩
    ·exact absurd (dB_t (.inl g1)) g
    ·by_cases e : a = m
     ·rw [← e]; exact g2
     ·exact absurd (dB_t (.inr ⟨a, by omega, g2⟩)) g
  ·rintro b rfl
   rw [← hU]
   have hUl : (upTo (fun x => dB ((x : Int) ∈ usL r.1 s.1.length ∨ ∃ m, m < r.2.2.length ∧ (x : Int) ∈ usL (r.2.2.getD m []) s.1.length)) x).length ≤ x := upTo_len
   obtain ⟨P, hP⟩ : ∃ P : Nat → Bool, P = fun x : Nat => dB ((x : Int) ∈ usL r.1 s.1.length ∨ ∃ m, m < r.2.2.length ∧ (x : Int) ∈ usL (r.2.2.getD m []) s.1.length) := ⟨_, rfl⟩
   have hPx : dB ((x : Int) ∈ usL r.1 s.1.length ∨ ∃ m, m < r.2.2.length ∧ (x : Int) ∈ usL (r.2.2.getD m []) s.1.length) = P x := by rw [hP]
   rw [hPx]
   rw [← hP] at hUl ⊢
   simp (contextual := true) (maxSteps := 1000000) (disch := omega) only [↓Sd, ↓So, ↓Sk, ↓den, ↓denA, Sa, Sb, Sc, Se, O1.d, O2.d, O3.d, cmI, arI, envOf, putN, ↓reduceIte, Nat.reduceLT, Nat.reduceSub, Nat.reduceAdd, Int.reduceAdd, Int.reduceEq, Int.reduceLT, Int.reduceLE, arr_pos, arr_neg, ]
   exact ⟨fun g => (upTo_s (p := P) g).symm, fun g => (upTo_n (p := P) g).symm⟩
 ·rintro o rfl
  simp (contextual := true) (maxSteps := 1000000) (disch := omega) only [↓Sd, ↓So, ↓Sk, ↓den, ↓denA, Sa, Sb, Sc, Se, O1.d, O2.d, O3.d, cmI, arI, envOf, putN, ↓reduceIte, Nat.reduceLT, Nat.reduceSub, Nat.reduceAdd, Int.reduceAdd, Int.reduceEq, Int.reduceLT, Int.reduceLE, arr_pos, arr_neg, ]
  rfl
theorem C_spec_l26Apart (s : Sy) (i j : Nat) (hs : FewSy s) (h : valid s) (hi : i < s.2.length) (hj : j < s.2.length) (Q : List AV → Prop) : mc.C f_spec_l26Apart [⟨L V3, s.1⟩, ⟨L TR, s.2⟩, ⟨I, (i : Int)⟩, ⟨I, (j : Int)⟩] Q = Q [⟨B, dB (Apr s i j)⟩] := by
 refine Mc.Ends.c (mc.ends F_spec_l26Apart ?_)
 obtain ⟨a1, a2, -, -⟩ := rl_terms h hi
 obtain ⟨b1, b2, -, -⟩ := rl_terms h hj
 have h5 := h.1
 have c1 : (tcS s.1.length (rl s i)).length ≤ s.1.length := upTo_len
 have c2 : (tcS s.1.length (rl s j)).length ≤ s.1.length := upTo_len
 have m1 : Mt2 (rl s i).2.1 (tcS s.1.length (rl s j)) ↔ Mt2 (rl s i).2.1 (tcL s.1.length (rl s j)) := Mt2.congr fun x => tcS_mem
 have m2 : Mt2 (rl s j).2.1 (tcS s.1.length (rl s i)) ↔ Mt2 (rl s j).2.1 (tcL s.1.length (rl s i)) := Mt2.congr fun x => tcS_mem
 generalize hK : dB (Apr s i j) = K
 simp (contextual := true) (maxSteps := 1000000) (disch := omega) only [↓Sd, ↓So, ↓Sk, ↓den, ↓denA, Sa, Sb, Sc, Se, O1.d, O2.d, O3.d, cmI, arI, envOf, putN, ↓reduceIte, Nat.reduceLT, Nat.reduceSub, Nat.reduceAdd, Int.reduceAdd, Int.reduceEq, Int.reduceLT, Int.reduceLE, arr_pos, arr_neg, tr_spec_l26Apart, C_spec_TouchedBy s i hs h hi, C_spec_TouchedBy s j hs h hj, C_spec_l26Meet (rl s i).2.1 (rl s j).2.1 (by omega) (by omega), C_spec_l26Meet (rl s i).2.1 (tcS s.1.length (rl s j)) (by omega) (by omega), C_spec_l26Meet (rl s j).2.1 (tcS s.1.length (rl s i)) (by omega) (by omega)]
 refine ⟨fun g1 => ⟨fun g2 => ?_, fun g2 => ?_⟩, fun g1 => ?_⟩
 ·have n1 : ¬ Mt2 (rl s i).2.1 (rl s j).2.1 := fun g => by
   have g' : ∃ x, x ∈ (rl s i).2.1 ∧ x ∈ (rl s j).2.1 := g
   rw [dB_t g'] at g1; cases g1
  have n2 : ¬ Mt2 (rl s i).2.1 (tcL s.1.length (rl s j)) := fun g => by
   have g' : ∃ x, x ∈ (rl s i).2.1 ∧ x ∈ tcS s.1.length (rl s j) := m1.2 g
   rw [dB_t g'] at g2; cases g2
  by_cases e : Mt2 (rl s j).2.1 (tcL s.1.length (rl s i))
  ·rw [← hK, dB_f (fun g : Apr s i j => g.2.2 e), dB_t (show ∃ x, x ∈ (rl s j).2.1 ∧ x ∈ tcS s.1.length (rl s i) from m2.2 e)]; rfl
  ·rw [← hK, dB_t (show Apr s i j from ⟨n1, n2, e⟩), dB_f (show ¬ ∃ x, x ∈ (rl s j).2.1 ∧ x ∈ tcS s.1.length (rl s i) from fun g => e (m2.1 g))]; rfl
 ·rw [← hK, dB_f fun g => g2 (dB_f fun g' => g.2.1 (m1.1 g'))]
 ·rw [← hK, dB_f fun g => g1 (dB_f g.1)]
theorem C_spec_l26Wakers (s : Sy) (i : Nat) (hs : FewSy s) (h : valid s) (hi : i < s.2.length) (Q : List AV → Prop) : mc.C f_spec_l26Wakers [⟨L V3, s.1⟩, ⟨L TR, s.2⟩, ⟨I, (i : Int)⟩] Q = Q [⟨L I, wkL s i⟩] := by
 refine Mc.Ends.c (mc.ends F_spec_l26Wakers ?_)
 have h5 := h.1
 have h8 := h.2.1
 have c1 : (tcS s.1.length (rl s i)).length ≤ s.1.length := upTo_len
 simp (contextual := true) (maxSteps := 1000000) (disch := omega) only [↓Sd, ↓So, ↓Sk, ↓den, ↓denA, Sa, Sb, Sc, Se, O1.d, O2.d, O3.d, cmI, arI, envOf, putN, ↓reduceIte, Nat.reduceLT, Nat.reduceSub, Nat.reduceAdd, Int.reduceAdd, Int.reduceEq, Int.reduceLT, Int.reduceLE, arr_pos, arr_neg, tr_spec_l26Wakers, C_spec_TouchedBy s i hs h hi]
 refine mc.lp_for (List Int) (fun k o => [⟨I, (i : Int)⟩, ⟨I, (k : Int)⟩, ⟨L V3, s.1⟩, ⟨L TR, s.2⟩, ⟨L I, tcS s.1.length (rl s i)⟩, ⟨L I, o⟩]) (fun k o => o = upTo (wkB s i) k) s.2.length 0 [] _ rfl (Nat.zero_le _) rfl ?_ ?_
 ·rintro k o hk rfl
  obtain ⟨b1, b2, -, -⟩ := rl_terms h hk
  have ek : s.2.getD k ([], [], []) = rl s k := rfl
  have hul := @upTo_len (wkB s i) k
  have m1 : Mt2 (rl s k).2.1 (tcS s.1.length (rl s i)) ↔ Mt2 (rl s k).2.1 (tcL s.1.length (rl s i)) := Mt2.congr fun x => tcS_mem
  simp (contextual := true) (maxSteps := 1000000) (disch := omega) only [↓Sd, ↓So, ↓Sk, ↓den, ↓denA, Sa, Sb, Sc, Se, O1.d, O2.d, O3.d, cmI, arI, envOf, putN, ↓reduceIte, Nat.reduceLT, Nat.reduceSub, Nat.reduceAdd, Int.reduceAdd, Int.reduceEq, Int.reduceLT, Int.reduceLE, arr_pos, arr_neg, ↓wpJoin, ek, C_spec_l26Meet (rl s k).2.1 (tcS s.1.length (rl s i)) (by omega) (by omega)]
  refine ⟨fun g1 => ⟨fun g2 => (upTo_s (p := wkB s i) (dB_t ⟨by omega, m1.1 (dB_iff.1 g2)⟩)).symm, fun g2 => (upTo_n (p := wkB s i) fun g => g2 (dB_t (m1.2 (dB_iff.1 g).2))).symm⟩, fun g1 => (upTo_n (p := wkB s i) fun g => (dB_iff.1 g).1 (by omega)).symm⟩
 ·rintro o rfl
  simp (contextual := true) (maxSteps := 1000000) (disch := omega) only [↓Sd, ↓So, ↓Sk, ↓den, ↓denA, Sa, Sb, Sc, Se, O1.d, O2.d, O3.d, cmI, arI, envOf, putN, ↓reduceIte, Nat.reduceLT, Nat.reduceSub, Nat.reduceAdd, Int.reduceAdd, Int.reduceEq, Int.reduceLT, Int.reduceLE, arr_pos, arr_neg, ]
  rfl
inductive Rc (E : Nat → Nat → Bool) (n r : Nat) : Nat → Prop
 | base : Rc E n r r
 | step {a m : Nat} : Rc E n r a → m < n → E a m = true → Rc E n r m
theorem Rc.to {E E' : Nat → Nat → Bool} {n r : Nat} (h : ∀ a m, m ≠ a → E a m = E' a m) {k : Nat} (hk : Rc E n r k) : Rc E' n r k := by
 induction hk with
 | base => exact .base
 | @step a m _ h1 h2 ih =>
  by_cases e : m = a
  ·rw [e]; exact ih
  ·exact .step ih h1 (by rw [← h a m e]; exact h2)
theorem Rc.lt {E : Nat → Nat → Bool} {n r : Nat} (hr : r < n) {k : Nat} (hk : Rc E n r k) : k < n := by
 cases hk with
 | base => exact hr
 | step _ h _ => exact h
theorem rc_of_closed {E : Nat → Nat → Bool} {n r : Nat} {p : Nat → Bool} (hr : r < n) (h1 : p r = true) (h3 : ∀ k, k < n → p k = true → Rc E n r k) (h4 : ∀ a, a < n → p a = true → ∀ m, m < n → E a m = true → p m = true) : ∀ k, k < n → p k = dB (Rc E n r k) := by
 intro k hk
 have key : ∀ k, Rc E n r k → p k = true := by
  intro k h
  induction h with
  | base => exact h1
  | @step a m ha hm he ih => exact h4 a (ha.lt hr) ih m hm he
 cases hp : p k with
 | false =>
  rw [dB_f]
  intro h
  rw [key k h] at hp; cases hp
 | true => rw [dB_t (h3 k hk hp)]
noncomputable def eI' (ab : Nat → Bool) (A : Nat → Nat → Bool) (W : Nat → List Int) (k m : Nat) : Bool := bif ab k then !A k m else dB ((m : Int) ∈ W k)
structure SI (E : Nat → Nat → Bool) (n r y : Nat) (p : Nat → Bool) (q : List Int) (j : Nat) (s : (Nat → Bool) × List Int) : Prop where
 a1 : ∀ x ∈ s.2, (0 ≤ x ∧ x < n) ∧ s.1 x.toNat = true
 a2 : ∀ k, k < n → p k = true → s.1 k = true
 a3 : ∀ k, k < n → s.1 k = true → Rc E n r k
 a4 : ∀ m, m < j → m < n → E y m = true → s.1 m = true
 a5 : ∀ a : Nat, a < n → s.1 a = true → (a : Int) ∉ s.2 → a ≠ y → ∀ m, m < n → E a m = true → s.1 m = true
 a6 : s.2.length + cntF s.1 n ≤ q.length + cntF p n
 a7 : 2 * cntF s.1 n + s.2.length ≤ 2 * cntF p n + q.length
theorem SI.skip {E : Nat → Nat → Bool} {n r y : Nat} {p : Nat → Bool} {q : List Int} {j : Nat} {s : (Nat → Bool) × List Int} (h : SI E n r y p q j s) (g : E y j = true → s.1 j = true) : SI E n r y p q (j + 1) s :=
 ⟨h.a1, h.a2, h.a3, fun m hm hmn he => by
  by_cases e : m = j
  ·rw [e] at he ⊢; exact g he
  ·exact h.a4 m (by omega) hmn he, h.a5, h.a6, h.a7⟩
theorem SI.put {E : Nat → Nat → Bool} {n r y : Nat} {p : Nat → Bool} {q : List Int} {j : Nat} {p' : Nat → Bool} {q' : List Int} (h : SI E n r y p q j (p', q')) (hj : j < n) (hy : y < n) (hxp : p y = true) (g : E y j = true) (g1 : p' j = false) : SI E n r y p q (j + 1) (fun k => if k = j then true else p' k, q' ++ [(j : Int)]) := by
 have hc := cntF_set g1 hj
 obtain ⟨a1, a2, a3, a4, a5, a6, a7⟩ := h
 simp only at a1 a2 a3 a4 a5 a6 a7
 have hyR := a3 y hy (a2 y hy hxp)
 refine ⟨fun z hz => ?_, fun k hk h => mk_or (a2 k hk h), fun k hk h => ?_, fun m hm hmn he => ?_, fun a ha h1 h2 h3 m hm he => ?_, ?_, ?_⟩
 ·rcases List.mem_append.1 hz with h | h
  ·have := a1 z h; exact ⟨this.1, mk_or this.2⟩
  ·simp only [List.mem_singleton] at h; subst h; exact ⟨by omega, by simp⟩
 ·by_cases hky : k = j
  ·rw [hky]; exact .step hyR hj g
  ·exact a3 k hk (by simpa [hky] using h)
 ·simp only
  split
  ·rfl
  ·exact a4 m (by omega) hmn he
 ·simp only [List.mem_append, List.mem_singleton, not_or] at h2
  have hay : ¬ a = j := fun h => h2.2 (by rw [h])
  simp only
  split
  ·rfl
  ·exact a5 a ha (by simpa [hay] using h1) h2.1 h3 m hm he
 ·simp only [List.length_append, List.length_singleton]; omega
 ·simp only [List.length_append, List.length_singleton]; omega
theorem C_impl_stubborn_from (ab : Nat → Bool) (A : Nat → Nat → Bool) (W : Nat → List Int) (n r : Nat) (hn : n ≤ 8) (hr : r < n) (hW : ∀ k, k < n → (W k).length ≤ 8) (Q : List AV → Prop) :
  mc.C f_impl_stubborn_from [⟨P (L (L B)) (L (L I)), (tab (fun k => tab (A k) n) n, tab W n)⟩, ⟨L B, tab ab n⟩, ⟨I, (r : Int)⟩] Q = Q [⟨L B, tab (fun k => dB (Rc (eI' ab A W) n r k)) n⟩, ⟨P (L (L B)) (L (L I)), (tab (fun k => tab (A k) n) n, tab W n)⟩] := by
 refine Mc.Ends.c (mc.ends F_impl_stubborn_from ?_)
 have hr0 : (List.replicate n false).set r true = tab (fun k => if k = r then true else false) n := by rw [rep_tab, tab_set']
 obtain ⟨AA, hAA⟩ : ∃ AA, tab (fun k => tab (A k) n) n = AA := ⟨_, rfl⟩
 obtain ⟨WW, hWW⟩ : ∃ WW, tab W n = WW := ⟨_, rfl⟩
 have hAl : AA.length = n := by rw [← hAA, tab_len]
 have hWl : WW.length = n := by rw [← hWW, tab_len]
 have hAg : ∀ k, k < n → AA.getD k [] = tab (A k) n := fun k hk => by rw [← hAA, tab_get hk]
 have hWg : ∀ k, k < n → WW.getD k [] = W k := fun k hk => by rw [← hWW, tab_get hk]
 obtain ⟨E, hE⟩ : ∃ E, eI' ab A W = E := ⟨_, rfl⟩
 have hEt : ∀ k m, ab k = true → E k m = !A k m := fun k m h => by rw [← hE, eI', h]; rfl
 have hEf : ∀ k m, ab k = false → E k m = dB ((m : Int) ∈ W k) := fun k m h => by rw [← hE, eI', h]; rfl
 rw [hAA, hWW, hE]
 simp (contextual := true) (maxSteps := 1000000) (disch := omega) only [↓Sd, ↓So, ↓Sk, ↓den, ↓denA, Sa, Sb, Sc, Se, O1.d, O2.d, O3.d, cmI, arI, envOf, putN, ↓reduceIte, Nat.reduceLT, Nat.reduceSub, Nat.reduceAdd, Int.reduceAdd, Int.reduceEq, Int.reduceLT, Int.reduceLE, arr_pos, arr_neg, tr_impl_stubborn_from, tab_len, List.length_replicate, hr0]
 refine mc.lp_inv (fun j us => ∃ (p : Nat → Bool) (q : List Int), us = [⟨L B, tab ab n⟩, ⟨L (L B), AA⟩, ⟨L (L I), WW⟩, ⟨L B, tab p n⟩, ⟨L I, q⟩] ∧ (∀ x ∈ q, (0 ≤ x ∧ x < n) ∧ p x.toNat = true) ∧ p r = true ∧ (∀ k, k < n → p k = true → Rc E n r k) ∧
  (∀ a : Nat, a < n → p a = true → (a : Int) ∉ q → ∀ m, m < n → E a m = true → p m = true) ∧ q.length + cntF p n ≤ 100 ∧ j = 2 * cntF p n + q.length) _ _
  ⟨fun k => if k = r then true else false, [(r : Int)], rfl, ?_, by simp, fun k _ h => ?_, fun a _ h1 h2 => ?_, ?_, rfl⟩ ?_
 ·intro x hx
  rw [List.mem_singleton.1 hx]
  simp only [Int.toNat_natCast, if_true, and_true]
  omega
 ·have : k = r := by simpa using h
  rw [this]; exact .base
 ·have : a = r := by simpa using h1
  rw [this] at h2; simp at h2
 ·have := @cntF_le (fun k => if k = r then true else false) n
  simp only [List.length_singleton]; omega
 rintro j us ⟨p, q, rfl, i1, i2, i3, i4, i5, rfl⟩
 cases q with
 | nil =>
  simp (contextual := true) (maxSteps := 1000000) (disch := omega) only [↓Sd, ↓So, ↓Sk, ↓den, ↓denA, Sa, Sb, Sc, Se, O1.d, O2.d, O3.d, cmI, arI, envOf, putN, ↓reduceIte, Nat.reduceLT, Nat.reduceSub, Nat.reduceAdd, Int.reduceAdd, Int.reduceEq, Int.reduceLT, Int.reduceLE, arr_pos, arr_neg, ]
  exact tab_congr (rc_of_closed hr i2 i3 fun a ha hp m hm he => i4 a ha hp (by simp) m hm he)
 | cons x q =>
  obtain ⟨⟨hx0, hx1⟩, hxp⟩ := i1 x (List.mem_cons_self ..)
  obtain ⟨y, rfl⟩ : ∃ y : Nat, x = y := ⟨x.toNat, by omega⟩
  have hy : y < n := by omega
  rw [Int.toNat_natCast] at hxp
  have hWy := hW y hy
  simp only [List.length_cons] at i5
  simp (contextual := true) (maxSteps := 1000000) (disch := omega) only [↓Sd, ↓So, ↓Sk, ↓den, ↓denA, Sa, Sb, Sc, Se, O1.d, O2.d, O3.d, cmI, arI, envOf, putN, ↓reduceIte, Nat.reduceLT, Nat.reduceSub, Nat.reduceAdd, Int.reduceAdd, Int.reduceEq, Int.reduceLT, Int.reduceLE, arr_pos, arr_neg, tab_len, List.drop_succ_cons, List.drop_zero]
  refine mc.lp_for ((Nat → Bool) × List Int) (fun j s => [⟨L B, tab ab n⟩, ⟨I, (y : Int)⟩, ⟨I, (n : Int)⟩, ⟨I, (j : Int)⟩, ⟨L (L B), AA⟩, ⟨L (L I), WW⟩, ⟨L B, tab s.1 n⟩, ⟨L I, s.2⟩]) (fun j s => SI E n r y p q j s) n 0 (p, q) _ rfl (Nat.zero_le _)
   ⟨fun z hz => i1 z (List.mem_cons_of_mem _ hz), fun _ _ h => h, i3, fun m hm => absurd hm (Nat.not_lt_zero _), fun a h1 h2 h3 h4 => i4 a h1 h2 (by simp only [List.mem_cons, not_or]; exact ⟨by omega, h3⟩), Nat.le_refl _, Nat.le_refl _⟩ ?_ ?_
  ·rintro j ⟨p', q'⟩ hj h
   have hqf : q'.length ≤ 1000 := by have := h.a6; simp only at this; omega
   cases hab : ab y with
   | true =>
    have he := hEt y j hab
    simp (contextual := true) (maxSteps := 1000000) (disch := omega) only [↓Sd, ↓So, ↓Sk, ↓den, ↓denA, Sa, Sb, Sc, Se, O1.d, O2.d, O3.d, cmI, arI, envOf, putN, ↓reduceIte, Nat.reduceLT, Nat.reduceSub, Nat.reduceAdd, Int.reduceAdd, Int.reduceEq, Int.reduceLT, Int.reduceLE, arr_pos, arr_neg, ↓wpJoin, tab_len, tab_get hy, hab, hAl, hAg y hy, tab_get hj, hWl, tab_set']
    refine ⟨fun g => ⟨fun g1 => ⟨_, ⟨rfl, rfl⟩, h.put hj hy hxp (by rw [he, g]; rfl) g1⟩, fun g1 => ⟨_, ⟨rfl, rfl⟩, h.skip fun _ => by simpa using g1⟩⟩, fun g => ⟨_, ⟨rfl, rfl⟩, h.skip fun g1 => ?_⟩⟩
    rw [he] at g1
    exact absurd (by simpa using g1) g
   | false =>
    have he := hEf y j hab
    simp (contextual := true) (maxSteps := 1000000) (disch := omega) only [↓Sd, ↓So, ↓Sk, ↓den, ↓denA, Sa, Sb, Sc, Se, O1.d, O2.d, O3.d, cmI, arI, envOf, putN, ↓reduceIte, Nat.reduceLT, Nat.reduceSub, Nat.reduceAdd, Int.reduceAdd, Int.reduceEq, Int.reduceLT, Int.reduceLE, arr_pos, arr_neg, ↓wpJoin, tab_len, tab_get hy, hab, hWl, hWg y hy, C_slices_Contains_int (W y) j (by omega), tab_get hj, tab_set']
    exact ⟨fun g => ⟨fun g1 => ⟨_, ⟨rfl, rfl⟩, h.put hj hy hxp (by rw [he]; exact g) g1⟩, fun g1 => ⟨_, ⟨rfl, rfl⟩, h.skip fun _ => by simpa using g1⟩⟩, fun g => ⟨_, ⟨rfl, rfl⟩, h.skip fun g1 => absurd (he.symm.trans g1) g⟩⟩
  ·rintro ⟨p', q'⟩ ⟨a1, a2, a3, a4, a5, a6, a7⟩
   have a6' : q'.length + cntF p' n ≤ q.length + cntF p n := a6
   have a7' : 2 * cntF p' n + q'.length ≤ 2 * cntF p n + q.length := a7
   clear a6 a7
   simp (contextual := true) (maxSteps := 1000000) (disch := omega) only [↓Sd, ↓So, ↓Sk, ↓den, ↓denA, Sa, Sb, Sc, Se, O1.d, O2.d, O3.d, cmI, arI, envOf, putN, ↓reduceIte, Nat.reduceLT, Nat.reduceSub, Nat.reduceAdd, Int.reduceAdd, Int.reduceEq, Int.reduceLT, Int.reduceLE, arr_pos, arr_neg, ]
   refine ⟨_, ?_, p', q', ⟨rfl, rfl⟩, a1, a2 r hr i2, a3, fun a ha h1 h2 m hm he => ?_, by omega, rfl⟩
   ·first | omega | (simp only [List.length_cons]; omega)
   ·by_cases hax : a = y
    ·rw [hax] at he; exact a4 m hm hm he
    ·exact a5 a ha h1 h2 hax m hm he
noncomputable def abS (s : Sy) (st : List Int) (k : Nat) : Bool := decide (¬ useM s.1 (rl s k) st = [])
noncomputable def eS (s : Sy) (st : List Int) : Nat → Nat → Bool := eI' (abS s st) (fun k m => dB (Apr s k m)) (wkL s)
noncomputable def frS (s : Sy) (st : List Int) (r k : Nat) : Bool := dB (Rc (eS s st) s.2.length r k)
noncomputable def eT (s : Sy) (st : List Int) (k m : Nat) : Bool := bif abS s st k then (decide (m ≠ k) && !dB (Apr s k m)) else dB ((m : Int) ∈ wkL s k)
theorem eST {s : Sy} {st : List Int} (a m : Nat) (h : m ≠ a) : eS s st a m = eT s st a m := by
 unfold eS eI' eT
 cases abS s st a
 ·rfl
 ·simp [h]
theorem rcST {s : Sy} {st : List Int} {n r k : Nat} : Rc (eS s st) n r k ↔ Rc (eT s st) n r k := ⟨fun h => h.to eST, fun h => h.to fun a m h => (eST a m h).symm⟩
theorem C_impl_stubbornOf (s : Sy) (h : valid s) (Q : List AV → Prop) : mc.C f_impl_stubbornOf [⟨L V3, s.1⟩, ⟨L TR, s.2⟩] Q = Q [⟨P (L (L B)) (L (L I)), (tab (fun k => tab (fun m => dB (Apr s k m)) s.2.length) s.2.length, tab (wkL s) s.2.length)⟩] := by
 refine Mc.Ends.c (mc.ends F_impl_stubbornOf ?_)
 have h8 := h.2.1
 simp (contextual := true) (maxSteps := 1000000) (disch := omega) only [↓Sd, ↓So, ↓Sk, ↓den, ↓denA, Sa, Sb, Sc, Se, O1.d, O2.d, O3.d, cmI, arI, envOf, putN, ↓reduceIte, Nat.reduceLT, Nat.reduceSub, Nat.reduceAdd, Int.reduceAdd, Int.reduceEq, Int.reduceLT, Int.reduceLE, arr_pos, arr_neg, tr_impl_stubbornOf]
 refine mc.lp_for (List (List Bool) × List (List Int)) (fun i o => [⟨I, (s.2.length : Int)⟩, ⟨I, (i : Int)⟩, ⟨L V3, s.1⟩, ⟨L TR, s.2⟩, ⟨L (L B), o.1⟩, ⟨L (L I), o.2⟩]) (fun i o => o.1 = tab (fun k => tab (fun m => dB (Apr s k m)) s.2.length) i ∧ o.2 = tab (wkL s) i) s.2.length 0 ([], []) _ rfl (Nat.zero_le _) ⟨rfl, rfl⟩ ?_ ?_
 ·rintro i ⟨o1, o2⟩ hi ⟨rfl, rfl⟩
  simp (contextual := true) (maxSteps := 1000000) (disch := omega) only [↓Sd, ↓So, ↓Sk, ↓den, ↓denA, Sa, Sb, Sc, Se, O1.d, O2.d, O3.d, cmI, arI, envOf, putN, ↓reduceIte, Nat.reduceLT, Nat.reduceSub, Nat.reduceAdd, Int.reduceAdd, Int.reduceEq, Int.reduceLT, Int.reduceLE, arr_pos, arr_neg, ]
  refine mc.lp_for (List Bool) (fun j o => [⟨I, (i : Int)⟩, ⟨I, (s.2.length : Int)⟩, ⟨I, (i : Int)⟩, ⟨I, (s.2.length : Int)⟩, ⟨I, (j : Int)⟩, ⟨L V3, s.1⟩, ⟨L TR, s.2⟩, ⟨L (L B), tab (fun k => tab (fun m => dB (Apr s k m)) s.2.length) i⟩, ⟨L (L I), tab (wkL s) i⟩, ⟨L B, o⟩]) (fun j o => o = tab (fun m => dB (Apr s i m)) j) s.2.length 0 [] _ rfl (Nat.zero_le _) rfl ?_ ?_
  ·rintro j o hj rfl
   simp (contextual := true) (maxSteps := 1000000) (disch := omega) only [↓Sd, ↓So, ↓Sk, ↓den, ↓denA, Sa, Sb, Sc, Se, O1.d, O2.d, O3.d, cmI, arI, envOf, putN, ↓reduceIte, Nat.reduceLT, Nat.reduceSub, Nat.reduceAdd, Int.reduceAdd, Int.reduceEq, Int.reduceLT, Int.reduceLE, arr_pos, arr_neg, C_impl_rulesApart s i j h hi hj, tab_len]
   exact tab_next (f := fun m => dB (Apr s i m))
  ·rintro o rfl
   simp (contextual := true) (maxSteps := 1000000) (disch := omega) only [↓Sd, ↓So, ↓Sk, ↓den, ↓denA, Sa, Sb, Sc, Se, O1.d, O2.d, O3.d, cmI, arI, envOf, putN, ↓reduceIte, Nat.reduceLT, Nat.reduceSub, Nat.reduceAdd, Int.reduceAdd, Int.reduceEq, Int.reduceLT, Int.reduceLE, arr_pos, arr_neg, C_impl_wakersOf s i h hi, tab_len]
   exact ⟨(_, _), ⟨rfl, rfl⟩, tab_next (f := fun k => tab (fun m => dB (Apr s k m)) s.2.length), tab_next (f := wkL s)⟩
 ·rintro ⟨o1, o2⟩ ⟨rfl, rfl⟩
  simp (contextual := true) (maxSteps := 1000000) (disch := omega) only [↓Sd, ↓So, ↓Sk, ↓den, ↓denA, Sa, Sb, Sc, Se, O1.d, O2.d, O3.d, cmI, arI, envOf, putN, ↓reduceIte, Nat.reduceLT, Nat.reduceSub, Nat.reduceAdd, Int.reduceAdd, Int.reduceEq, Int.reduceLT, Int.reduceLE, arr_pos, arr_neg, ]
structure TI (E : Nat → Nat → Bool) (n r : Nat) (p : Nat → Bool) (i : Nat) (ag : Bool) (q : Nat → Bool) : Prop where
 b0 : q r = true
 b1 : ∀ k, k < n → p k = true → q k = true
 b2 : ∀ k, k < n → q k = true → Rc E n r k
 b3 : ag = false → ∀ k, k < n → q k = p k
 b4 : ag = false → ∀ a, a < i → a < n → p a = true → ∀ m, m < n → E a m = true → p m = true
 b5 : ag = true → cntF q n < cntF p n
structure TJ (E : Nat → Nat → Bool) (n r : Nat) (p : Nat → Bool) (i j : Nat) (ag : Bool) (q : Nat → Bool) : Prop extends TI E n r p i ag q where
 c4 : ag = false → p i = true → ∀ m, m < j → m < n → E i m = true → p m = true
theorem TJ.skip {E : Nat → Nat → Bool} {n r : Nat} {p : Nat → Bool} {i j : Nat} {ag : Bool} {q : Nat → Bool} (h : TJ E n r p i j ag q) (g : E i j = true → q j = true) : TJ E n r p i (j + 1) ag q := by
 refine ⟨h.toTI, fun ha hp m hm hmn he => ?_⟩
 by_cases e : m = j
 ·rw [← h.b3 ha m hmn, e]; exact g (by rw [← e]; exact he)
 ·exact h.c4 ha hp m (by omega) hmn he
theorem TJ.put {E : Nat → Nat → Bool} {n r : Nat} {p : Nat → Bool} {i j : Nat} {ag : Bool} {q : Nat → Bool} (h : TJ E n r p i j ag q) (hi : i < n) (hj : j < n) (hqi : q i = true) (g : E i j = true) (g1 : q j = false) : TJ E n r p i (j + 1) true (fun k => if k = j then true else q k) := by
 have hc := cntF_set g1 hj
 refine { b0 := mk_or h.b0, b1 := fun k hk hp => mk_or (h.b1 k hk hp), b2 := fun k hk hp => ?_, b3 := (fun h => by cases h), b4 := (fun h => by cases h), b5 := fun _ => ?_, c4 := (fun h => by cases h) }
 ·by_cases e : k = j
  ·rw [e]; exact .step (h.b2 i hi hqi) hj g
  ·exact h.b2 k hk (by simpa [e] using hp)
 ·cases ag with
  | true => have := h.b5 rfl; omega
  | false => have := cntF_congr (h.b3 rfl); omega
theorem TJ.next {E : Nat → Nat → Bool} {n r : Nat} {p : Nat → Bool} {i j : Nat} {ag : Bool} {q : Nat → Bool} (h : TJ E n r p i j ag q) (hi : i < n) (hj : q i = false ∨ n ≤ j) : TI E n r p (i + 1) ag q := by
 refine ⟨h.b0, h.b1, h.b2, h.b3, fun ha a h1 h2 hp m hm he => ?_, h.b5⟩
 by_cases e : a = i
 ·rw [e] at hp he
  rcases hj with g | g
  ·have := h.b1 i hi hp
   rw [this] at g; cases g
  ·exact h.c4 ha hp m (by omega) hm he
 ·exact h.b4 ha a (by omega) h2 hp m hm he
theorem C_spec_l26From (s : Sy) (st : List Int) (r : Nat) (hs : FewSy s) (h : valid s) (hst : inR s.1 st) (hr : r < s.2.length) (Q : List AV → Prop) : mc.C f_spec_l26From [⟨L V3, s.1⟩, ⟨L TR, s.2⟩, ⟨L I, st⟩, ⟨I, (r : Int)⟩] Q = Q [⟨L I, upTo (frS s st r) s.2.length⟩] := by
 refine Mc.Ends.c (mc.ends F_spec_l26From ?_)
 have h8 := h.2.1
 obtain ⟨n, hn⟩ : ∃ n, s.2.length = n := ⟨_, rfl⟩
 have hr0 : (List.replicate s.2.length false).set r true = tab (fun k => if k = r then true else false) s.2.length := by rw [rep_tab, tab_set']
 obtain ⟨E, hE⟩ : ∃ E, eT s st = E := ⟨_, rfl⟩
 have hres : ∀ k, frS s st r k = dB (Rc E n r k) := fun k => by rw [frS, hn, ← hE]; exact dB_congr rcST
 simp (contextual := true) (maxSteps := 1000000) (disch := omega) only [↓Sd, ↓So, ↓Sk, ↓den, ↓denA, Sa, Sb, Sc, Se, O1.d, O2.d, O3.d, cmI, arI, envOf, putN, ↓reduceIte, Nat.reduceLT, Nat.reduceSub, Nat.reduceAdd, Int.reduceAdd, Int.reduceEq, Int.reduceLT, Int.reduceLE, arr_pos, arr_neg, tr_spec_l26From, List.length_replicate, hr0]
 refine mc.lp_inv (fun j us => ∃ (ag : Bool) (p : Nat → Bool), us = [⟨L I, st⟩, ⟨B, ag⟩, ⟨L V3, s.1⟩, ⟨L TR, s.2⟩, ⟨L B, tab p n⟩] ∧ p r = true ∧ (∀ k, k < n → p k = true → Rc E n r k) ∧ (ag = false → ∀ a, a < n → p a = true → ∀ m, m < n → E a m = true → p m = true) ∧ j = 2 * cntF p n + (if ag = true then 1 else 0)) _ _
  ⟨true, fun k => if k = r then true else false, by rw [hn], by simp, fun k _ h => ?_, (fun h => by cases h), rfl⟩ ?_
 ·have : k = r := by simpa using h
  rw [this]; exact .base
 rintro j us ⟨ag, p, rfl, i1, i2, i3, rfl⟩
 cases ag with
 | false =>
  have hp := rc_of_closed (by omega) i1 i2 (i3 rfl)
  simp (contextual := true) (maxSteps := 1000000) (disch := omega) only [↓Sd, ↓So, ↓Sk, ↓den, ↓denA, Sa, Sb, Sc, Se, O1.d, O2.d, O3.d, cmI, arI, envOf, putN, ↓reduceIte, Nat.reduceLT, Nat.reduceSub, Nat.reduceAdd, Int.reduceAdd, Int.reduceEq, Int.reduceLT, Int.reduceLE, arr_pos, arr_neg, C_spec_l4List_tab p n (by omega)]
  rw [hn]
  exact upTo_congr fun k hk => by rw [hp k hk, hres]
 | true =>
  simp (contextual := true) (maxSteps := 1000000) (disch := omega) only [↓Sd, ↓So, ↓Sk, ↓den, ↓denA, Sa, Sb, Sc, Se, O1.d, O2.d, O3.d, cmI, arI, envOf, putN, ↓reduceIte, Nat.reduceLT, Nat.reduceSub, Nat.reduceAdd, Int.reduceAdd, Int.reduceEq, Int.reduceLT, Int.reduceLE, arr_pos, arr_neg, ]
  refine mc.lp_for (Bool × (Nat → Bool)) (fun i q => [⟨L I, st⟩, ⟨B, q.1⟩, ⟨I, (i : Int)⟩, ⟨L V3, s.1⟩, ⟨L TR, s.2⟩, ⟨L B, tab q.2 n⟩]) (fun i q => TI E n r p i q.1 q.2) n 0 (false, p) _ rfl (Nat.zero_le _) ⟨i1, fun _ _ h => h, i2, fun _ _ _ => rfl, fun _ a ha => absurd ha (Nat.not_lt_zero _), (fun h => by cases h)⟩ ?_ ?_
  ·rintro i ⟨ag, q⟩ hi hq
   have hi' : i < s.2.length := by omega
   have hwl := @wkL_len s i h
   have hab : decide (((useM s.1 (rl s i) st).length : Int) > 0) = abS s st i := by
    unfold abS
    refine decide_eq_decide.2 ?_
    rw [← List.length_eq_zero_iff]; omega
   have erl : s.2.getD i ([], [], []) = rl s i := rfl
   have hEi : ∀ m, E i m = bif abS s st i then (decide (m ≠ i) && !dB (Apr s i m)) else dB ((m : Int) ∈ wkL s i) := fun m => by rw [← hE]; rfl
   simp (contextual := true) (maxSteps := 1000000) (disch := omega) only [↓Sd, ↓So, ↓Sk, ↓den, ↓denA, Sa, Sb, Sc, Se, O1.d, O2.d, O3.d, cmI, arI, envOf, putN, ↓reduceIte, Nat.reduceLT, Nat.reduceSub, Nat.reduceAdd, Int.reduceAdd, Int.reduceEq, Int.reduceLT, Int.reduceLE, arr_pos, arr_neg, ↓wpJoin, C_spec_l2Use s st i h hst hi', erl, hab]
   refine mc.lp_for (Bool × (Nat → Bool)) (fun j q => [⟨L I, st⟩, ⟨B, q.1⟩, ⟨I, (i : Int)⟩, ⟨B, abS s st i⟩, ⟨I, (j : Int)⟩, ⟨L V3, s.1⟩, ⟨L TR, s.2⟩, ⟨L B, tab q.2 n⟩]) (fun j q => TJ E n r p i j q.1 q.2) n 0 (ag, q) _ rfl (Nat.zero_le _) { hq with c4 := fun _ _ m hm => absurd hm (Nat.not_lt_zero _) } ?_ ?_
   ·rintro j ⟨ag, q⟩ hj hq
    have hj' : j < s.2.length := by omega
    have hEj := hEi j
    cases hab : abS s st i with
    | true =>
     rw [hab] at hEj
     simp (contextual := true) (maxSteps := 1000000) (disch := omega) only [↓Sd, ↓So, ↓Sk, ↓den, ↓denA, Sa, Sb, Sc, Se, O1.d, O2.d, O3.d, cmI, arI, envOf, putN, ↓reduceIte, Nat.reduceLT, Nat.reduceSub, Nat.reduceAdd, Int.reduceAdd, Int.reduceEq, Int.reduceLT, Int.reduceLE, arr_pos, arr_neg, ↓wpJoin, tab_len, tab_get hi, tab_get hj, tab_set', C_spec_l26Apart s i j hs h hi' hj']
     refine ⟨fun gi => ⟨fun gj => ⟨fun ga => ⟨fun gq => ⟨(_, _), ⟨rfl, rfl⟩, hq.put hi hj gi ?_ gq⟩, fun gq => ⟨(_, _), ⟨rfl, rfl⟩, hq.skip fun _ => by simpa using gq⟩⟩, fun ga => ⟨(_, _), ⟨rfl, rfl⟩, hq.skip fun ge => ?_⟩⟩, fun gj => ⟨(_, _), ⟨rfl, rfl⟩, hq.skip fun ge => ?_⟩⟩, fun gi => ⟨(_, _), ⟨rfl, rfl⟩, hq.next hi (.inl (by simpa using gi))⟩⟩
     ·rw [hEj, ga]
      simp only [cond_true, Bool.not_false, Bool.and_true, decide_eq_true_eq]
      omega
     ·rw [hEj] at ge
      simp only [cond_true, Bool.and_eq_true, Bool.not_eq_true'] at ge
      exact absurd ge.2 ga
     ·rw [hEj] at ge
      simp only [cond_true, Bool.and_eq_true, decide_eq_true_eq] at ge
      omega
    | false =>
     rw [hab] at hEj
     simp (contextual := true) (maxSteps := 1000000) (disch := omega) only [↓Sd, ↓So, ↓Sk, ↓den, ↓denA, Sa, Sb, Sc, Se, O1.d, O2.d, O3.d, cmI, arI, envOf, putN, ↓reduceIte, Nat.reduceLT, Nat.reduceSub, Nat.reduceAdd, Int.reduceAdd, Int.reduceEq, Int.reduceLT, Int.reduceLE, arr_pos, arr_neg, ↓wpJoin, tab_len, tab_get hi, tab_get hj, tab_set', C_spec_l26Wakers s i hs h hi', C_spec_l2Has (wkL s i) j (by omega)]
     exact ⟨fun gi => ⟨fun ga => ⟨fun gq => ⟨(_, _), ⟨rfl, rfl⟩, hq.put hi hj gi (hEj.trans ga) gq⟩, fun gq => ⟨(_, _), ⟨rfl, rfl⟩, hq.skip fun _ => by simpa using gq⟩⟩, fun ga => ⟨(_, _), ⟨rfl, rfl⟩, hq.skip fun ge => absurd (hEj.symm.trans ge) ga⟩⟩, fun gi => ⟨(_, _), ⟨rfl, rfl⟩, hq.next hi (.inl (by simpa using gi))⟩⟩
   ·rintro ⟨ag, q⟩ hq
    simp (contextual := true) (maxSteps := 1000000) (disch := omega) only [↓Sd, ↓So, ↓Sk, ↓den, ↓denA, Sa, Sb, Sc, Se, O1.d, O2.d, O3.d, cmI, arI, envOf, putN, ↓reduceIte, Nat.reduceLT, Nat.reduceSub, Nat.reduceAdd, Int.reduceAdd, Int.reduceEq, Int.reduceLT, Int.reduceLE, arr_pos, arr_neg, hn]
    exact ⟨(ag, q), ⟨rfl, rfl⟩, hq.next hi (.inr (Nat.le_refl _))⟩
  ·rintro ⟨ag, q⟩ hq
   simp (contextual := true) (maxSteps := 1000000) (disch := omega) only [↓Sd, ↓So, ↓Sk, ↓den, ↓denA, Sa, Sb, Sc, Se, O1.d, O2.d, O3.d, cmI, arI, envOf, putN, ↓reduceIte, Nat.reduceLT, Nat.reduceSub, Nat.reduceAdd, Int.reduceAdd, Int.reduceEq, Int.reduceLT, Int.reduceLE, arr_pos, arr_neg, hn]
   refine ⟨2 * cntF q n + (if ag = true then 1 else 0), ?_, ag, q, ⟨rfl, rfl⟩, hq.b0, hq.b2, fun ha a h1 h2 m hm he => ?_, rfl⟩
   ·cases ag with
    | true => have := hq.b5 rfl; simp only at this ⊢; simp only [if_true]; omega
    | false => have := cntF_congr (hq.b3 rfl); simp only at this ⊢; simp only [Bool.false_eq_true, if_false]; omega
   ·have := hq.b4 ha a h1 h1 (by rw [← hq.b3 ha a h1]; exact h2) m hm he
    rw [← hq.b3 ha m hm] at this; exact this
def inS (s : Sy) (st : List Int) : Prop := valid s ∧ inR s.1 st
theorem usb_abS {s : Sy} {st : List Int} : usb s st = upTo (abS s st) s.2.length := rfl
theorem C_impl_InRange_a (s : Sy) (st : List Int) (hs : FewSy s) (hl : st.length ≤ 1048576) (Q : List AV → Prop) : mc.C f_impl_InRange [⟨L V3, s.1⟩, ⟨L TR, s.2⟩, ⟨L I, st⟩] Q = Q [⟨B, dB (inS s st)⟩] := by
 refine Mc.Ends.c (mc.ends F_impl_InRange ?_)
 by_cases hv : valid s
 ·simp (contextual := true) (maxSteps := 1000000) (disch := omega) only [↓Sd, ↓So, ↓Sk, ↓den, ↓denA, Sa, Sb, Sc, Se, O1.d, O2.d, O3.d, cmI, arI, envOf, putN, ↓reduceIte, Nat.reduceLT, Nat.reduceSub, Nat.reduceAdd, Int.reduceAdd, Int.reduceEq, Int.reduceLT, Int.reduceLE, arr_pos, arr_neg, tr_impl_InRange, C_impl_SystemValid s hs, decide_eq_true hv, C_impl_inRange s st hv.1.2 hl]
  rw [← dB_eq]
  exact dB_congr ⟨fun h => ⟨hv, h⟩, fun h => h.2⟩
 ·simp (contextual := true) (maxSteps := 1000000) (disch := omega) only [↓Sd, ↓So, ↓Sk, ↓den, ↓denA, Sa, Sb, Sc, Se, O1.d, O2.d, O3.d, cmI, arI, envOf, putN, ↓reduceIte, Nat.reduceLT, Nat.reduceSub, Nat.reduceAdd, Int.reduceAdd, Int.reduceEq, Int.reduceLT, Int.reduceLE, arr_pos, arr_neg, tr_impl_InRange, C_impl_SystemValid s hs, decide_eq_false hv]
  rw [dB_f fun h => hv h.1]
theorem C_spec_InRange_a (s : Sy) (st : List Int) (hs : FewSy s) (hl : st.length ≤ 1048576) (Q : List AV → Prop) : mc.C f_spec_InRange [⟨L V3, s.1⟩, ⟨L TR, s.2⟩, ⟨L I, st⟩] Q = Q [⟨B, dB (inS s st)⟩] := by
 refine Mc.Ends.c (mc.ends F_spec_InRange ?_)
 by_cases hv : valid s
 ·simp (contextual := true) (maxSteps := 1000000) (disch := omega) only [↓Sd, ↓So, ↓Sk, ↓den, ↓denA, Sa, Sb, Sc, Se, O1.d, O2.d, O3.d, cmI, arI, envOf, putN, ↓reduceIte, Nat.reduceLT, Nat.reduceSub, Nat.reduceAdd, Int.reduceAdd, Int.reduceEq, Int.reduceLT, Int.reduceLE, arr_pos, arr_neg, tr_spec_InRange, C_spec_SystemValid s hs, decide_eq_true hv, C_spec_l2In s st hv.1.2 hl]
  rw [← dB_eq]
  exact dB_congr ⟨fun h => ⟨hv, h⟩, fun h => h.2⟩
 ·simp (contextual := true) (maxSteps := 1000000) (disch := omega) only [↓Sd, ↓So, ↓Sk, ↓den, ↓denA, Sa, Sb, Sc, Se, O1.d, O2.d, O3.d, cmI, arI, envOf, putN, ↓reduceIte, Nat.reduceLT, Nat.reduceSub, Nat.reduceAdd, Int.reduceAdd, Int.reduceEq, Int.reduceLT, Int.reduceLE, arr_pos, arr_neg, tr_spec_InRange, C_spec_SystemValid s hs, decide_eq_false hv]
  rw [dB_f fun h => hv h.1]
def sfK (s : Sy) (st : List Int) (r : Int) : Prop := inS s st ∧ 0 ≤ r ∧ r ≤ (s.2.length : Int) - 1
open Classical in
noncomputable def sfL (s : Sy) (st : List Int) (r : Int) : List Int := if sfK s st r then upTo (frS s st r.toNat) s.2.length else []
theorem sfL_len {s : Sy} {st : List Int} {r : Int} : (sfL s st r).length ≤ 8 := by
 unfold sfL
 split
 ·rename_i h
  have := h.1.1.2.1
  exact Nat.le_trans upTo_len this
 ·simp
theorem C_spec_StubbornFrom (s : Sy) (st : List Int) (r : Int) (hs : FewSy s) (hl : st.length ≤ 1048576) (Q : List AV → Prop) : mc.C f_spec_StubbornFrom [⟨L V3, s.1⟩, ⟨L TR, s.2⟩, ⟨L I, st⟩, ⟨I, r⟩] Q = Q [⟨L I, sfL s st r⟩] := by
 refine Mc.Ends.c (mc.ends F_spec_StubbornFrom ?_)
 have hsl : s.2.length ≤ 1048576 := hs.2.1
 by_cases h : sfK s st r
 ·obtain ⟨m, rfl⟩ : ∃ m : Nat, r = m := ⟨r.toNat, by have := h.2; omega⟩
  have hm := h.2
  simp (contextual := true) (maxSteps := 1000000) (disch := omega) only [↓Sd, ↓So, ↓Sk, ↓den, ↓denA, Sa, Sb, Sc, Se, O1.d, O2.d, O3.d, cmI, arI, envOf, putN, ↓reduceIte, Nat.reduceLT, Nat.reduceSub, Nat.reduceAdd, Int.reduceAdd, Int.reduceEq, Int.reduceLT, Int.reduceLE, arr_pos, arr_neg, tr_spec_StubbornFrom, C_spec_InRange_a s st hs hl, dB_t h.1, C_spec_l1In, decide_eq_true (show 0 ≤ (m : Int) ∧ (m : Int) ≤ (s.2.length : Int) - 1 from h.2), C_spec_l26From s st m hs h.1.1 h.1.2 (by omega)]
  rw [sfL, if_pos h]; rfl
 ·rw [sfL, if_neg h]
  by_cases h1 : inS s st
  ·simp (contextual := true) (maxSteps := 1000000) (disch := omega) only [↓Sd, ↓So, ↓Sk, ↓den, ↓denA, Sa, Sb, Sc, Se, O1.d, O2.d, O3.d, cmI, arI, envOf, putN, ↓reduceIte, Nat.reduceLT, Nat.reduceSub, Nat.reduceAdd, Int.reduceAdd, Int.reduceEq, Int.reduceLT, Int.reduceLE, arr_pos, arr_neg, tr_spec_StubbornFrom, C_spec_InRange_a s st hs hl, dB_t h1, C_spec_l1In]
   intro h2
   exact absurd ⟨h1, h2⟩ h
  ·simp (contextual := true) (maxSteps := 1000000) (disch := omega) only [↓Sd, ↓So, ↓Sk, ↓den, ↓denA, Sa, Sb, Sc, Se, O1.d, O2.d, O3.d, cmI, arI, envOf, putN, ↓reduceIte, Nat.reduceLT, Nat.reduceSub, Nat.reduceAdd, Int.reduceAdd, Int.reduceEq, Int.reduceLT, Int.reduceLE, arr_pos, arr_neg, tr_spec_StubbornFrom, C_spec_InRange_a s st hs hl, dB_f h1]
theorem C_impl_StubbornFrom (s : Sy) (st : List Int) (r : Int) (hs : FewSy s) (hl : st.length ≤ 1048576) (Q : List AV → Prop) : mc.C f_impl_StubbornFrom [⟨L V3, s.1⟩, ⟨L TR, s.2⟩, ⟨L I, st⟩, ⟨I, r⟩] Q = Q [⟨L I, sfL s st r⟩] := by
 refine Mc.Ends.c (mc.ends F_impl_StubbornFrom ?_)
 have hsl : s.2.length ≤ 1048576 := hs.2.1
 by_cases h : sfK s st r
 ·obtain ⟨m, rfl⟩ : ∃ m : Nat, r = m := ⟨r.toNat, by have := h.2; omega⟩
  have hm := h.2
  have hv := h.1.1
  have h8 := hv.2.1
  have hul := @upTo_len (abS s st) s.2.length
  have hmk : tab (fun k => dB ((k : Int) ∈ upTo (abS s st) s.2.length)) s.2.length = tab (abS s st) s.2.length := tab_congr fun k hk => by rw [dB_upTo]; simp [hk]
  have hres : (fun k => dB (Rc (eI' (abS s st) (fun k m => dB (Apr s k m)) (wkL s)) s.2.length m k)) = frS s st m := rfl
  simp (contextual := true) (maxSteps := 1000000) (disch := omega) only [↓Sd, ↓So, ↓Sk, ↓den, ↓denA, Sa, Sb, Sc, Se, O1.d, O2.d, O3.d, cmI, arI, envOf, putN, ↓reduceIte, Nat.reduceLT, Nat.reduceSub, Nat.reduceAdd, Int.reduceAdd, Int.reduceEq, Int.reduceLT, Int.reduceLE, arr_pos, arr_neg, tr_impl_StubbornFrom, C_impl_InRange_a s st hs hl, dB_t h.1, C_impl_in, decide_eq_true (show 0 ≤ (m : Int) ∧ (m : Int) ≤ (s.2.length : Int) - 1 from h.2), C_impl_stubbornOf s hv, C_impl_usableIn s st hv h.1.2, usb_abS, C_impl_marks (upTo (abS s st) s.2.length) s.2.length (by omega) (by omega) (fun x hx => by obtain ⟨a, h1, rfl, _⟩ := upTo_mem.1 hx; omega), hmk,
   C_impl_stubborn_from (abS s st) (fun k m => dB (Apr s k m)) (wkL s) s.2.length m (by omega) (by omega) (fun k _ => wkL_len hv), hres, C_impl_listOf_tab (frS s st m) s.2.length (by omega)]
  rw [sfL, if_pos h]; rfl
 ·rw [sfL, if_neg h]
  by_cases h1 : inS s st
  ·simp (contextual := true) (maxSteps := 1000000) (disch := omega) only [↓Sd, ↓So, ↓Sk, ↓den, ↓denA, Sa, Sb, Sc, Se, O1.d, O2.d, O3.d, cmI, arI, envOf, putN, ↓reduceIte, Nat.reduceLT, Nat.reduceSub, Nat.reduceAdd, Int.reduceAdd, Int.reduceEq, Int.reduceLT, Int.reduceLE, arr_pos, arr_neg, tr_impl_StubbornFrom, C_impl_InRange_a s st hs hl, dB_t h1, C_impl_in]
   intro h2
   exact absurd ⟨h1, h2⟩ h
  ·simp (contextual := true) (maxSteps := 1000000) (disch := omega) only [↓Sd, ↓So, ↓Sk, ↓den, ↓denA, Sa, Sb, Sc, Se, O1.d, O2.d, O3.d, cmI, arI, envOf, putN, ↓reduceIte, Nat.reduceLT, Nat.reduceSub, Nat.reduceAdd, Int.reduceAdd, Int.reduceEq, Int.reduceLT, Int.reduceLE, arr_pos, arr_neg, tr_impl_StubbornFrom, C_impl_InRange_a s st hs hl, dB_f h1]
noncomputable def sbP (s : Sy) (st : List Int) (r k : Nat) : Bool := frS s st r k && abS s st k
noncomputable def sbL (s : Sy) (st : List Int) (r : Nat) : List Int := upTo (sbP s st r) s.2.length
noncomputable def fldS (s : Sy) (st : List Int) (b : List Int) (x : Int) : List Int := if b = [] ∨ (sbL s st x.toNat).length < b.length then sbL s st x.toNat else b
noncomputable def fld (s : Sy) (st : List Int) (l : List Int) : List Int := l.foldl (fldS s st) []
theorem fld_snoc {s : Sy} {st l : List Int} {x : Int} : fld s st (l ++ [x]) = fldS s st (fld s st l) x := by simp [fld]
noncomputable def bsL (s : Sy) (st : List Int) : List Int := fld s st (upTo (abS s st) s.2.length)
theorem sbL_mem {s : Sy} {st : List Int} {r : Nat} (hr : r < s.2.length) (ha : abS s st r = true) : ¬ sbL s st r = [] := by
 intro h
 have : (r : Int) ∈ sbL s st r := upTo_mem.2 ⟨r, hr, rfl, by rw [sbP, ha, frS, dB_t .base]; rfl⟩
 rw [h] at this; cases this
theorem sbL_len {s : Sy} {st : List Int} {r : Nat} : (sbL s st r).length ≤ s.2.length := upTo_len
theorem fld_len {s : Sy} {st : List Int} : ∀ {l b : List Int}, b.length ≤ s.2.length → (l.foldl (fldS s st) b).length ≤ s.2.length
 | [], b, h => h
 | x :: l, b, h => fld_len (l := l) (by
  unfold fldS
  split
  ·exact sbL_len
  ·exact h)
theorem bsL_len {s : Sy} {st : List Int} : (bsL s st).length ≤ s.2.length := fld_len (Nat.zero_le _)
theorem fld_nil {s : Sy} {st : List Int} : ∀ {l b : List Int}, ¬ b = [] → (∀ x ∈ l, ¬ sbL s st x.toNat = []) → ¬ l.foldl (fldS s st) b = []
 | [], b, h, _ => h
 | x :: l, b, h, hl => fld_nil (l := l) (by
  unfold fldS
  split
  ·exact hl x (List.mem_cons_self ..)
  ·exact h) fun y hy => hl y (List.mem_cons_of_mem _ hy)
theorem upTo_filt2 {p q : Nat → Bool} : ∀ {n : Nat}, (upTo p n).filter (fun x => q x.toNat) = upTo (fun k => p k && q k) n
 | 0 => rfl
 | n + 1 => by
  by_cases hp : p n = true
  ·rw [upTo_s hp, List.filter_append, upTo_filt2 (n := n)]
   by_cases hq : q n = true
   ·rw [upTo_s (p := fun k => p k && q k) (by simp [hp, hq])]
    simp [hq]
   ·rw [upTo_n (p := fun k => p k && q k) (by simp [hq])]
    simp [hq]
  ·rw [upTo_n hp, upTo_n (p := fun k => p k && q k) (by simp [hp])]
   exact upTo_filt2 (n := n)
theorem C_spec_l26Usable (s : Sy) (st : List Int) (r : Nat) (h : valid s) (hst : inR s.1 st) (Q : List AV → Prop) : mc.C f_spec_l26Usable [⟨L V3, s.1⟩, ⟨L TR, s.2⟩, ⟨L I, st⟩, ⟨L I, upTo (frS s st r) s.2.length⟩] Q = Q [⟨L I, sbL s st r⟩] := by
 refine Mc.Ends.c (mc.ends F_spec_l26Usable ?_)
 have h8 := h.2.1
 have hul := @upTo_len (frS s st r) s.2.length
 simp (contextual := true) (maxSteps := 1000000) (disch := omega) only [↓Sd, ↓So, ↓Sk, ↓den, ↓denA, Sa, Sb, Sc, Se, O1.d, O2.d, O3.d, cmI, arI, envOf, putN, ↓reduceIte, Nat.reduceLT, Nat.reduceSub, Nat.reduceAdd, Int.reduceAdd, Int.reduceEq, Int.reduceLT, Int.reduceLE, arr_pos, arr_neg, tr_spec_l26Usable]
 refine mc.lp_for (List Int) (fun i o => [⟨L I, st⟩, ⟨L I, upTo (frS s st r) s.2.length⟩, ⟨I, (i : Int)⟩, ⟨L V3, s.1⟩, ⟨L TR, s.2⟩, ⟨L I, o⟩]) (fun i o => o = ((upTo (frS s st r) s.2.length).take i).filter (fun x => abS s st x.toNat)) (upTo (frS s st r) s.2.length).length 0 [] _ rfl (Nat.zero_le _) rfl ?_ ?_
 ·rintro i o hi rfl
  obtain ⟨k, hk, hx, _⟩ := upTo_mem.1 (getD_mem (d := 0) hi)
  have hfl := List.length_filter_le (fun x : Int => abS s st x.toNat) ((upTo (frS s st r) s.2.length).take i)
  rw [List.length_take] at hfl
  have erl : s.2.getD k ([], [], []) = rl s k := rfl
  have hab : ((useM s.1 (rl s k) st).length > 0) ↔ abS s st k = true := by
   unfold abS
   rw [decide_eq_true_eq, ← List.length_eq_zero_iff]; omega
  have hnx : ((upTo (frS s st r) s.2.length).take (i + 1)).filter (fun x => abS s st x.toNat) = ((upTo (frS s st r) s.2.length).take i).filter (fun x => abS s st x.toNat) ++ (if abS s st k = true then [(k : Int)] else []) := by
   rw [List.take_succ_eq_append_getElem hi, List.filter_append, ← getD_lt (d := 0) hi, hx]
   congr 1
   simp [List.filter_cons]
  obtain ⟨F, hF⟩ : ∃ F, ((upTo (frS s st r) s.2.length).take i).filter (fun x => abS s st x.toNat) = F := ⟨_, rfl⟩
  rw [hnx]
  rw [hF] at hfl ⊢
  simp (contextual := true) (maxSteps := 1000000) (disch := omega) only [↓Sd, ↓So, ↓Sk, ↓den, ↓denA, Sa, Sb, Sc, Se, O1.d, O2.d, O3.d, cmI, arI, envOf, putN, ↓reduceIte, Nat.reduceLT, Nat.reduceSub, Nat.reduceAdd, Int.reduceAdd, Int.reduceEq, Int.reduceLT, Int.reduceLE, arr_pos, arr_neg, ↓wpJoin, hx, C_spec_l2Use s st k h hst hk, erl]
  exact ⟨fun g => by rw [if_pos (hab.1 (by omega))], fun g => by rw [if_neg (fun h => g (by have := hab.2 h; omega)), List.append_nil]⟩
 ·rintro o rfl
  rw [List.take_length]
  simp (contextual := true) (maxSteps := 1000000) (disch := omega) only [↓Sd, ↓So, ↓Sk, ↓den, ↓denA, Sa, Sb, Sc, Se, O1.d, O2.d, O3.d, cmI, arI, envOf, putN, ↓reduceIte, Nat.reduceLT, Nat.reduceSub, Nat.reduceAdd, Int.reduceAdd, Int.reduceEq, Int.reduceLT, Int.reduceLE, arr_pos, arr_neg, ]
  exact upTo_filt2
theorem C_spec_l26Best (s : Sy) (st : List Int) (hs : FewSy s) (h : valid s) (hst : inR s.1 st) (Q : List AV → Prop) : mc.C f_spec_l26Best [⟨L V3, s.1⟩, ⟨L TR, s.2⟩, ⟨L I, st⟩] Q = Q [⟨L I, bsL s st⟩] := by
 refine Mc.Ends.c (mc.ends F_spec_l26Best ?_)
 have h8 := h.2.1
 simp (contextual := true) (maxSteps := 1000000) (disch := omega) only [↓Sd, ↓So, ↓Sk, ↓den, ↓denA, Sa, Sb, Sc, Se, O1.d, O2.d, O3.d, cmI, arI, envOf, putN, ↓reduceIte, Nat.reduceLT, Nat.reduceSub, Nat.reduceAdd, Int.reduceAdd, Int.reduceEq, Int.reduceLT, Int.reduceLE, arr_pos, arr_neg, tr_spec_l26Best]
 refine mc.lp_for (List Int) (fun i o => [⟨L I, st⟩, ⟨I, (i : Int)⟩, ⟨L V3, s.1⟩, ⟨L TR, s.2⟩, ⟨L I, o⟩]) (fun i o => o = fld s st (upTo (abS s st) i)) s.2.length 0 [] _ rfl (Nat.zero_le _) rfl ?_ ?_
 ·rintro i o hi rfl
  have erl : s.2.getD i ([], [], []) = rl s i := rfl
  have hab : ((useM s.1 (rl s i) st).length > 0) ↔ abS s st i = true := by
   unfold abS
   rw [decide_eq_true_eq, ← List.length_eq_zero_iff]; omega
  obtain ⟨F, hF⟩ : ∃ F, fld s st (upTo (abS s st) i) = F := ⟨_, rfl⟩
  rw [hF]
  simp (contextual := true) (maxSteps := 1000000) (disch := omega) only [↓Sd, ↓So, ↓Sk, ↓den, ↓denA, Sa, Sb, Sc, Se, O1.d, O2.d, O3.d, cmI, arI, envOf, putN, ↓reduceIte, Nat.reduceLT, Nat.reduceSub, Nat.reduceAdd, Int.reduceAdd, Int.reduceEq, Int.reduceLT, Int.reduceLE, arr_pos, arr_neg, ↓wpJoin, C_spec_l2Use s st i h hst hi, erl, C_spec_l26From s st i hs h hst hi, C_spec_l26Usable s st i h hst]
  refine ⟨fun g => ?_, fun g => ?_⟩
  ·have ha : abS s st i = true := hab.1 (by omega)
   rw [upTo_s (p := abS s st) ha, fld_snoc, hF, fldS, Int.toNat_natCast]
   refine ⟨fun g1 => by rw [if_pos (.inl (List.eq_nil_of_length_eq_zero (by omega)))], fun g1 => ⟨fun g2 => by rw [if_pos (.inr (by omega))], fun g2 => ?_⟩⟩
   rw [if_neg]
   rintro (h1 | h1)
   ·exact g1 (by rw [h1]; rfl)
   ·omega
  ·rw [upTo_n (p := abS s st) fun h => g (by have := hab.2 h; omega), hF]
 ·rintro o rfl
  simp (contextual := true) (maxSteps := 1000000) (disch := omega) only [↓Sd, ↓So, ↓Sk, ↓den, ↓denA, Sa, Sb, Sc, Se, O1.d, O2.d, O3.d, cmI, arI, envOf, putN, ↓reduceIte, Nat.reduceLT, Nat.reduceSub, Nat.reduceAdd, Int.reduceAdd, Int.reduceEq, Int.reduceLT, Int.reduceLE, arr_pos, arr_neg, ]
  rfl
theorem C_impl_stubborn_in (s : Sy) (st : List Int) (h : valid s) (hst : inR s.1 st) (Q : List AV → Prop) :
  mc.C f_impl_stubborn_in [⟨P (L (L B)) (L (L I)), (tab (fun k => tab (fun m => dB (Apr s k m)) s.2.length) s.2.length, tab (wkL s) s.2.length)⟩, ⟨L V3, s.1⟩, ⟨L TR, s.2⟩, ⟨L I, st⟩] Q = Q [⟨L I, bsL s st⟩, ⟨P (L (L B)) (L (L I)), (tab (fun k => tab (fun m => dB (Apr s k m)) s.2.length) s.2.length, tab (wkL s) s.2.length)⟩] := by
 refine Mc.Ends.c (mc.ends F_impl_stubborn_in ?_)
 have h8 := h.2.1
 have hul := @upTo_len (abS s st) s.2.length
 have hmk : tab (fun k => dB ((k : Int) ∈ upTo (abS s st) s.2.length)) s.2.length = tab (abS s st) s.2.length := tab_congr fun k hk => by rw [dB_upTo]; simp [hk]
 have hfrm := fun m (hm : m < s.2.length) => C_impl_stubborn_from (abS s st) (fun k m => dB (Apr s k m)) (wkL s) s.2.length m h8 hm (fun k _ => wkL_len h)
 have hres : ∀ m, (fun k => dB (Rc (eI' (abS s st) (fun k m => dB (Apr s k m)) (wkL s)) s.2.length m k)) = frS s st m := fun m => rfl
 simp only [hres] at hfrm
 obtain ⟨AA, hAA⟩ : ∃ AA, tab (fun k => tab (fun m => dB (Apr s k m)) s.2.length) s.2.length = AA := ⟨_, rfl⟩
 obtain ⟨WW, hWW⟩ : ∃ WW, tab (wkL s) s.2.length = WW := ⟨_, rfl⟩
 have hbl := @bsL_len s st
 rw [hAA, hWW] at hfrm ⊢
 simp (contextual := true) (maxSteps := 1000000) (disch := omega) only [↓Sd, ↓So, ↓Sk, ↓den, ↓denA, Sa, Sb, Sc, Se, O1.d, O2.d, O3.d, cmI, arI, envOf, putN, ↓reduceIte, Nat.reduceLT, Nat.reduceSub, Nat.reduceAdd, Int.reduceAdd, Int.reduceEq, Int.reduceLT, Int.reduceLE, arr_pos, arr_neg, tr_impl_stubborn_in, C_impl_usableIn s st h hst, usb_abS, C_impl_marks (upTo (abS s st) s.2.length) s.2.length (by omega) (by omega) (fun x hx => by obtain ⟨a, h1, rfl, _⟩ := upTo_mem.1 hx; omega), hmk]
 obtain ⟨n, hn⟩ : ∃ n, s.2.length = n := ⟨_, rfl⟩
 rw [hn] at h8 hul hfrm ⊢
 refine mc.lp_for (List Int) (fun i o => [⟨N I, o⟩, ⟨I, ((upTo (abS s st) n).length : Int)⟩, ⟨I, (i : Int)⟩, ⟨L (L B), AA⟩, ⟨L (L I), WW⟩, ⟨L B, tab (abS s st) n⟩, ⟨L I, upTo (abS s st) n⟩]) (fun i o => o = fld s st ((upTo (abS s st) n).take i)) (upTo (abS s st) n).length 0 [] _ rfl (Nat.zero_le _) rfl ?_ ?_
 ·rintro i o hi rfl
  obtain ⟨k, hk, hx, hka⟩ := upTo_mem.1 (getD_mem (d := 0) hi)
  have hnx : fld s st ((upTo (abS s st) n).take (i + 1)) = fldS s st (fld s st ((upTo (abS s st) n).take i)) (k : Int) := by
   rw [List.take_succ_eq_append_getElem hi, ← getD_lt (d := 0) hi, hx, fld_snoc]
  have hFl : (fld s st ((upTo (abS s st) n).take i)).length ≤ s.2.length := fld_len (Nat.zero_le _)
  obtain ⟨F, hF⟩ : ∃ F, fld s st ((upTo (abS s st) n).take i) = F := ⟨_, rfl⟩
  rw [hnx]
  rw [hF] at hFl ⊢
  simp (contextual := true) (maxSteps := 1000000) (disch := omega) only [↓Sd, ↓So, ↓Sk, ↓den, ↓denA, Sa, Sb, Sc, Se, O1.d, O2.d, O3.d, cmI, arI, envOf, putN, ↓reduceIte, Nat.reduceLT, Nat.reduceSub, Nat.reduceAdd, Int.reduceAdd, Int.reduceEq, Int.reduceLT, Int.reduceLE, arr_pos, arr_neg, ↓wpJoin, hx, hfrm k hk, tab_len]
  refine mc.lp_for Unit (fun j _ => [⟨N I, F⟩, ⟨I, ((upTo (abS s st) n).length : Int)⟩, ⟨I, (i : Int)⟩, ⟨I, (n : Int)⟩, ⟨I, (j : Int)⟩, ⟨L (L B), AA⟩, ⟨L (L I), WW⟩, ⟨L B, tab (abS s st) n⟩, ⟨L B, tab (fun m => if m < j then sbP s st k m else frS s st k m) n⟩, ⟨L I, upTo (abS s st) n⟩]) (fun _ _ => True) n 0 () _ (by simp) (Nat.zero_le _) trivial ?_ ?_
  ·rintro j - hj -
   simp (contextual := true) (maxSteps := 1000000) (disch := omega) only [↓Sd, ↓So, ↓Sk, ↓den, ↓denA, Sa, Sb, Sc, Se, O1.d, O2.d, O3.d, cmI, arI, envOf, putN, ↓reduceIte, Nat.reduceLT, Nat.reduceSub, Nat.reduceAdd, Int.reduceAdd, Int.reduceEq, Int.reduceLT, Int.reduceLE, arr_pos, arr_neg, ↓wpJoin, tab_len, tab_get hj, tab_set']
   rw [if_neg (Nat.lt_irrefl j)]
   refine ⟨fun g => tab_congr fun m hm => ?_, fun g => tab_congr fun m hm => ?_⟩
   ·by_cases e : m = j
    ·subst e; rw [if_pos rfl, if_pos (Nat.lt_succ_self _), sbP, g]; rfl
    ·rw [if_neg e]
     by_cases e2 : m < j
     ·rw [if_pos e2, if_pos (by omega)]
     ·rw [if_neg e2, if_neg (by omega)]
   ·by_cases e : m = j
    ·subst e
     have g' : frS s st k m = false := by simpa using g
     rw [if_pos rfl, if_pos (Nat.lt_succ_self _), sbP, g']; rfl
    ·rw [if_neg e]
     by_cases e2 : m < j
     ·rw [if_pos e2, if_pos (by omega)]
     ·rw [if_neg e2, if_neg (by omega)]
  ·rintro - -
   have e1 : upTo (fun m => if m < n then sbP s st k m else frS s st k m) n = sbL s st k := by rw [sbL, hn]; exact upTo_congr fun m hm => if_pos hm
   have hne := sbL_mem (st := st) (by rw [hn]; exact hk) hka
   have hne' : (sbL s st k).isEmpty = false := by simpa using hne
   simp (contextual := true) (maxSteps := 1000000) (disch := omega) only [↓Sd, ↓So, ↓Sk, ↓den, ↓denA, Sa, Sb, Sc, Se, O1.d, O2.d, O3.d, cmI, arI, envOf, putN, ↓reduceIte, Nat.reduceLT, Nat.reduceSub, Nat.reduceAdd, Int.reduceAdd, Int.reduceEq, Int.reduceLT, Int.reduceLE, arr_pos, arr_neg, C_impl_listOf_tab _ n (by omega : n ≤ 1048576), e1, hne']
   rw [fldS, Int.toNat_natCast]
   refine ⟨fun g => by rw [if_pos (.inl (by simpa using g))], fun g => ⟨fun g2 => by rw [if_pos (.inr (by omega))], fun g2 => ?_⟩⟩
   rw [if_neg]
   rintro (h1 | h1)
   ·exact g (by rw [h1]; rfl)
   ·omega
 ·rintro o rfl
  rw [List.take_length]
  have e1 : fld s st (upTo (abS s st) n) = bsL s st := by rw [bsL, hn]
  rw [e1]
  simp (contextual := true) (maxSteps := 1000000) (disch := omega) only [↓Sd, ↓So, ↓Sk, ↓den, ↓denA, Sa, Sb, Sc, Se, O1.d, O2.d, O3.d, cmI, arI, envOf, putN, ↓reduceIte, Nat.reduceLT, Nat.reduceSub, Nat.reduceAdd, Int.reduceAdd, Int.reduceEq, Int.reduceLT, Int.reduceLE, arr_pos, arr_neg, C_impl_clone_int (bsL s st) (by omega)]
open Classical in
noncomputable def siL (s : Sy) (st : List Int) : List Int := if inS s st then bsL s st else []
theorem siL_len {s : Sy} {st : List Int} : (siL s st).length ≤ 8 := by
 unfold siL
 split
 ·rename_i h
  have := h.1.2.1
  exact Nat.le_trans bsL_len this
 ·simp
theorem C_spec_StubbornIn (s : Sy) (st : List Int) (hs : FewSy s) (hl : st.length ≤ 1048576) (Q : List AV → Prop) : mc.C f_spec_StubbornIn [⟨L V3, s.1⟩, ⟨L TR, s.2⟩, ⟨L I, st⟩] Q = Q [⟨L I, siL s st⟩] := by
 refine Mc.Ends.c (mc.ends F_spec_StubbornIn ?_)
 by_cases h : inS s st
 ·simp (contextual := true) (maxSteps := 1000000) (disch := omega) only [↓Sd, ↓So, ↓Sk, ↓den, ↓denA, Sa, Sb, Sc, Se, O1.d, O2.d, O3.d, cmI, arI, envOf, putN, ↓reduceIte, Nat.reduceLT, Nat.reduceSub, Nat.reduceAdd, Int.reduceAdd, Int.reduceEq, Int.reduceLT, Int.reduceLE, arr_pos, arr_neg, tr_spec_StubbornIn, C_spec_InRange_a s st hs hl, dB_t h, C_spec_l26Best s st hs h.1 h.2]
  rw [siL, if_pos h]
 ·simp (contextual := true) (maxSteps := 1000000) (disch := omega) only [↓Sd, ↓So, ↓Sk, ↓den, ↓denA, Sa, Sb, Sc, Se, O1.d, O2.d, O3.d, cmI, arI, envOf, putN, ↓reduceIte, Nat.reduceLT, Nat.reduceSub, Nat.reduceAdd, Int.reduceAdd, Int.reduceEq, Int.reduceLT, Int.reduceLE, arr_pos, arr_neg, tr_spec_StubbornIn, C_spec_InRange_a s st hs hl, dB_f h]
  rw [siL, if_neg h]
theorem C_impl_StubbornIn (s : Sy) (st : List Int) (hs : FewSy s) (hl : st.length ≤ 1048576) (Q : List AV → Prop) : mc.C f_impl_StubbornIn [⟨L V3, s.1⟩, ⟨L TR, s.2⟩, ⟨L I, st⟩] Q = Q [⟨L I, siL s st⟩] := by
 refine Mc.Ends.c (mc.ends F_impl_StubbornIn ?_)
 by_cases h : inS s st
 ·simp (contextual := true) (maxSteps := 1000000) (disch := omega) only [↓Sd, ↓So, ↓Sk, ↓den, ↓denA, Sa, Sb, Sc, Se, O1.d, O2.d, O3.d, cmI, arI, envOf, putN, ↓reduceIte, Nat.reduceLT, Nat.reduceSub, Nat.reduceAdd, Int.reduceAdd, Int.reduceEq, Int.reduceLT, Int.reduceLE, arr_pos, arr_neg, tr_impl_StubbornIn, C_impl_InRange_a s st hs hl, dB_t h, C_impl_stubbornOf s h.1, C_impl_stubborn_in s st h.1 h.2]
  rw [siL, if_pos h]
 ·simp (contextual := true) (maxSteps := 1000000) (disch := omega) only [↓Sd, ↓So, ↓Sk, ↓den, ↓denA, Sa, Sb, Sc, Se, O1.d, O2.d, O3.d, cmI, arI, envOf, putN, ↓reduceIte, Nat.reduceLT, Nat.reduceSub, Nat.reduceAdd, Int.reduceAdd, Int.reduceEq, Int.reduceLT, Int.reduceLE, arr_pos, arr_neg, tr_impl_StubbornIn, C_impl_InRange_a s st hs hl, dB_f h]
  rw [siL, if_neg h]
theorem D_Shifted (l : List Tm) (vars by_ : Int) (hl : l.length ≤ 1000) {Q : List AV → Prop} (h : ∀ (r : List Tm), r.length ≤ l.length → Q [⟨L T4, r⟩]) : mc.C f_spec_Shifted [⟨L T4, l⟩, ⟨I, vars⟩, ⟨I, by_⟩] Q := by
 have h1 : Few l := by unfold Few; omega
 refine mc.c_of F_spec_Shifted ?_
 simp (contextual := true) (maxSteps := 1000000) (disch := omega) only [↓Sd, ↓So, ↓Sk, ↓den, ↓denA, Sa, Sb, Sc, Se, O1.d, O2.d, O3.d, cmI, arI, envOf, putN, ↓reduceIte, Nat.reduceLT, Nat.reduceSub, Nat.reduceAdd, Int.reduceAdd, Int.reduceEq, Int.reduceLT, Int.reduceLE, arr_pos, arr_neg, tr_spec_Shifted, C_spec_TermsValid l vars h1, C_spec_l1In]
 refine ⟨fun _ => h _ (by simp), fun _ => ⟨fun _ => h _ (by simp), fun _ => ?_⟩⟩
 refine mc.lp_for (List Tm) (fun i s => [⟨L T4, l⟩, ⟨I, by_⟩, ⟨I, (i : Int)⟩, ⟨L T4, s⟩]) (fun i s => s.length = i) l.length 0 [] _ rfl (Nat.zero_le _) rfl ?_ ?_
 ·rintro i s hi hs
  simp (contextual := true) (maxSteps := 1000000) (disch := omega) only [↓Sd, ↓So, ↓Sk, ↓den, ↓denA, Sa, Sb, Sc, Se, O1.d, O2.d, O3.d, cmI, arI, envOf, putN, ↓reduceIte, Nat.reduceLT, Nat.reduceSub, Nat.reduceAdd, Int.reduceAdd, Int.reduceEq, Int.reduceLT, Int.reduceLE, arr_pos, arr_neg, ]
  refine mc.wp_join (fun us => ∃ t : Tm, us = [⟨L T4, l⟩, ⟨I, by_⟩, ⟨I, (i : Int)⟩, ⟨L T4, s⟩, ⟨I, t.1⟩, ⟨I, t.2.1⟩, ⟨I, t.2.2.1⟩, ⟨I, t.2.2.2⟩]) ?_ ?_
  ·simp (contextual := true) (maxSteps := 1000000) (disch := omega) only [↓Sd, ↓So, ↓Sk, ↓den, ↓denA, Sa, Sb, Sc, Se, O1.d, O2.d, O3.d, cmI, arI, envOf, putN, ↓reduceIte, Nat.reduceLT, Nat.reduceSub, Nat.reduceAdd, Int.reduceAdd, Int.reduceEq, Int.reduceLT, Int.reduceLE, arr_pos, arr_neg, ]
   exact ⟨fun _ => ⟨(_, _, _, _), rfl, rfl, rfl, rfl⟩, fun _ => ⟨(_, _, _, _), rfl, rfl, rfl, rfl⟩⟩
  ·rintro us ⟨t, rfl⟩
   simp (contextual := true) (maxSteps := 1000000) (disch := omega) only [↓Sd, ↓So, ↓Sk, ↓den, ↓denA, Sa, Sb, Sc, Se, O1.d, O2.d, O3.d, cmI, arI, envOf, putN, ↓reduceIte, Nat.reduceLT, Nat.reduceSub, Nat.reduceAdd, Int.reduceAdd, Int.reduceEq, Int.reduceLT, Int.reduceLE, arr_pos, arr_neg, ]
   omega
 ·rintro s hs
  simp (contextual := true) (maxSteps := 1000000) (disch := omega) only [↓Sd, ↓So, ↓Sk, ↓den, ↓denA, Sa, Sb, Sc, Se, O1.d, O2.d, O3.d, cmI, arI, envOf, putN, ↓reduceIte, Nat.reduceLT, Nat.reduceSub, Nat.reduceAdd, Int.reduceAdd, Int.reduceEq, Int.reduceLT, Int.reduceLE, arr_pos, arr_neg, ]
  exact h _ (by omega)
set_option maxHeartbeats 2000000 in
theorem D_l26System (b : List Int) (p : Int) (hb : Rdy b) (hp : 0 ≤ p ∧ p ≤ 300000000) {Q : List AV → Prop} (h : ∀ (s : Sy) (p' : Int), p ≤ p' ∧ p' ≤ p + 200000 → SmSy s → Q [⟨L V3, s.1⟩, ⟨L TR, s.2⟩, ⟨RD, (b, p')⟩]) : mc.C f_spec_l26System [⟨RD, (b, p)⟩] Q := by
 refine mc.c_of F_spec_l26System ?_
 simp (contextual := true) (maxSteps := 1000000) (disch := omega) only [↓Sd, ↓So, ↓Sk, ↓den, ↓denA, Sa, Sb, Sc, Se, O1.d, O2.d, O3.d, cmI, arI, envOf, putN, ↓reduceIte, Nat.reduceLT, Nat.reduceSub, Nat.reduceAdd, Int.reduceAdd, Int.reduceEq, Int.reduceLT, Int.reduceLE, arr_pos, arr_neg, tr_spec_l26System]
 refine D_pick1 _ _ _ hb (by omega) (by omega) fun a a0 a1 => ?_; simp (contextual := true) (maxSteps := 1000000) (disch := omega) only [↓Sd, ↓So, ↓Sk, ↓den, ↓denA, Sa, Sb, Sc, Se, O1.d, O2.d, O3.d, cmI, arI, envOf, putN, ↓reduceIte, Nat.reduceLT, Nat.reduceSub, Nat.reduceAdd, Int.reduceAdd, Int.reduceEq, Int.reduceLT, Int.reduceLE, arr_pos, arr_neg, ]
 refine ⟨fun _ => ?_, fun _ => ?_⟩
 ·refine D_l2Any _ _ _ hb (by omega) fun s p1 hp1 hs => ?_
  simp (contextual := true) (maxSteps := 1000000) (disch := omega) only [↓Sd, ↓So, ↓Sk, ↓den, ↓denA, Sa, Sb, Sc, Se, O1.d, O2.d, O3.d, cmI, arI, envOf, putN, ↓reduceIte, Nat.reduceLT, Nat.reduceSub, Nat.reduceAdd, Int.reduceAdd, Int.reduceEq, Int.reduceLT, Int.reduceLE, arr_pos, arr_neg, ]
  exact h s p1 (by omega) hs
 refine D_pick1 _ _ _ hb (by omega) (by omega) fun n n0 n1 => ?_; simp (contextual := true) (maxSteps := 1000000) (disch := omega) only [↓Sd, ↓So, ↓Sk, ↓den, ↓denA, Sa, Sb, Sc, Se, O1.d, O2.d, O3.d, cmI, arI, envOf, putN, ↓reduceIte, Nat.reduceLT, Nat.reduceSub, Nat.reduceAdd, Int.reduceAdd, Int.reduceEq, Int.reduceLT, Int.reduceLE, arr_pos, arr_neg, ]
 obtain ⟨N1, hN⟩ : ∃ N1 : Nat, n = N1 := ⟨n.toNat, by omega⟩
 subst hN
 refine mc.lp_inv (fun k us => ∃ (p1 : Int) (vs : List Vr), us = [⟨I, (k : Int)⟩, ⟨L U, b⟩, ⟨I, p1⟩, ⟨L V3, vs⟩] ∧ vs.length + k = 2 + N1 ∧ p ≤ p1 ∧ p1 + 20 * k ≤ p + 2 + 20 * (2 + N1)) (2 + N1) _ ⟨p + 1 + 1, [], by simp, by simp, by omega, by omega⟩ ?_
 rintro k us ⟨p1, vs, rfl, i1, i2, i3⟩
 cases k with
 | succ k =>
  simp (contextual := true) (maxSteps := 1000000) (disch := omega) only [↓Sd, ↓So, ↓Sk, ↓den, ↓denA, Sa, Sb, Sc, Se, O1.d, O2.d, O3.d, cmI, arI, envOf, putN, ↓reduceIte, Nat.reduceLT, Nat.reduceSub, Nat.reduceAdd, Int.reduceAdd, Int.reduceEq, Int.reduceLT, Int.reduceLE, arr_pos, arr_neg, ]
  refine D_num _ _ _ hb (by omega) (by simp) (by simp) fun o o0 => ?_; simp (contextual := true) (maxSteps := 1000000) (disch := omega) only [↓Sd, ↓So, ↓Sk, ↓den, ↓denA, Sa, Sb, Sc, Se, O1.d, O2.d, O3.d, cmI, arI, envOf, putN, ↓reduceIte, Nat.reduceLT, Nat.reduceSub, Nat.reduceAdd, Int.reduceAdd, Int.reduceEq, Int.reduceLT, Int.reduceLE, arr_pos, arr_neg, ]
  have ho : 2 ≤ o ∧ o ≤ 3 := by simp only [List.mem_append, List.mem_singleton] at o0; omega
  refine D_pick1 _ _ _ hb (by omega) (by omega) fun x x0 x1 => ?_; simp (contextual := true) (maxSteps := 1000000) (disch := omega) only [↓Sd, ↓So, ↓Sk, ↓den, ↓denA, Sa, Sb, Sc, Se, O1.d, O2.d, O3.d, cmI, arI, envOf, putN, ↓reduceIte, Nat.reduceLT, Nat.reduceSub, Nat.reduceAdd, Int.reduceAdd, Int.reduceEq, Int.reduceLT, Int.reduceLE, arr_pos, arr_neg, ]
  simp (contextual := true) (maxSteps := 1000000) (disch := omega) only [↓Sd, ↓So, ↓Sk, ↓den, ↓denA, Sa, Sb, Sc, Se, O1.d, O2.d, O3.d, cmI, arI, envOf, putN, ↓reduceIte, Nat.reduceLT, Nat.reduceSub, Nat.reduceAdd, Int.reduceAdd, Int.reduceEq, Int.reduceLT, Int.reduceLE, arr_pos, arr_neg, ↓wpJoin, ]
  exact ⟨k, by omega, _, _, ⟨iD (by omega), rfl, rfl⟩, by simp only [List.length_append, List.length_singleton]; omega, by omega, by omega⟩
 | zero =>
  have hvl : 2 ≤ vs.length ∧ vs.length ≤ 3 := by omega
  simp (contextual := true) (maxSteps := 1000000) (disch := omega) only [↓Sd, ↓So, ↓Sk, ↓den, ↓denA, Sa, Sb, Sc, Se, O1.d, O2.d, O3.d, cmI, arI, envOf, putN, ↓reduceIte, Nat.reduceLT, Nat.reduceSub, Nat.reduceAdd, Int.reduceAdd, Int.reduceEq, Int.reduceLT, Int.reduceLE, arr_pos, arr_neg, ]
  refine D_pick1 _ _ _ hb (by omega) (by omega) fun m m0 m1 => ?_; simp (contextual := true) (maxSteps := 1000000) (disch := omega) only [↓Sd, ↓So, ↓Sk, ↓den, ↓denA, Sa, Sb, Sc, Se, O1.d, O2.d, O3.d, cmI, arI, envOf, putN, ↓reduceIte, Nat.reduceLT, Nat.reduceSub, Nat.reduceAdd, Int.reduceAdd, Int.reduceEq, Int.reduceLT, Int.reduceLE, arr_pos, arr_neg, ]
  obtain ⟨N2, hN⟩ : ∃ N2 : Nat, m = N2 := ⟨m.toNat, by omega⟩
  subst hN
  refine mc.lp_inv (fun k us => ∃ (p2 : Int) (R : List Ru), us = [⟨I, (k : Int)⟩, ⟨L U, b⟩, ⟨I, p2⟩, ⟨L V3, vs⟩, ⟨L TR, R⟩] ∧ R.length + k = 2 + N2 ∧ p1 ≤ p2 ∧ p2 + 1000 * k ≤ p1 + 2 + 1000 * (2 + N2) ∧ ∀ r ∈ R, SmRu r) (2 + N2) _ ⟨p1 + 1, [], by simp, by simp, by omega, by omega, by simp⟩ ?_
  rintro k us ⟨p2, R, rfl, j1, j2, j3, j4⟩
  cases k with
  | zero =>
   simp (contextual := true) (maxSteps := 1000000) (disch := omega) only [↓Sd, ↓So, ↓Sk, ↓den, ↓denA, Sa, Sb, Sc, Se, O1.d, O2.d, O3.d, cmI, arI, envOf, putN, ↓reduceIte, Nat.reduceLT, Nat.reduceSub, Nat.reduceAdd, Int.reduceAdd, Int.reduceEq, Int.reduceLT, Int.reduceLE, arr_pos, arr_neg, ]
   exact h (vs, R) p2 (by omega) ⟨by simp only; omega, by simp only; omega, j4⟩
  | succ k =>
   simp (contextual := true) (maxSteps := 1000000) (disch := omega) only [↓Sd, ↓So, ↓Sk, ↓den, ↓denA, Sa, Sb, Sc, Se, O1.d, O2.d, O3.d, cmI, arI, envOf, putN, ↓reduceIte, Nat.reduceLT, Nat.reduceSub, Nat.reduceAdd, Int.reduceAdd, Int.reduceEq, Int.reduceLT, Int.reduceLE, arr_pos, arr_neg, ]
   refine D_pick1 _ _ _ hb (by omega) (by omega) fun x x0 x1 => ?_; simp (contextual := true) (maxSteps := 1000000) (disch := omega) only [↓Sd, ↓So, ↓Sk, ↓den, ↓denA, Sa, Sb, Sc, Se, O1.d, O2.d, O3.d, cmI, arI, envOf, putN, ↓reduceIte, Nat.reduceLT, Nat.reduceSub, Nat.reduceAdd, Int.reduceAdd, Int.reduceEq, Int.reduceLT, Int.reduceLE, arr_pos, arr_neg, ]
   obtain ⟨X, hX⟩ : ∃ X : Nat, x = X := ⟨x.toNat, by omega⟩
   subst hX
   refine D_l2Cond _ _ (vs.getD X (0, 0, 0)) _ hb (by omega) fun w p3 hp3 hw => ?_
   simp (contextual := true) (maxSteps := 1000000) (disch := omega) only [↓Sd, ↓So, ↓Sk, ↓den, ↓denA, Sa, Sb, Sc, Se, O1.d, O2.d, O3.d, cmI, arI, envOf, putN, ↓reduceIte, Nat.reduceLT, Nat.reduceSub, Nat.reduceAdd, Int.reduceAdd, Int.reduceEq, Int.reduceLT, Int.reduceLE, arr_pos, arr_neg, ]
   refine mc.wp_join (fun us => ∃ (p4 : Int) (w : List Tm), us = [⟨I, (k : Int) + 1⟩, ⟨I, (X : Int)⟩, ⟨L U, b⟩, ⟨I, p4⟩, ⟨L V3, vs⟩, ⟨L TR, R⟩, ⟨L T4, w⟩] ∧ p2 ≤ p4 ∧ p4 ≤ p2 + 100 ∧ w.length ≤ 20) ?_ ?_
   ·simp (contextual := true) (maxSteps := 1000000) (disch := omega) only [↓Sd, ↓So, ↓Sk, ↓den, ↓denA, Sa, Sb, Sc, Se, O1.d, O2.d, O3.d, cmI, arI, envOf, putN, ↓reduceIte, Nat.reduceLT, Nat.reduceSub, Nat.reduceAdd, Int.reduceAdd, Int.reduceEq, Int.reduceLT, Int.reduceLE, arr_pos, arr_neg, ]
    refine D_pick1 _ _ _ hb (by omega) (by omega) fun y y0 y1 => ?_; simp (contextual := true) (maxSteps := 1000000) (disch := omega) only [↓Sd, ↓So, ↓Sk, ↓den, ↓denA, Sa, Sb, Sc, Se, O1.d, O2.d, O3.d, cmI, arI, envOf, putN, ↓reduceIte, Nat.reduceLT, Nat.reduceSub, Nat.reduceAdd, Int.reduceAdd, Int.reduceEq, Int.reduceLT, Int.reduceLE, arr_pos, arr_neg, ]
    refine ⟨fun _ => ?_, fun _ => ⟨_, _, ⟨rfl, rfl⟩, by omega, by omega, by omega⟩⟩
    refine D_pick1 _ _ _ hb (by omega) (by omega) fun z z0 z1 => ?_; simp (contextual := true) (maxSteps := 1000000) (disch := omega) only [↓Sd, ↓So, ↓Sk, ↓den, ↓denA, Sa, Sb, Sc, Se, O1.d, O2.d, O3.d, cmI, arI, envOf, putN, ↓reduceIte, Nat.reduceLT, Nat.reduceSub, Nat.reduceAdd, Int.reduceAdd, Int.reduceEq, Int.reduceLT, Int.reduceLE, arr_pos, arr_neg, ]
    obtain ⟨Z, hZ⟩ : ∃ Z : Nat, z = Z := ⟨z.toNat, by omega⟩
    subst hZ
    refine D_l2Cond _ _ (vs.getD Z (0, 0, 0)) _ hb (by omega) fun w2 p4 hp4 hw2 => ?_
    simp (contextual := true) (maxSteps := 1000000) (disch := omega) only [↓Sd, ↓So, ↓Sk, ↓den, ↓denA, Sa, Sb, Sc, Se, O1.d, O2.d, O3.d, cmI, arI, envOf, putN, ↓reduceIte, Nat.reduceLT, Nat.reduceSub, Nat.reduceAdd, Int.reduceAdd, Int.reduceEq, Int.reduceLT, Int.reduceLE, arr_pos, arr_neg, ]
    refine D_Joined _ _ _ _ (by omega) (by omega) fun w3 hw3 => ?_
    simp (contextual := true) (maxSteps := 1000000) (disch := omega) only [↓Sd, ↓So, ↓Sk, ↓den, ↓denA, Sa, Sb, Sc, Se, O1.d, O2.d, O3.d, cmI, arI, envOf, putN, ↓reduceIte, Nat.reduceLT, Nat.reduceSub, Nat.reduceAdd, Int.reduceAdd, Int.reduceEq, Int.reduceLT, Int.reduceLE, arr_pos, arr_neg, ↓wpJoin, ]
    exact ⟨_, _, ⟨rfl, rfl⟩, by omega, by omega, by omega⟩
   ·rintro us ⟨p4, w, rfl, c1, c2, c3⟩
    simp (contextual := true) (maxSteps := 1000000) (disch := omega) only [↓Sd, ↓So, ↓Sk, ↓den, ↓denA, Sa, Sb, Sc, Se, O1.d, O2.d, O3.d, cmI, arI, envOf, putN, ↓reduceIte, Nat.reduceLT, Nat.reduceSub, Nat.reduceAdd, Int.reduceAdd, Int.reduceEq, Int.reduceLT, Int.reduceLE, arr_pos, arr_neg, ]
    have hone : ((vs.take ((X : Int) + 1).toNat).drop X).length = 1 := by rw [List.length_drop, List.length_take]; omega
    refine D_l2Value _ _ _ _ 0 rfl hb (by omega) (by rw [hone]; omega) (by rw [hone]; omega) fun val p5 hp5 hv => ?_
    obtain ⟨O, hO⟩ : ∃ O, R ++ [((w, [(X : Int)], [val]) : Ru)] = O := ⟨_, rfl⟩
    have hOl : O.length = R.length + 1 := by rw [← hO]; simp
    have hOg : O.getD R.length ([], [], []) = (w, [(X : Int)], [val]) := by rw [← hO]; simp
    have hOm : ∀ r ∈ O, SmRu r := by
     rw [← hO]
     intro r hr
     rcases List.mem_append.1 hr with hr | hr
     ·exact j4 r hr
     ·rw [List.mem_singleton.1 hr]
      refine ⟨by simp only; omega, by simp, by simp, fun x hx => ?_⟩
      simp only [List.mem_singleton] at hx
      subst hx; omega
    simp (contextual := true) (maxSteps := 1000000) (disch := omega) only [↓Sd, ↓So, ↓Sk, ↓den, ↓denA, Sa, Sb, Sc, Se, O1.d, O2.d, O3.d, cmI, arI, envOf, putN, ↓reduceIte, Nat.reduceLT, Nat.reduceSub, Nat.reduceAdd, Int.reduceAdd, Int.reduceEq, Int.reduceLT, Int.reduceLE, arr_pos, arr_neg, ↓wpJoin, hO, hOl, hOg]
    refine D_Shifted val 1 _ (by omega) fun sh hsh => ?_
    simp (contextual := true) (maxSteps := 1000000) (disch := omega) only [↓Sd, ↓So, ↓Sk, ↓den, ↓denA, Sa, Sb, Sc, Se, O1.d, O2.d, O3.d, cmI, arI, envOf, putN, ↓reduceIte, Nat.reduceLT, Nat.reduceSub, Nat.reduceAdd, Int.reduceAdd, Int.reduceEq, Int.reduceLT, Int.reduceLE, arr_pos, arr_neg, hO, hOl, hOg]
    refine ⟨k, by omega, p5, O.set R.length (w, [(X : Int)], [sh]), ⟨iD (by omega), rfl, rfl⟩, by rw [List.length_set]; omega, by omega, by omega, fun r hr => ?_⟩
    rcases List.mem_or_eq_of_mem_set hr with hr | hr
    ·exact hOm r hr
    ·rw [hr]
     refine ⟨by simp only; omega, by simp, by simp, fun x hx => ?_⟩
     simp only [List.mem_singleton] at hx
     subst hx; omega
theorem D_l2Some (b : List Int) (p : Int) (s : Sy) (hb : Rdy b) (hp : 0 ≤ p ∧ p ≤ 600000000) (hs : SmSy s) {Q : List AV → Prop} (h : ∀ (l : List Int) (p' : Int), p ≤ p' ∧ p' ≤ p + 100 → l.length ≤ 10 → Q [⟨L I, l⟩, ⟨RD, (b, p')⟩]) : mc.C f_spec_l2Some [⟨RD, (b, p)⟩, ⟨L V3, s.1⟩, ⟨L TR, s.2⟩] Q := by
 have h3 := hs.1
 refine mc.c_of F_spec_l2Some ?_
 simp (contextual := true) (maxSteps := 1000000) (disch := omega) only [↓Sd, ↓So, ↓Sk, ↓den, ↓denA, Sa, Sb, Sc, Se, O1.d, O2.d, O3.d, cmI, arI, envOf, putN, ↓reduceIte, Nat.reduceLT, Nat.reduceSub, Nat.reduceAdd, Int.reduceAdd, Int.reduceEq, Int.reduceLT, Int.reduceLE, arr_pos, arr_neg, tr_spec_l2Some]
 refine mc.lp_for (List Int × Int) (fun i o => [⟨I, (i : Int)⟩, ⟨L U, b⟩, ⟨I, o.2⟩, ⟨L V3, s.1⟩, ⟨L TR, s.2⟩, ⟨L I, o.1⟩]) (fun i o => o.1.length = i ∧ p ≤ o.2 ∧ o.2 ≤ p + 2 * i) s.1.length 0 ([], p) _ rfl (Nat.zero_le _) ⟨rfl, by omega, by omega⟩ ?_ ?_
 ·rintro i ⟨o, p1⟩ hi ⟨e1, e2, e3⟩
  simp only at e1 e2 e3
  simp (contextual := true) (maxSteps := 1000000) (disch := omega) only [↓Sd, ↓So, ↓Sk, ↓den, ↓denA, Sa, Sb, Sc, Se, O1.d, O2.d, O3.d, cmI, arI, envOf, putN, ↓reduceIte, Nat.reduceLT, Nat.reduceSub, Nat.reduceAdd, Int.reduceAdd, Int.reduceEq, Int.reduceLT, Int.reduceLE, arr_pos, arr_neg, ]
  refine mc.wp_join (fun us => ∃ (x p2 : Int), us = [⟨I, (i : Int)⟩, ⟨I, x⟩, ⟨L U, b⟩, ⟨I, p2⟩, ⟨L V3, s.1⟩, ⟨L TR, s.2⟩, ⟨L I, o⟩] ∧ p1 ≤ p2 ∧ p2 ≤ p1 + 2) ?_ ?_
  ·simp (contextual := true) (maxSteps := 1000000) (disch := omega) only [↓Sd, ↓So, ↓Sk, ↓den, ↓denA, Sa, Sb, Sc, Se, O1.d, O2.d, O3.d, cmI, arI, envOf, putN, ↓reduceIte, Nat.reduceLT, Nat.reduceSub, Nat.reduceAdd, Int.reduceAdd, Int.reduceEq, Int.reduceLT, Int.reduceLE, arr_pos, arr_neg, ]
   refine ⟨fun _ => ⟨fun _ => ?_, fun _ => ⟨_, _, ⟨rfl, rfl⟩, by omega, by omega⟩⟩, fun _ => ⟨_, _, ⟨rfl, rfl⟩, by omega, by omega⟩⟩
   refine D_pick _ _ _ hb (by omega) fun v _ _ => ?_
   simp (contextual := true) (maxSteps := 1000000) (disch := omega) only [↓Sd, ↓So, ↓Sk, ↓den, ↓denA, Sa, Sb, Sc, Se, O1.d, O2.d, O3.d, cmI, arI, envOf, putN, ↓reduceIte, Nat.reduceLT, Nat.reduceSub, Nat.reduceAdd, Int.reduceAdd, Int.reduceEq, Int.reduceLT, Int.reduceLE, arr_pos, arr_neg, ]
   exact ⟨_, _, ⟨rfl, rfl⟩, by omega, by omega⟩
  ·rintro us ⟨x, p2, rfl, c1, c2⟩
   simp (contextual := true) (maxSteps := 1000000) (disch := omega) only [↓Sd, ↓So, ↓Sk, ↓den, ↓denA, Sa, Sb, Sc, Se, O1.d, O2.d, O3.d, cmI, arI, envOf, putN, ↓reduceIte, Nat.reduceLT, Nat.reduceSub, Nat.reduceAdd, Int.reduceAdd, Int.reduceEq, Int.reduceLT, Int.reduceLE, arr_pos, arr_neg, ]
   exact ⟨(_, _), ⟨rfl, rfl⟩, by simp [e1], by simp only; omega, by simp only; omega⟩
 ·rintro ⟨o, p1⟩ ⟨e1, e2, e3⟩
  simp only at e1 e2 e3
  simp (contextual := true) (maxSteps := 1000000) (disch := omega) only [↓Sd, ↓So, ↓Sk, ↓den, ↓denA, Sa, Sb, Sc, Se, O1.d, O2.d, O3.d, cmI, arI, envOf, putN, ↓reduceIte, Nat.reduceLT, Nat.reduceSub, Nat.reduceAdd, Int.reduceAdd, Int.reduceEq, Int.reduceLT, Int.reduceLE, arr_pos, arr_neg, ]
  refine mc.wp_join (fun us => ∃ (p2 : Int) (l : List Int), us = [⟨L U, b⟩, ⟨I, p2⟩, ⟨L I, l⟩] ∧ p1 ≤ p2 ∧ p2 ≤ p1 + 10 ∧ l.length ≤ 10) ?_ ?_
  ·simp (contextual := true) (maxSteps := 1000000) (disch := omega) only [↓Sd, ↓So, ↓Sk, ↓den, ↓denA, Sa, Sb, Sc, Se, O1.d, O2.d, O3.d, cmI, arI, envOf, putN, ↓reduceIte, Nat.reduceLT, Nat.reduceSub, Nat.reduceAdd, Int.reduceAdd, Int.reduceEq, Int.reduceLT, Int.reduceLE, arr_pos, arr_neg, ]
   refine D_pick1 _ _ _ hb (by omega) (by omega) fun x x0 x1 => ?_; simp (contextual := true) (maxSteps := 1000000) (disch := omega) only [↓Sd, ↓So, ↓Sk, ↓den, ↓denA, Sa, Sb, Sc, Se, O1.d, O2.d, O3.d, cmI, arI, envOf, putN, ↓reduceIte, Nat.reduceLT, Nat.reduceSub, Nat.reduceAdd, Int.reduceAdd, Int.reduceEq, Int.reduceLT, Int.reduceLE, arr_pos, arr_neg, ]
   refine ⟨fun _ => ?_, fun _ => ⟨_, _, ⟨rfl, rfl⟩, by omega, by omega, by omega⟩⟩
   refine D_pick1 _ _ _ hb (by omega) (by omega) fun y y0 y1 => ?_; simp (contextual := true) (maxSteps := 1000000) (disch := omega) only [↓Sd, ↓So, ↓Sk, ↓den, ↓denA, Sa, Sb, Sc, Se, O1.d, O2.d, O3.d, cmI, arI, envOf, putN, ↓reduceIte, Nat.reduceLT, Nat.reduceSub, Nat.reduceAdd, Int.reduceAdd, Int.reduceEq, Int.reduceLT, Int.reduceLE, arr_pos, arr_neg, ]
   refine ⟨fun _ => ⟨_, _, ⟨rfl, rfl⟩, by omega, by omega, by simp; omega⟩, fun _ => ⟨fun _ => ⟨_, _, ⟨rfl, rfl⟩, by omega, by omega, by simp; omega⟩, fun _ => ⟨_, _, ⟨rfl, rfl⟩, by omega, by omega, by simp; omega⟩⟩⟩
  ·rintro us ⟨p2, l, rfl, c1, c2, c3⟩
   simp (contextual := true) (maxSteps := 1000000) (disch := omega) only [↓Sd, ↓So, ↓Sk, ↓den, ↓denA, Sa, Sb, Sc, Se, O1.d, O2.d, O3.d, cmI, arI, envOf, putN, ↓reduceIte, Nat.reduceLT, Nat.reduceSub, Nat.reduceAdd, Int.reduceAdd, Int.reduceEq, Int.reduceLT, Int.reduceLE, arr_pos, arr_neg, ]
   exact h l p2 (by omega) c3
theorem D_l26Two (b : List Int) (hb : Byt b) (hl : Lt63 b) {Q : List AV → Prop} (h : ∀ (s : Sy) (l : List Int) (i j : Int), SmSy s → l.length ≤ 10 → -1 ≤ i ∧ i ≤ 20 → 0 ≤ j ∧ j ≤ 20 → Q [⟨L V3, s.1⟩, ⟨L TR, s.2⟩, ⟨L I, l⟩, ⟨I, i⟩, ⟨I, j⟩]) : mc.C f_spec_l26Two [⟨L U, b⟩] Q := by
 refine mc.c_of F_spec_l26Two ?_
 simp (contextual := true) (maxSteps := 1000000) (disch := omega) only [↓Sd, ↓So, ↓Sk, ↓den, ↓denA, Sa, Sb, Sc, Se, O1.d, O2.d, O3.d, cmI, arI, envOf, putN, ↓reduceIte, Nat.reduceLT, Nat.reduceSub, Nat.reduceAdd, Int.reduceAdd, Int.reduceEq, Int.reduceLT, Int.reduceLE, arr_pos, arr_neg, tr_spec_l26Two]
 refine D_open b hb hl fun b hb => ?_
 simp (contextual := true) (maxSteps := 1000000) (disch := omega) only [↓Sd, ↓So, ↓Sk, ↓den, ↓denA, Sa, Sb, Sc, Se, O1.d, O2.d, O3.d, cmI, arI, envOf, putN, ↓reduceIte, Nat.reduceLT, Nat.reduceSub, Nat.reduceAdd, Int.reduceAdd, Int.reduceEq, Int.reduceLT, Int.reduceLE, arr_pos, arr_neg, ]
 refine D_l26System _ _ hb (by omega) fun s p1 hp1 hs => ?_
 have h9 := hs.2.1
 simp (contextual := true) (maxSteps := 1000000) (disch := omega) only [↓Sd, ↓So, ↓Sk, ↓den, ↓denA, Sa, Sb, Sc, Se, O1.d, O2.d, O3.d, cmI, arI, envOf, putN, ↓reduceIte, Nat.reduceLT, Nat.reduceSub, Nat.reduceAdd, Int.reduceAdd, Int.reduceEq, Int.reduceLT, Int.reduceLE, arr_pos, arr_neg, ]
 refine D_l2Some _ _ s hb (by omega) hs fun l p2 hp2 hll => ?_
 simp (contextual := true) (maxSteps := 1000000) (disch := omega) only [↓Sd, ↓So, ↓Sk, ↓den, ↓denA, Sa, Sb, Sc, Se, O1.d, O2.d, O3.d, cmI, arI, envOf, putN, ↓reduceIte, Nat.reduceLT, Nat.reduceSub, Nat.reduceAdd, Int.reduceAdd, Int.reduceEq, Int.reduceLT, Int.reduceLE, arr_pos, arr_neg, ]
 refine D_pick1 _ _ _ hb (by omega) (by omega) fun x x0 x1 => ?_; simp (contextual := true) (maxSteps := 1000000) (disch := omega) only [↓Sd, ↓So, ↓Sk, ↓den, ↓denA, Sa, Sb, Sc, Se, O1.d, O2.d, O3.d, cmI, arI, envOf, putN, ↓reduceIte, Nat.reduceLT, Nat.reduceSub, Nat.reduceAdd, Int.reduceAdd, Int.reduceEq, Int.reduceLT, Int.reduceLE, arr_pos, arr_neg, ]
 refine D_pick1 _ _ _ hb (by omega) (by omega) fun y y0 y1 => ?_; simp (contextual := true) (maxSteps := 1000000) (disch := omega) only [↓Sd, ↓So, ↓Sk, ↓den, ↓denA, Sa, Sb, Sc, Se, O1.d, O2.d, O3.d, cmI, arI, envOf, putN, ↓reduceIte, Nat.reduceLT, Nat.reduceSub, Nat.reduceAdd, Int.reduceAdd, Int.reduceEq, Int.reduceLT, Int.reduceLE, arr_pos, arr_neg, ]
 refine D_pick1 _ _ _ hb (by omega) (by omega) fun z z0 z1 => ?_; simp (contextual := true) (maxSteps := 1000000) (disch := omega) only [↓Sd, ↓So, ↓Sk, ↓den, ↓denA, Sa, Sb, Sc, Se, O1.d, O2.d, O3.d, cmI, arI, envOf, putN, ↓reduceIte, Nat.reduceLT, Nat.reduceSub, Nat.reduceAdd, Int.reduceAdd, Int.reduceEq, Int.reduceLT, Int.reduceLE, arr_pos, arr_neg, ]
 simp (contextual := true) (maxSteps := 1000000) (disch := omega) only [↓Sd, ↓So, ↓Sk, ↓den, ↓denA, Sa, Sb, Sc, Se, O1.d, O2.d, O3.d, cmI, arI, envOf, putN, ↓reduceIte, Nat.reduceLT, Nat.reduceSub, Nat.reduceAdd, Int.reduceAdd, Int.reduceEq, Int.reduceLT, Int.reduceLE, arr_pos, arr_neg, ↓wpJoin, ]
 exact h s l _ _ hs hll (by omega) (by omega)
theorem D_DrawStubbornFrom (b : List Int) (hb : Byt b) (hl : Lt63 b) {Q : List AV → Prop} (h : ∀ (s : Sy) (l : List Int) (i : Int), SmSy s → l.length ≤ 10 → -1 ≤ i ∧ i ≤ 20 → Q [⟨L V3, s.1⟩, ⟨L TR, s.2⟩, ⟨L I, l⟩, ⟨I, i⟩]) : mc.C f_spec_DrawStubbornFrom [⟨L U, b⟩] Q := by
 refine mc.c_of F_spec_DrawStubbornFrom ?_
 simp (contextual := true) (maxSteps := 1000000) (disch := omega) only [↓Sd, ↓So, ↓Sk, ↓den, ↓denA, Sa, Sb, Sc, Se, O1.d, O2.d, O3.d, cmI, arI, envOf, putN, ↓reduceIte, Nat.reduceLT, Nat.reduceSub, Nat.reduceAdd, Int.reduceAdd, Int.reduceEq, Int.reduceLT, Int.reduceLE, arr_pos, arr_neg, tr_spec_DrawStubbornFrom]
 refine D_l26Two b hb hl fun s l i j hs hll hi hj => ?_
 simp (contextual := true) (maxSteps := 1000000) (disch := omega) only [↓Sd, ↓So, ↓Sk, ↓den, ↓denA, Sa, Sb, Sc, Se, O1.d, O2.d, O3.d, cmI, arI, envOf, putN, ↓reduceIte, Nat.reduceLT, Nat.reduceSub, Nat.reduceAdd, Int.reduceAdd, Int.reduceEq, Int.reduceLT, Int.reduceLE, arr_pos, arr_neg, ]
 exact h s l i hs hll hi
theorem C_impl_RulesApart_n (s : Sy) (i j : Nat) (hs : FewSy s) (h : valid s) (hi : i < s.2.length) (hj : j < s.2.length) (Q : List AV → Prop) : mc.C f_impl_RulesApart [⟨L V3, s.1⟩, ⟨L TR, s.2⟩, ⟨I, (i : Int)⟩, ⟨I, (j : Int)⟩] Q = Q [⟨B, dB (Apr s i j)⟩] := by
 have hsl : s.2.length ≤ 1048576 := hs.2.1
 refine Mc.Ends.c (mc.ends F_impl_RulesApart ?_)
 simp (contextual := true) (maxSteps := 1000000) (disch := omega) only [↓Sd, ↓So, ↓Sk, ↓den, ↓denA, Sa, Sb, Sc, Se, O1.d, O2.d, O3.d, cmI, arI, envOf, putN, ↓reduceIte, Nat.reduceLT, Nat.reduceSub, Nat.reduceAdd, Int.reduceAdd, Int.reduceEq, Int.reduceLT, Int.reduceLE, arr_pos, arr_neg, tr_impl_RulesApart, C_impl_SystemValid s hs, decide_eq_true h, C_impl_in, decide_eq_true (show 0 ≤ (i : Int) ∧ (i : Int) ≤ (s.2.length : Int) - 1 by omega), decide_eq_true (show 0 ≤ (j : Int) ∧ (j : Int) ≤ (s.2.length : Int) - 1 by omega), C_impl_rulesApart s i j h hi hj]
theorem C_impl_WakersOf_n (s : Sy) (i : Nat) (hs : FewSy s) (h : valid s) (hi : i < s.2.length) (Q : List AV → Prop) : mc.C f_impl_WakersOf [⟨L V3, s.1⟩, ⟨L TR, s.2⟩, ⟨I, (i : Int)⟩] Q = Q [⟨L I, wkL s i⟩] := by
 have hsl : s.2.length ≤ 1048576 := hs.2.1
 refine Mc.Ends.c (mc.ends F_impl_WakersOf ?_)
 simp (contextual := true) (maxSteps := 1000000) (disch := omega) only [↓Sd, ↓So, ↓Sk, ↓den, ↓denA, Sa, Sb, Sc, Se, O1.d, O2.d, O3.d, cmI, arI, envOf, putN, ↓reduceIte, Nat.reduceLT, Nat.reduceSub, Nat.reduceAdd, Int.reduceAdd, Int.reduceEq, Int.reduceLT, Int.reduceLE, arr_pos, arr_neg, tr_impl_WakersOf, C_impl_SystemValid s hs, decide_eq_true h, C_impl_in, decide_eq_true (show 0 ≤ (i : Int) ∧ (i : Int) ≤ (s.2.length : Int) - 1 by omega), C_impl_wakersOf s i h hi]
theorem C_impl_Use_n (s : Sy) (st : List Int) (i : Nat) (hs : FewSy s) (hl : st.length ≤ 1048576) (h : inS s st) (hi : i < s.2.length) (Q : List AV → Prop) : mc.C f_impl_Use [⟨L V3, s.1⟩, ⟨L TR, s.2⟩, ⟨L I, st⟩, ⟨I, (i : Int)⟩] Q = Q [⟨L I, useM s.1 (rl s i) st⟩, ⟨B, abS s st i⟩] := by
 have hsl : s.2.length ≤ 1048576 := hs.2.1
 refine Mc.Ends.c (mc.ends F_impl_Use ?_)
 simp (contextual := true) (maxSteps := 1000000) (disch := omega) only [↓Sd, ↓So, ↓Sk, ↓den, ↓denA, Sa, Sb, Sc, Se, O1.d, O2.d, O3.d, cmI, arI, envOf, putN, ↓reduceIte, Nat.reduceLT, Nat.reduceSub, Nat.reduceAdd, Int.reduceAdd, Int.reduceEq, Int.reduceLT, Int.reduceLE, arr_pos, arr_neg, tr_impl_Use, C_impl_InRange_a s st hs hl, dB_t h, C_impl_in, decide_eq_true (show 0 ≤ (i : Int) ∧ (i : Int) ≤ (s.2.length : Int) - 1 by omega), C_impl_use s st i h.1 h.2 hi]
 exact ⟨rfl, rfl⟩
theorem C_impl_UsableIn_a (s : Sy) (st : List Int) (hs : FewSy s) (hl : st.length ≤ 1048576) (Q : List AV → Prop) : ∃ X : List Int, ((X.length : Int) = 0 ↔ (siL s st).length = 0) ∧ ∀ Q : List AV → Prop, mc.C f_impl_UsableIn [⟨L V3, s.1⟩, ⟨L TR, s.2⟩, ⟨L I, st⟩] Q = Q [⟨L I, X⟩] := by
 by_cases h : inS s st
 ·refine ⟨usb s st, ?_, fun Q => ?_⟩
  ·have hn := @upTo_nil (abS s st) s.2.length
   rw [siL, if_pos h, usb_abS]
   constructor
   ·intro h0
    have : upTo (abS s st) s.2.length = [] := List.eq_nil_of_length_eq_zero (by omega)
    rw [bsL, this]; rfl
   ·intro h0
    cases hx : upTo (abS s st) s.2.length with
    | nil => rfl
    | cons y t =>
     exfalso
     have hmem : ∀ x ∈ upTo (abS s st) s.2.length, ¬ sbL s st x.toNat = [] := fun x hx => by
      obtain ⟨k, h1, rfl, h2⟩ := upTo_mem.1 hx
      rw [Int.toNat_natCast]
      exact sbL_mem h1 h2
     rw [hx] at hmem
     have h1 := hmem y List.mem_cons_self
     have h2 : ¬ (y :: t).foldl (fldS s st) [] = [] := by
      rw [List.foldl_cons]
      refine fld_nil ?_ fun x hx => hmem x (List.mem_cons_of_mem _ hx)
      unfold fldS
      rw [if_pos (.inl rfl)]
      exact h1
     have h3 : bsL s st = (y :: t).foldl (fldS s st) [] := by rw [bsL, hx]; rfl
     rw [h3] at h0
     exact h2 (List.eq_nil_of_length_eq_zero h0)
  ·refine Mc.Ends.c (mc.ends F_impl_UsableIn ?_)
   simp (contextual := true) (maxSteps := 1000000) (disch := omega) only [↓Sd, ↓So, ↓Sk, ↓den, ↓denA, Sa, Sb, Sc, Se, O1.d, O2.d, O3.d, cmI, arI, envOf, putN, ↓reduceIte, Nat.reduceLT, Nat.reduceSub, Nat.reduceAdd, Int.reduceAdd, Int.reduceEq, Int.reduceLT, Int.reduceLE, arr_pos, arr_neg, tr_impl_UsableIn, C_impl_InRange_a s st hs hl, dB_t h, C_impl_usableIn s st h.1 h.2]
 ·refine ⟨[], ?_, fun Q => ?_⟩
  ·rw [siL, if_neg h]; simp
  ·refine Mc.Ends.c (mc.ends F_impl_UsableIn ?_)
   simp (contextual := true) (maxSteps := 1000000) (disch := omega) only [↓Sd, ↓So, ↓Sk, ↓den, ↓denA, Sa, Sb, Sc, Se, O1.d, O2.d, O3.d, cmI, arI, envOf, putN, ↓reduceIte, Nat.reduceLT, Nat.reduceSub, Nat.reduceAdd, Int.reduceAdd, Int.reduceEq, Int.reduceLT, Int.reduceLE, arr_pos, arr_neg, tr_impl_UsableIn, C_impl_InRange_a s st hs hl, dB_f h]
set_option maxHeartbeats 2000000 in
theorem law_FnStubborn (b : List Int) (hb : Byt b) (hl : Lt63 b) : mc.C f_laws_FnStubborn [⟨L U, b⟩] (· = [⟨B, true⟩]) := by
 refine mc.c_of F_laws_FnStubborn ?_
 have h63 := hl
 unfold Lt63 at h63
 simp (contextual := true) (maxSteps := 1000000) (disch := omega) only [↓Sd, ↓So, ↓Sk, ↓den, ↓denA, Sa, Sb, Sc, Se, O1.d, O2.d, O3.d, cmI, arI, envOf, putN, ↓reduceIte, Nat.reduceLT, Nat.reduceSub, Nat.reduceAdd, Int.reduceAdd, Int.reduceEq, Int.reduceLT, Int.reduceLE, arr_pos, arr_neg, tr_laws_FnStubborn]
 intro _
 refine D_DrawStubbornFrom b hb hl fun s st r hs hst hr => ?_
 have hs := hs.few
 have hl : st.length ≤ 1048576 := by omega
 have hsl : s.2.length ≤ 1048576 := hs.2.1
 have h8 := @sfL_len s st r
 have hi8 := @siL_len s st
 obtain ⟨U, hU1, hU2⟩ := C_impl_UsableIn_a s st hs hl (fun _ => True)
 have hmem : ∀ x ∈ sfL s st r, inS s st ∧ ∃ k : Nat, k < s.2.length ∧ x = (k : Int) ∧ frS s st r.toNat k = true := by
  intro x hx
  unfold sfL at hx
  split at hx
  ·rename_i h
   obtain ⟨k, h1, rfl, h2⟩ := upTo_mem.1 hx
   exact ⟨h.1, k, h1, rfl, h2⟩
  ·cases hx
 have hin : ∀ k : Nat, sfK s st r → k < s.2.length → Rc (eS s st) s.2.length r.toNat k → (k : Int) ∈ sfL s st r := fun k h hk hr => by
  unfold sfL
  rw [if_pos h]
  exact upTo_mem.2 ⟨k, hk, rfl, dB_t hr⟩
 have hfr : ∀ x ∈ sfL s st r, sfK s st r := fun x hx => by
  unfold sfL at hx
  split at hx
  ·assumption
  ·cases hx
 obtain ⟨S, hS⟩ : ∃ S, sfL s st r = S := ⟨_, rfl⟩
 rw [hS] at hmem hin hfr h8
 simp (contextual := true) (maxSteps := 1000000) (disch := omega) only [↓Sd, ↓So, ↓Sk, ↓den, ↓denA, Sa, Sb, Sc, Se, O1.d, O2.d, O3.d, cmI, arI, envOf, putN, ↓reduceIte, Nat.reduceLT, Nat.reduceSub, Nat.reduceAdd, Int.reduceAdd, Int.reduceEq, Int.reduceLT, Int.reduceLE, arr_pos, arr_neg, C_impl_StubbornFrom s st r hs hl, C_spec_StubbornFrom s st r hs hl, hS, C_laws_wcInts S S (by omega) (by omega), C_impl_InRange_a s st hs hl, C_spec_InRange_a s st hs hl]
 refine mc.lp_for Unit (fun i _ => [⟨L I, st⟩, ⟨I, r⟩, ⟨I, (S.length : Int)⟩, ⟨I, (i : Int)⟩, ⟨L V3, s.1⟩, ⟨L TR, s.2⟩, ⟨L I, S⟩]) (fun _ _ => True) S.length 0 () _ rfl (Nat.zero_le _) trivial ?_ ?_
 ·rintro i - hi -
  have hxm := getD_mem (d := 0) hi
  obtain ⟨hin0, k, hk, hxk, hfk⟩ := hmem _ hxm
  have hK := hfr _ hxm
  have hrk := dB_iff.1 hfk
  have hwl := @wkL_len s k hin0.1
  simp (contextual := true) (maxSteps := 1000000) (disch := omega) only [↓Sd, ↓So, ↓Sk, ↓den, ↓denA, Sa, Sb, Sc, Se, O1.d, O2.d, O3.d, cmI, arI, envOf, putN, ↓reduceIte, Nat.reduceLT, Nat.reduceSub, Nat.reduceAdd, Int.reduceAdd, Int.reduceEq, Int.reduceLT, Int.reduceLE, arr_pos, arr_neg, hxk, C_impl_Use_n s st k hs hl hin0 hk]
  refine mc.lp_for Unit (fun j _ => [⟨L I, st⟩, ⟨I, r⟩, ⟨I, (k : Int)⟩, ⟨B, abS s st k⟩, ⟨I, (S.length : Int)⟩, ⟨I, (i : Int)⟩, ⟨I, (s.2.length : Int)⟩, ⟨I, (j : Int)⟩, ⟨L V3, s.1⟩, ⟨L TR, s.2⟩, ⟨L I, S⟩]) (fun _ _ => True) s.2.length 0 () _ rfl (Nat.zero_le _) trivial ?_ ?_
  ·rintro j - hj -
   have hstep : eS s st k j = true → dB ((j : Int) ∈ S) = true := fun he => dB_t (hin j hK hj (.step hrk hj he))
   have heS : eS s st k j = bif abS s st k then !dB (Apr s k j) else dB ((j : Int) ∈ wkL s k) := rfl
   cases hab : abS s st k with
   | true =>
    rw [hab] at heS
    simp only [cond_true] at heS
    simp (contextual := true) (maxSteps := 1000000) (disch := omega) only [↓Sd, ↓So, ↓Sk, ↓den, ↓denA, Sa, Sb, Sc, Se, O1.d, O2.d, O3.d, cmI, arI, envOf, putN, ↓reduceIte, Nat.reduceLT, Nat.reduceSub, Nat.reduceAdd, Int.reduceAdd, Int.reduceEq, Int.reduceLT, Int.reduceLE, arr_pos, arr_neg, ↓wpJoin, C_impl_RulesApart_n s k j hs hin0.1 hk hj, C_laws_wcHas S (j : Int) (by omega)]
    intro _ g
    have : eS s st k j = true := by rw [heS]; simpa using g
    have := hstep this
    simp [this]
   | false =>
    rw [hab] at heS
    simp only [cond_false] at heS
    simp (contextual := true) (maxSteps := 1000000) (disch := omega) only [↓Sd, ↓So, ↓Sk, ↓den, ↓denA, Sa, Sb, Sc, Se, O1.d, O2.d, O3.d, cmI, arI, envOf, putN, ↓reduceIte, Nat.reduceLT, Nat.reduceSub, Nat.reduceAdd, Int.reduceAdd, Int.reduceEq, Int.reduceLT, Int.reduceLE, arr_pos, arr_neg, ↓wpJoin, C_impl_WakersOf_n s k hs hin0.1 hk, C_laws_wcHas S (j : Int) (by omega), C_laws_wcHas (wkL s k) (j : Int) (by omega)]
    intro g
    have : eS s st k j = true := by rw [heS]; exact g
    have := hstep this
    simp [this]
  ·rintro - -
   simp (contextual := true) (maxSteps := 1000000) (disch := omega) only [↓Sd, ↓So, ↓Sk, ↓den, ↓denA, Sa, Sb, Sc, Se, O1.d, O2.d, O3.d, cmI, arI, envOf, putN, ↓reduceIte, Nat.reduceLT, Nat.reduceSub, Nat.reduceAdd, Int.reduceAdd, Int.reduceEq, Int.reduceLT, Int.reduceLE, arr_pos, arr_neg, ]
 ·rintro - -
  have hw := C_laws_wcInts (siL s st) (siL s st) (by omega) (by omega)
  have hrm : ¬ (S.length : Int) = 0 → dB (r ∈ S) = true := fun h0 => by
   cases hx : S with
   | nil => rw [hx] at h0; exact absurd rfl h0
   | cons y t =>
    have hK := hfr y (by rw [hx]; exact List.mem_cons_self)
    have := hin r.toNat hK (by have := hK.2; omega) .base
    rw [show ((r.toNat : Nat) : Int) = r by have := hK.2; omega, hx] at this
    exact dB_t this
  simp (contextual := true) (maxSteps := 1000000) (disch := omega) only [↓Sd, ↓So, ↓Sk, ↓den, ↓denA, Sa, Sb, Sc, Se, O1.d, O2.d, O3.d, cmI, arI, envOf, putN, ↓reduceIte, Nat.reduceLT, Nat.reduceSub, Nat.reduceAdd, Int.reduceAdd, Int.reduceEq, Int.reduceLT, Int.reduceLE, arr_pos, arr_neg, C_impl_StubbornIn s st hs hl, C_spec_StubbornIn s st hs hl, hw, hU2, C_laws_wcHas S r (by omega)]
  have hUe : (((siL s st).length : Int) == 0) = ((U.length : Int) == 0) := by
   by_cases g : (U.length : Int) = 0
   ·rw [beq_iff_eq.2 g, beq_iff_eq.2 (by have := hU1.1 g; omega)]
   ·rw [beq_eq_false_iff_ne.2 g, beq_eq_false_iff_ne.2 fun g1 => g (hU1.2 (by omega))]
  exact ⟨fun h0 => hUe, fun h0 => ⟨fun _ => hUe, fun g => g (hrm h0)⟩⟩
end Go.Proofs.YthapopegchnhlabGreat
