/- What the trees come to: plain mathematics; no condition. -/
import Derived.Test.YtifkpliahhodoaaGreatSmMath1
namespace Go.Proofs.YtifkpliahhodoaaGreat
open Go Go.Sm Go.Sm.Q
set_option linter.unusedSimpArgs false
set_option linter.unusedVariables false
set_option maxHeartbeats 8000000 in
theorem C_impl_treeRows (l : List Tm) (T LT : List (List Int)) (n F : Nat) (hn : n ≤ 1048576) (ht : Tbl T n) (hLl : LT.length = n) (hLr : ∀ k, k < n → (LT.getD k []).length = F) (hl : uV l (F : Int)) (Q : List AV → Prop) :
  mc.C f_impl_treeRows [⟨L T4, l⟩, ⟨L (L I), T⟩, ⟨L (L I), LT⟩] Q = Q [⟨L (L B), tab (fun a => tab (trP T n LT l l.length a) n) l.length⟩] := by
 have hT := ht.1
 have hml := hl.2.1
 refine Mc.Ends.c (mc.ends F_impl_treeRows ?_)
 simp (contextual := true) (maxSteps := 1000000) (disch := omega) only [↓Sd, ↓So, ↓Sk, ↓den, ↓denA, Sa, Sb, Sc, Se, O1.d, O2.d, O3.d, cmI, arI, envOf, putN, ↓reduceIte, Nat.reduceLT, Nat.reduceSub, Nat.reduceAdd, Int.reduceAdd, Int.reduceEq, Int.reduceLT, Int.reduceLE, arr_pos, arr_neg, tr_impl_treeRows]
 refine mc.lp_for (List (List Bool)) (fun i o => [⟨L (L I), LT⟩, ⟨L T4, l⟩, ⟨I, (l.length : Int)⟩, ⟨I, (i : Int)⟩, ⟨L (L I), T⟩, ⟨L (L B), o⟩]) (fun i o => o = trO T LT n l i) l.length 0 (List.replicate l.length []) _ rfl (Nat.zero_le _) trO_0 ?_ ?_
 ·rintro i o hi rfl
  have h := hl.2.2 i hi
  have hset := fun row => @trO_set T LT n l i row hi
  have hOl := @trO_len T LT n l i
  have hOg := fun a ha => @trO_get T LT n l i a ha (by omega)
  generalize trO T LT n l i = O at *
  generalize trO T LT n l (i + 1) = On at *
  generalize trP T n LT l i = P at *
  obtain ⟨t, hti⟩ : ∃ t, l.getD i (0, 0, 0, 0) = t := ⟨_, rfl⟩
  have hti' : l.getD i zT = t := hti
  rw [hti'] at h
  simp only [hti'] at hset
  obtain ⟨o, m, x, y⟩ := t
  unfold uO at h
  simp only at h
  rcases h with ⟨rfl, -⟩ | ⟨rfl, h1, h2, -⟩ | ⟨h1, h2, -, h3, h4, h5, h6, -⟩
  ·have e : tab (trR T n LT (0, m, x, y) P) n = tab (fun _ => true) n := tab_congr fun k _ => by simp [trR]
   rw [e] at hset
   simp (contextual := true) (maxSteps := 1000000) (disch := omega) only [↓Sd, ↓So, ↓Sk, ↓den, ↓denA, Sa, Sb, Sc, Se, O1.d, O2.d, O3.d, cmI, arI, envOf, putN, ↓reduceIte, Nat.reduceLT, Nat.reduceSub, Nat.reduceAdd, Int.reduceAdd, Int.reduceEq, Int.reduceLT, Int.reduceLE, arr_pos, arr_neg, ↓wpJoin, hti, hT, hOl, List.length_replicate]
   refine mc.lp_for (List Bool) (fun j o => [⟨L (L I), LT⟩, ⟨I, (i : Int)⟩, ⟨L T4, l⟩, ⟨I, (l.length : Int)⟩, ⟨I, (i : Int)⟩, ⟨I, (n : Int)⟩, ⟨I, (j : Int)⟩, ⟨L (L I), T⟩, ⟨L (L B), O⟩, ⟨I, (i : Int)⟩, ⟨L B, o⟩, ⟨I, (0 : Int)⟩, ⟨I, m⟩, ⟨I, x⟩, ⟨I, y⟩]) (fun j o => o = tab (fun k => if k < j then true else false) n) n 0 (List.replicate n false) _ rfl (Nat.zero_le _) bld_0 ?_ ?_
   ·rintro j o hj rfl
    simp (contextual := true) (maxSteps := 1000000) (disch := omega) only [↓Sd, ↓So, ↓Sk, ↓den, ↓denA, Sa, Sb, Sc, Se, O1.d, O2.d, O3.d, cmI, arI, envOf, putN, ↓reduceIte, Nat.reduceLT, Nat.reduceSub, Nat.reduceAdd, Int.reduceAdd, Int.reduceEq, Int.reduceLT, Int.reduceLE, arr_pos, arr_neg, ↓wpJoin, hT, tab_len, hOl]
    exact bld_s (f := fun _ => true) rfl
   ·rintro o rfl
    rw [bld_n (f := fun _ => true)]
    simp (contextual := true) (maxSteps := 1000000) (disch := omega) only [↓Sd, ↓So, ↓Sk, ↓den, ↓denA, Sa, Sb, Sc, Se, O1.d, O2.d, O3.d, cmI, arI, envOf, putN, ↓reduceIte, Nat.reduceLT, Nat.reduceSub, Nat.reduceAdd, Int.reduceAdd, Int.reduceEq, Int.reduceLT, Int.reduceLE, arr_pos, arr_neg, ↓wpJoin, hT, hOl]
    exact hset _ rfl
  ·have e : tab (trR T n LT (1, m, x, y) P) n = tab (fun k => decide ((LT.getD k []).getD m.toNat 0 = 1)) n := tab_congr fun k _ => by simp [trR]
   rw [e] at hset
   simp (contextual := true) (maxSteps := 1000000) (disch := omega) only [↓Sd, ↓So, ↓Sk, ↓den, ↓denA, Sa, Sb, Sc, Se, O1.d, O2.d, O3.d, cmI, arI, envOf, putN, ↓reduceIte, Nat.reduceLT, Nat.reduceSub, Nat.reduceAdd, Int.reduceAdd, Int.reduceEq, Int.reduceLT, Int.reduceLE, arr_pos, arr_neg, ↓wpJoin, hti, hT, hOl, List.length_replicate]
   refine mc.lp_for (List Bool) (fun j o => [⟨L (L I), LT⟩, ⟨I, (i : Int)⟩, ⟨L T4, l⟩, ⟨I, (l.length : Int)⟩, ⟨I, (i : Int)⟩, ⟨I, (n : Int)⟩, ⟨I, (j : Int)⟩, ⟨L (L I), T⟩, ⟨L (L B), O⟩, ⟨I, (i : Int)⟩, ⟨L B, o⟩, ⟨I, (1 : Int)⟩, ⟨I, m⟩, ⟨I, x⟩, ⟨I, y⟩]) (fun j o => o = tab (fun k => if k < j then decide ((LT.getD k []).getD m.toNat 0 = 1) else false) n) n 0 (List.replicate n false) _ rfl (Nat.zero_le _) bld_0 ?_ ?_
   ·rintro j o hj rfl
    have := hLr j hj
    simp (contextual := true) (maxSteps := 1000000) (disch := omega) only [↓Sd, ↓So, ↓Sk, ↓den, ↓denA, Sa, Sb, Sc, Se, O1.d, O2.d, O3.d, cmI, arI, envOf, putN, ↓reduceIte, Nat.reduceLT, Nat.reduceSub, Nat.reduceAdd, Int.reduceAdd, Int.reduceEq, Int.reduceLT, Int.reduceLE, arr_pos, arr_neg, ↓wpJoin, hT, tab_len, hLl, hOl]
    exact bld_s (f := fun k => decide ((LT.getD k []).getD m.toNat 0 = 1)) rfl
   ·rintro o rfl
    rw [bld_n (f := fun k => decide ((LT.getD k []).getD m.toNat 0 = 1))]
    simp (contextual := true) (maxSteps := 1000000) (disch := omega) only [↓Sd, ↓So, ↓Sk, ↓den, ↓denA, Sa, Sb, Sc, Se, O1.d, O2.d, O3.d, cmI, arI, envOf, putN, ↓reduceIte, Nat.reduceLT, Nat.reduceSub, Nat.reduceAdd, Int.reduceAdd, Int.reduceEq, Int.reduceLT, Int.reduceLE, arr_pos, arr_neg, ↓wpJoin, hT, hOl]
    exact hset _ rfl
  ·obtain ⟨a, rfl⟩ : ∃ a : Nat, x = a := ⟨x.toNat, by omega⟩
   obtain ⟨b, rfl⟩ : ∃ b : Nat, y = b := ⟨y.toNat, by omega⟩
   have ha : a < i := by omega
   have hb : b < i := by omega
   have hga := hOg a ha
   have hgb := hOg b hb
   clear hOg
   obtain ⟨p, hp⟩ : ∃ p, P a = p := ⟨_, rfl⟩
   obtain ⟨q, hq⟩ : ∃ q, P b = q := ⟨_, rfl⟩
   rw [hp] at hga
   rw [hq] at hgb
   have hao : ¬ (a : Int) < 0 := by omega
   have ho : o = 2 ∨ o = 3 ∨ o = 4 ∨ o = 5 ∨ o = 6 ∨ o = 7 ∨ o = 8 ∨ o = 9 ∨ o = 10 := by omega
   rcases ho with rfl | rfl | rfl | rfl | rfl | rfl | rfl | rfl | rfl
   ·simp (contextual := true) (maxSteps := 1000000) (disch := omega) only [↓Sd, ↓So, ↓Sk, ↓den, ↓denA, Sa, Sb, Sc, Se, O1.d, O2.d, O3.d, cmI, arI, envOf, putN, ↓reduceIte, Nat.reduceLT, Nat.reduceSub, Nat.reduceAdd, Int.reduceAdd, Int.reduceEq, Int.reduceLT, Int.reduceLE, arr_pos, arr_neg, ↓wpJoin, hti, hOl, hga, hgb, C_impl_not p n hn]
    exact hset _ (tab_congr fun k _ => by simp [trR, hp])
   ·simp (contextual := true) (maxSteps := 1000000) (disch := omega) only [↓Sd, ↓So, ↓Sk, ↓den, ↓denA, Sa, Sb, Sc, Se, O1.d, O2.d, O3.d, cmI, arI, envOf, putN, ↓reduceIte, Nat.reduceLT, Nat.reduceSub, Nat.reduceAdd, Int.reduceAdd, Int.reduceEq, Int.reduceLT, Int.reduceLE, arr_pos, arr_neg, ↓wpJoin, hti, hOl, hga, hgb, tab_len]
    refine mc.lp_for (List Bool) (fun j o => [⟨L B, tab p n⟩, ⟨L B, tab q n⟩, ⟨I, (n : Int)⟩, ⟨I, (j : Int)⟩, ⟨L (L I), LT⟩, ⟨L T4, l⟩, ⟨I, (l.length : Int)⟩, ⟨I, (i : Int)⟩, ⟨I, (i : Int)⟩, ⟨L B, o⟩, ⟨L (L I), T⟩, ⟨L (L B), O⟩]) (fun j o => o = tab (fun k => if k < j then p k && q k else false) n) n 0 (List.replicate n false) _ rfl (Nat.zero_le _) bld_0 ?_ ?_
    ·rintro j o hj rfl
     simp (contextual := true) (maxSteps := 1000000) (disch := omega) only [↓Sd, ↓So, ↓Sk, ↓den, ↓denA, Sa, Sb, Sc, Se, O1.d, O2.d, O3.d, cmI, arI, envOf, putN, ↓reduceIte, Nat.reduceLT, Nat.reduceSub, Nat.reduceAdd, Int.reduceAdd, Int.reduceEq, Int.reduceLT, Int.reduceLE, arr_pos, arr_neg, ↓wpJoin, tab_len, tab_get hj]
     refine ⟨fun g => bld_s ?_, fun g => bld_s ?_⟩ <;> simp [g]
    ·rintro o rfl
     rw [bld_n]
     simp (contextual := true) (maxSteps := 1000000) (disch := omega) only [↓Sd, ↓So, ↓Sk, ↓den, ↓denA, Sa, Sb, Sc, Se, O1.d, O2.d, O3.d, cmI, arI, envOf, putN, ↓reduceIte, Nat.reduceLT, Nat.reduceSub, Nat.reduceAdd, Int.reduceAdd, Int.reduceEq, Int.reduceLT, Int.reduceLE, arr_pos, arr_neg, ↓wpJoin, tab_len, hOl]
     exact hset _ (tab_congr fun k _ => by simp [trR, hp, hq])
   ·simp (contextual := true) (maxSteps := 1000000) (disch := omega) only [↓Sd, ↓So, ↓Sk, ↓den, ↓denA, Sa, Sb, Sc, Se, O1.d, O2.d, O3.d, cmI, arI, envOf, putN, ↓reduceIte, Nat.reduceLT, Nat.reduceSub, Nat.reduceAdd, Int.reduceAdd, Int.reduceEq, Int.reduceLT, Int.reduceLE, arr_pos, arr_neg, ↓wpJoin, hti, hOl, hga, hgb, tab_len]
    refine mc.lp_for (List Bool) (fun j o => [⟨L B, tab p n⟩, ⟨L B, tab q n⟩, ⟨I, (n : Int)⟩, ⟨I, (j : Int)⟩, ⟨L (L I), LT⟩, ⟨L T4, l⟩, ⟨I, (l.length : Int)⟩, ⟨I, (i : Int)⟩, ⟨I, (i : Int)⟩, ⟨L B, o⟩, ⟨L (L I), T⟩, ⟨L (L B), O⟩]) (fun j o => o = tab (fun k => if k < j then p k || q k else false) n) n 0 (List.replicate n false) _ rfl (Nat.zero_le _) bld_0 ?_ ?_
    ·rintro j o hj rfl
     simp (contextual := true) (maxSteps := 1000000) (disch := omega) only [↓Sd, ↓So, ↓Sk, ↓den, ↓denA, Sa, Sb, Sc, Se, O1.d, O2.d, O3.d, cmI, arI, envOf, putN, ↓reduceIte, Nat.reduceLT, Nat.reduceSub, Nat.reduceAdd, Int.reduceAdd, Int.reduceEq, Int.reduceLT, Int.reduceLE, arr_pos, arr_neg, ↓wpJoin, tab_len, tab_get hj]
     refine ⟨fun g => bld_s ?_, fun g => bld_s ?_⟩ <;> simp [g]
    ·rintro o rfl
     rw [bld_n]
     simp (contextual := true) (maxSteps := 1000000) (disch := omega) only [↓Sd, ↓So, ↓Sk, ↓den, ↓denA, Sa, Sb, Sc, Se, O1.d, O2.d, O3.d, cmI, arI, envOf, putN, ↓reduceIte, Nat.reduceLT, Nat.reduceSub, Nat.reduceAdd, Int.reduceAdd, Int.reduceEq, Int.reduceLT, Int.reduceLE, arr_pos, arr_neg, ↓wpJoin, tab_len, hOl]
     exact hset _ (tab_congr fun k _ => by simp [trR, hp, hq])
   ·simp (contextual := true) (maxSteps := 1000000) (disch := omega) only [↓Sd, ↓So, ↓Sk, ↓den, ↓denA, Sa, Sb, Sc, Se, O1.d, O2.d, O3.d, cmI, arI, envOf, putN, ↓reduceIte, Nat.reduceLT, Nat.reduceSub, Nat.reduceAdd, Int.reduceAdd, Int.reduceEq, Int.reduceLT, Int.reduceLE, arr_pos, arr_neg, ↓wpJoin, hti, hOl, hga, hgb, C_impl_some T p n hn ht]
    exact hset _ (tab_congr fun k _ => by simp [trR, hp])
   ·simp (contextual := true) (maxSteps := 1000000) (disch := omega) only [↓Sd, ↓So, ↓Sk, ↓den, ↓denA, Sa, Sb, Sc, Se, O1.d, O2.d, O3.d, cmI, arI, envOf, putN, ↓reduceIte, Nat.reduceLT, Nat.reduceSub, Nat.reduceAdd, Int.reduceAdd, Int.reduceEq, Int.reduceLT, Int.reduceLE, arr_pos, arr_neg, ↓wpJoin, hti, hOl, hga, hgb]
    have htr : ∀ k, k < n → trR T n LT (6, m, (a : Int), (b : Int)) P k = fuI T n false p q n k := fun k hk => by
     have e1 := @euI_fu T n p q n k hk
     simp [trR, hp, hq, e1]
    refine mc.lp_inv (fun μ us => ∃ j, j ≤ n ∧ μ = n - j ∧ us = [⟨L B, tab (fuI T n false p q j) n⟩, ⟨L (L I), LT⟩, ⟨L T4, l⟩, ⟨I, (l.length : Int)⟩, ⟨I, (i : Int)⟩, ⟨I, (i : Int)⟩, ⟨L (L I), T⟩, ⟨B, false⟩, ⟨L B, tab q n⟩, ⟨L B, tab p n⟩, ⟨L (L B), O⟩]) n _ ⟨0, Nat.zero_le _, rfl, rfl⟩ ?_
    rintro μ us ⟨j, hj, rfl, rfl⟩
    have hfix := @fuI_fix T n false p q
    have hz1 : fuI T n false p q (j + 1) = fun k => q k || (p k && nxB T n false (fuI T n false p q j) k) := funext fun k => rfl
    have hfin : (∀ k, k < n → fuI T n false p q (j + 1) k = fuI T n false p q j k) → tab (fuI T n false p q j) n = tab (trR T n LT (6, m, (a : Int), (b : Int)) P) n := fun hh => tab_congr fun k hk => by rw [htr k hk, hfix.2 j hj hh k hk]
    have hgo : ¬ (∀ k, k < n → fuI T n false p q (j + 1) k = fuI T n false p q j k) → j + 1 ≤ n := fun hh => Classical.byContradiction fun h2 => hh (by
     have : j = n := by omega
     subst this
     exact hfix.1)
    have hnext : ∀ x, x = tab (fuI T n false p q (j + 1)) n → ¬ (∀ k, k < n → fuI T n false p q (j + 1) k = fuI T n false p q j k) → ∃ k', k' < n - j ∧ ∃ j', j' ≤ n ∧ k' = n - j' ∧ x = tab (fuI T n false p q j') n := fun x hx hh => ⟨n - (j + 1), by have := hgo hh; omega, j + 1, hgo hh, rfl, hx⟩
    clear hfix hgo htr
    obtain ⟨z, hz⟩ : ∃ z, fuI T n false p q j = z := ⟨_, rfl⟩
    obtain ⟨ah, hah⟩ : ∃ ah, (aB T n z) = ah := ⟨_, rfl⟩
    have hna : ∀ k, nxB T n false z k = ah k := fun k => by rw [← hah]; simp [nxB]
    obtain ⟨z1, hz1e⟩ : ∃ z1, fuI T n false p q (j + 1) = z1 := ⟨_, rfl⟩
    rw [hz1e] at hfin hnext hz1
    rw [hz] at hfin hnext hz1 ⊢
    simp only [hna] at hz1
    simp (contextual := true) (maxSteps := 1000000) (disch := omega) only [↓Sd, ↓So, ↓Sk, ↓den, ↓denA, Sa, Sb, Sc, Se, O1.d, O2.d, O3.d, cmI, arI, envOf, putN, ↓reduceIte, Nat.reduceLT, Nat.reduceSub, Nat.reduceAdd, Int.reduceAdd, Int.reduceEq, Int.reduceLT, Int.reduceLE, arr_pos, arr_neg, ↓wpJoin, C_impl_some T z n hn ht, tab_len, hah]
    refine mc.lp_for (List Bool) (fun j o => [⟨L B, tab p n⟩, ⟨I, (n : Int)⟩, ⟨I, (j : Int)⟩, ⟨L B, tab q n⟩, ⟨L B, tab z n⟩, ⟨L (L I), LT⟩, ⟨L T4, l⟩, ⟨I, (l.length : Int)⟩, ⟨I, (i : Int)⟩, ⟨I, (i : Int)⟩, ⟨L B, tab ah n⟩, ⟨L B, o⟩, ⟨L (L I), T⟩, ⟨B, false⟩, ⟨L B, tab q n⟩, ⟨L B, tab p n⟩, ⟨L (L B), O⟩]) (fun j o => o = tab (fun k => if k < j then p k && ah k else false) n) n 0 (List.replicate n false) _ rfl (Nat.zero_le _) bld_0 ?_ ?_
    ·rintro j o hj rfl
     simp (contextual := true) (maxSteps := 1000000) (disch := omega) only [↓Sd, ↓So, ↓Sk, ↓den, ↓denA, Sa, Sb, Sc, Se, O1.d, O2.d, O3.d, cmI, arI, envOf, putN, ↓reduceIte, Nat.reduceLT, Nat.reduceSub, Nat.reduceAdd, Int.reduceAdd, Int.reduceEq, Int.reduceLT, Int.reduceLE, arr_pos, arr_neg, ↓wpJoin, tab_len, tab_get hj]
     refine ⟨fun g => bld_s ?_, fun g => bld_s ?_⟩ <;> simp [g]
    rintro o rfl
    rw [bld_n]
    simp (contextual := true) (maxSteps := 1000000) (disch := omega) only [↓Sd, ↓So, ↓Sk, ↓den, ↓denA, Sa, Sb, Sc, Se, O1.d, O2.d, O3.d, cmI, arI, envOf, putN, ↓reduceIte, Nat.reduceLT, Nat.reduceSub, Nat.reduceAdd, Int.reduceAdd, Int.reduceEq, Int.reduceLT, Int.reduceLE, arr_pos, arr_neg, ↓wpJoin, tab_len]
    refine mc.lp_for (List Bool) (fun j o => [⟨L B, tab q n⟩, ⟨I, (n : Int)⟩, ⟨I, (j : Int)⟩, ⟨L B, tab z n⟩, ⟨L (L I), LT⟩, ⟨L T4, l⟩, ⟨I, (l.length : Int)⟩, ⟨I, (i : Int)⟩, ⟨I, (i : Int)⟩, ⟨L B, tab (fun k => p k && ah k) n⟩, ⟨L B, o⟩, ⟨L (L I), T⟩, ⟨B, false⟩, ⟨L B, tab q n⟩, ⟨L B, tab p n⟩, ⟨L (L B), O⟩]) (fun j o => o = tab (fun k => if k < j then q k || (p k && ah k) else false) n) n 0 (List.replicate n false) _ rfl (Nat.zero_le _) bld_0 ?_ ?_
    ·rintro j o hj rfl
     simp (contextual := true) (maxSteps := 1000000) (disch := omega) only [↓Sd, ↓So, ↓Sk, ↓den, ↓denA, Sa, Sb, Sc, Se, O1.d, O2.d, O3.d, cmI, arI, envOf, putN, ↓reduceIte, Nat.reduceLT, Nat.reduceSub, Nat.reduceAdd, Int.reduceAdd, Int.reduceEq, Int.reduceLT, Int.reduceLE, arr_pos, arr_neg, ↓wpJoin, tab_len, tab_get hj]
     refine ⟨fun g => bld_s ?_, fun g => bld_s ?_⟩ <;> simp [g]
    rintro o rfl
    rw [bld_n, ← hz1]
    simp (contextual := true) (maxSteps := 1000000) (disch := omega) only [↓Sd, ↓So, ↓Sk, ↓den, ↓denA, Sa, Sb, Sc, Se, O1.d, O2.d, O3.d, cmI, arI, envOf, putN, ↓reduceIte, Nat.reduceLT, Nat.reduceSub, Nat.reduceAdd, Int.reduceAdd, Int.reduceEq, Int.reduceLT, Int.reduceLE, arr_pos, arr_neg, ↓wpJoin, tab_len, C_slices_Equal_b z1 z n hn, hOl, decide_eq_true_eq]
    exact ⟨fun g => hset _ (hfin g), fun g => hnext _ rfl g⟩
   ·simp (contextual := true) (maxSteps := 1000000) (disch := omega) only [↓Sd, ↓So, ↓Sk, ↓den, ↓denA, Sa, Sb, Sc, Se, O1.d, O2.d, O3.d, cmI, arI, envOf, putN, ↓reduceIte, Nat.reduceLT, Nat.reduceSub, Nat.reduceAdd, Int.reduceAdd, Int.reduceEq, Int.reduceLT, Int.reduceLE, arr_pos, arr_neg, ↓wpJoin, hti, hOl, hga, hgb]
    have htr : ∀ k, k < n → trR T n LT (7, m, (a : Int), (b : Int)) P k = gaI T n false p n k := fun k hk => by
     have e1 := @egI_ga T n p n k hk
     simp [trR, hp, e1]
    refine mc.lp_inv (fun μ us => ∃ j, j ≤ n ∧ μ = n - j ∧ us = [⟨L B, tab (gaI T n false p j) n⟩, ⟨L (L I), LT⟩, ⟨L T4, l⟩, ⟨I, (l.length : Int)⟩, ⟨I, (i : Int)⟩, ⟨I, (i : Int)⟩, ⟨L (L I), T⟩, ⟨B, false⟩, ⟨L B, tab p n⟩, ⟨L (L B), O⟩]) n _ ⟨0, Nat.zero_le _, rfl, rfl⟩ ?_
    rintro μ us ⟨j, hj, rfl, rfl⟩
    have hfix := @gaI_fix T n false p
    have hz1 : gaI T n false p (j + 1) = fun k => p k && nxB T n false (gaI T n false p j) k := funext fun k => rfl
    have hfin : (∀ k, k < n → gaI T n false p (j + 1) k = gaI T n false p j k) → tab (gaI T n false p j) n = tab (trR T n LT (7, m, (a : Int), (b : Int)) P) n := fun hh => tab_congr fun k hk => by rw [htr k hk, hfix.2 j hj hh k hk]
    have hgo : ¬ (∀ k, k < n → gaI T n false p (j + 1) k = gaI T n false p j k) → j + 1 ≤ n := fun hh => Classical.byContradiction fun h2 => hh (by
     have : j = n := by omega
     subst this
     exact hfix.1)
    have hnext : ∀ x, x = tab (gaI T n false p (j + 1)) n → ¬ (∀ k, k < n → gaI T n false p (j + 1) k = gaI T n false p j k) → ∃ k', k' < n - j ∧ ∃ j', j' ≤ n ∧ k' = n - j' ∧ x = tab (gaI T n false p j') n := fun x hx hh => ⟨n - (j + 1), by have := hgo hh; omega, j + 1, hgo hh, rfl, hx⟩
    clear hfix hgo htr
    obtain ⟨z, hz⟩ : ∃ z, gaI T n false p j = z := ⟨_, rfl⟩
    obtain ⟨ah, hah⟩ : ∃ ah, (aB T n z) = ah := ⟨_, rfl⟩
    have hna : ∀ k, nxB T n false z k = ah k := fun k => by rw [← hah]; simp [nxB]
    obtain ⟨z1, hz1e⟩ : ∃ z1, gaI T n false p (j + 1) = z1 := ⟨_, rfl⟩
    rw [hz1e] at hfin hnext hz1
    rw [hz] at hfin hnext hz1 ⊢
    simp only [hna] at hz1
    simp (contextual := true) (maxSteps := 1000000) (disch := omega) only [↓Sd, ↓So, ↓Sk, ↓den, ↓denA, Sa, Sb, Sc, Se, O1.d, O2.d, O3.d, cmI, arI, envOf, putN, ↓reduceIte, Nat.reduceLT, Nat.reduceSub, Nat.reduceAdd, Int.reduceAdd, Int.reduceEq, Int.reduceLT, Int.reduceLE, arr_pos, arr_neg, ↓wpJoin, C_impl_some T z n hn ht, tab_len, hah]
    refine mc.lp_for (List Bool) (fun j o => [⟨L B, tab p n⟩, ⟨I, (n : Int)⟩, ⟨I, (j : Int)⟩, ⟨L B, tab z n⟩, ⟨L (L I), LT⟩, ⟨L T4, l⟩, ⟨I, (l.length : Int)⟩, ⟨I, (i : Int)⟩, ⟨I, (i : Int)⟩, ⟨L B, tab ah n⟩, ⟨L B, o⟩, ⟨L (L I), T⟩, ⟨B, false⟩, ⟨L B, tab p n⟩, ⟨L (L B), O⟩]) (fun j o => o = tab (fun k => if k < j then p k && ah k else false) n) n 0 (List.replicate n false) _ rfl (Nat.zero_le _) bld_0 ?_ ?_
    ·rintro j o hj rfl
     simp (contextual := true) (maxSteps := 1000000) (disch := omega) only [↓Sd, ↓So, ↓Sk, ↓den, ↓denA, Sa, Sb, Sc, Se, O1.d, O2.d, O3.d, cmI, arI, envOf, putN, ↓reduceIte, Nat.reduceLT, Nat.reduceSub, Nat.reduceAdd, Int.reduceAdd, Int.reduceEq, Int.reduceLT, Int.reduceLE, arr_pos, arr_neg, ↓wpJoin, tab_len, tab_get hj]
     refine ⟨fun g => bld_s ?_, fun g => bld_s ?_⟩ <;> simp [g]
    rintro o rfl
    rw [bld_n, ← hz1]
    simp (contextual := true) (maxSteps := 1000000) (disch := omega) only [↓Sd, ↓So, ↓Sk, ↓den, ↓denA, Sa, Sb, Sc, Se, O1.d, O2.d, O3.d, cmI, arI, envOf, putN, ↓reduceIte, Nat.reduceLT, Nat.reduceSub, Nat.reduceAdd, Int.reduceAdd, Int.reduceEq, Int.reduceLT, Int.reduceLE, arr_pos, arr_neg, ↓wpJoin, tab_len, C_slices_Equal_b z1 z n hn, hOl, decide_eq_true_eq]
    exact ⟨fun g => hset _ (hfin g), fun g => hnext _ rfl g⟩
   ·simp (contextual := true) (maxSteps := 1000000) (disch := omega) only [↓Sd, ↓So, ↓Sk, ↓den, ↓denA, Sa, Sb, Sc, Se, O1.d, O2.d, O3.d, cmI, arI, envOf, putN, ↓reduceIte, Nat.reduceLT, Nat.reduceSub, Nat.reduceAdd, Int.reduceAdd, Int.reduceEq, Int.reduceLT, Int.reduceLE, arr_pos, arr_neg, ↓wpJoin, hti, hOl, hga, hgb, C_impl_not p n hn, C_impl_some T (fun k => !p k) n hn ht, C_impl_not (aB T n fun k => !p k) n hn]
    exact hset _ (tab_congr fun k _ => by simp [trR, hp])
   ·simp (contextual := true) (maxSteps := 1000000) (disch := omega) only [↓Sd, ↓So, ↓Sk, ↓den, ↓denA, Sa, Sb, Sc, Se, O1.d, O2.d, O3.d, cmI, arI, envOf, putN, ↓reduceIte, Nat.reduceLT, Nat.reduceSub, Nat.reduceAdd, Int.reduceAdd, Int.reduceEq, Int.reduceLT, Int.reduceLE, arr_pos, arr_neg, ↓wpJoin, hti, hOl, hga, hgb]
    have htr : ∀ k, k < n → trR T n LT (9, m, (a : Int), (b : Int)) P k = fuI T n true p q n k := fun k hk => by
     have e1 := @auS_fu T n p q k hk
     simp [trR, hp, hq, ← e1]
    refine mc.lp_inv (fun μ us => ∃ j, j ≤ n ∧ μ = n - j ∧ us = [⟨L B, tab (fuI T n true p q j) n⟩, ⟨L (L I), LT⟩, ⟨L T4, l⟩, ⟨I, (l.length : Int)⟩, ⟨I, (i : Int)⟩, ⟨I, (i : Int)⟩, ⟨L (L I), T⟩, ⟨B, true⟩, ⟨L B, tab q n⟩, ⟨L B, tab p n⟩, ⟨L (L B), O⟩]) n _ ⟨0, Nat.zero_le _, rfl, rfl⟩ ?_
    rintro μ us ⟨j, hj, rfl, rfl⟩
    have hfix := @fuI_fix T n true p q
    have hz1 : fuI T n true p q (j + 1) = fun k => q k || (p k && nxB T n true (fuI T n true p q j) k) := funext fun k => rfl
    have hfin : (∀ k, k < n → fuI T n true p q (j + 1) k = fuI T n true p q j k) → tab (fuI T n true p q j) n = tab (trR T n LT (9, m, (a : Int), (b : Int)) P) n := fun hh => tab_congr fun k hk => by rw [htr k hk, hfix.2 j hj hh k hk]
    have hgo : ¬ (∀ k, k < n → fuI T n true p q (j + 1) k = fuI T n true p q j k) → j + 1 ≤ n := fun hh => Classical.byContradiction fun h2 => hh (by
     have : j = n := by omega
     subst this
     exact hfix.1)
    have hnext : ∀ x, x = tab (fuI T n true p q (j + 1)) n → ¬ (∀ k, k < n → fuI T n true p q (j + 1) k = fuI T n true p q j k) → ∃ k', k' < n - j ∧ ∃ j', j' ≤ n ∧ k' = n - j' ∧ x = tab (fuI T n true p q j') n := fun x hx hh => ⟨n - (j + 1), by have := hgo hh; omega, j + 1, hgo hh, rfl, hx⟩
    clear hfix hgo htr
    obtain ⟨z, hz⟩ : ∃ z, fuI T n true p q j = z := ⟨_, rfl⟩
    obtain ⟨ah, hah⟩ : ∃ ah, (fun k => !aB T n (fun k => !z k) k) = ah := ⟨_, rfl⟩
    have hna : ∀ k, nxB T n true z k = ah k := fun k => by rw [← hah]; simp [nxB]
    obtain ⟨z1, hz1e⟩ : ∃ z1, fuI T n true p q (j + 1) = z1 := ⟨_, rfl⟩
    rw [hz1e] at hfin hnext hz1
    rw [hz] at hfin hnext hz1 ⊢
    simp only [hna] at hz1
    simp (contextual := true) (maxSteps := 1000000) (disch := omega) only [↓Sd, ↓So, ↓Sk, ↓den, ↓denA, Sa, Sb, Sc, Se, O1.d, O2.d, O3.d, cmI, arI, envOf, putN, ↓reduceIte, Nat.reduceLT, Nat.reduceSub, Nat.reduceAdd, Int.reduceAdd, Int.reduceEq, Int.reduceLT, Int.reduceLE, arr_pos, arr_neg, ↓wpJoin, C_impl_some T z n hn ht, C_impl_not z n hn, C_impl_some T (fun k => !z k) n hn ht, C_impl_not (aB T n fun k => !z k) n hn, tab_len, hah]
    refine mc.lp_for (List Bool) (fun j o => [⟨L B, tab p n⟩, ⟨I, (n : Int)⟩, ⟨I, (j : Int)⟩, ⟨L B, tab q n⟩, ⟨L B, tab z n⟩, ⟨L (L I), LT⟩, ⟨L T4, l⟩, ⟨I, (l.length : Int)⟩, ⟨I, (i : Int)⟩, ⟨I, (i : Int)⟩, ⟨L B, tab ah n⟩, ⟨L B, o⟩, ⟨L (L I), T⟩, ⟨B, true⟩, ⟨L B, tab q n⟩, ⟨L B, tab p n⟩, ⟨L (L B), O⟩]) (fun j o => o = tab (fun k => if k < j then p k && ah k else false) n) n 0 (List.replicate n false) _ rfl (Nat.zero_le _) bld_0 ?_ ?_
    ·rintro j o hj rfl
     simp (contextual := true) (maxSteps := 1000000) (disch := omega) only [↓Sd, ↓So, ↓Sk, ↓den, ↓denA, Sa, Sb, Sc, Se, O1.d, O2.d, O3.d, cmI, arI, envOf, putN, ↓reduceIte, Nat.reduceLT, Nat.reduceSub, Nat.reduceAdd, Int.reduceAdd, Int.reduceEq, Int.reduceLT, Int.reduceLE, arr_pos, arr_neg, ↓wpJoin, tab_len, tab_get hj]
     refine ⟨fun g => bld_s ?_, fun g => bld_s ?_⟩ <;> simp [g]
    rintro o rfl
    rw [bld_n]
    simp (contextual := true) (maxSteps := 1000000) (disch := omega) only [↓Sd, ↓So, ↓Sk, ↓den, ↓denA, Sa, Sb, Sc, Se, O1.d, O2.d, O3.d, cmI, arI, envOf, putN, ↓reduceIte, Nat.reduceLT, Nat.reduceSub, Nat.reduceAdd, Int.reduceAdd, Int.reduceEq, Int.reduceLT, Int.reduceLE, arr_pos, arr_neg, ↓wpJoin, tab_len]
    refine mc.lp_for (List Bool) (fun j o => [⟨L B, tab q n⟩, ⟨I, (n : Int)⟩, ⟨I, (j : Int)⟩, ⟨L B, tab z n⟩, ⟨L (L I), LT⟩, ⟨L T4, l⟩, ⟨I, (l.length : Int)⟩, ⟨I, (i : Int)⟩, ⟨I, (i : Int)⟩, ⟨L B, tab (fun k => p k && ah k) n⟩, ⟨L B, o⟩, ⟨L (L I), T⟩, ⟨B, true⟩, ⟨L B, tab q n⟩, ⟨L B, tab p n⟩, ⟨L (L B), O⟩]) (fun j o => o = tab (fun k => if k < j then q k || (p k && ah k) else false) n) n 0 (List.replicate n false) _ rfl (Nat.zero_le _) bld_0 ?_ ?_
    ·rintro j o hj rfl
     simp (contextual := true) (maxSteps := 1000000) (disch := omega) only [↓Sd, ↓So, ↓Sk, ↓den, ↓denA, Sa, Sb, Sc, Se, O1.d, O2.d, O3.d, cmI, arI, envOf, putN, ↓reduceIte, Nat.reduceLT, Nat.reduceSub, Nat.reduceAdd, Int.reduceAdd, Int.reduceEq, Int.reduceLT, Int.reduceLE, arr_pos, arr_neg, ↓wpJoin, tab_len, tab_get hj]
     refine ⟨fun g => bld_s ?_, fun g => bld_s ?_⟩ <;> simp [g]
    rintro o rfl
    rw [bld_n, ← hz1]
    simp (contextual := true) (maxSteps := 1000000) (disch := omega) only [↓Sd, ↓So, ↓Sk, ↓den, ↓denA, Sa, Sb, Sc, Se, O1.d, O2.d, O3.d, cmI, arI, envOf, putN, ↓reduceIte, Nat.reduceLT, Nat.reduceSub, Nat.reduceAdd, Int.reduceAdd, Int.reduceEq, Int.reduceLT, Int.reduceLE, arr_pos, arr_neg, ↓wpJoin, tab_len, C_slices_Equal_b z1 z n hn, hOl, decide_eq_true_eq]
    exact ⟨fun g => hset _ (hfin g), fun g => hnext _ rfl g⟩
   ·simp (contextual := true) (maxSteps := 1000000) (disch := omega) only [↓Sd, ↓So, ↓Sk, ↓den, ↓denA, Sa, Sb, Sc, Se, O1.d, O2.d, O3.d, cmI, arI, envOf, putN, ↓reduceIte, Nat.reduceLT, Nat.reduceSub, Nat.reduceAdd, Int.reduceAdd, Int.reduceEq, Int.reduceLT, Int.reduceLE, arr_pos, arr_neg, ↓wpJoin, hti, hOl, hga, hgb]
    have htr : ∀ k, k < n → trR T n LT (10, m, (a : Int), (b : Int)) P k = gaI T n true p n k := fun k hk => by
     have e1 := @gaI_all T n p n k hk
     have e2 := @euI_fu T n (fun _ => true) (fun k => !p k) n k hk
     simp [trR, hp, e1, e2]
    refine mc.lp_inv (fun μ us => ∃ j, j ≤ n ∧ μ = n - j ∧ us = [⟨L B, tab (gaI T n true p j) n⟩, ⟨L (L I), LT⟩, ⟨L T4, l⟩, ⟨I, (l.length : Int)⟩, ⟨I, (i : Int)⟩, ⟨I, (i : Int)⟩, ⟨L (L I), T⟩, ⟨B, true⟩, ⟨L B, tab p n⟩, ⟨L (L B), O⟩]) n _ ⟨0, Nat.zero_le _, rfl, rfl⟩ ?_
    rintro μ us ⟨j, hj, rfl, rfl⟩
    have hfix := @gaI_fix T n true p
    have hz1 : gaI T n true p (j + 1) = fun k => p k && nxB T n true (gaI T n true p j) k := funext fun k => rfl
    have hfin : (∀ k, k < n → gaI T n true p (j + 1) k = gaI T n true p j k) → tab (gaI T n true p j) n = tab (trR T n LT (10, m, (a : Int), (b : Int)) P) n := fun hh => tab_congr fun k hk => by rw [htr k hk, hfix.2 j hj hh k hk]
    have hgo : ¬ (∀ k, k < n → gaI T n true p (j + 1) k = gaI T n true p j k) → j + 1 ≤ n := fun hh => Classical.byContradiction fun h2 => hh (by
     have : j = n := by omega
     subst this
     exact hfix.1)
    have hnext : ∀ x, x = tab (gaI T n true p (j + 1)) n → ¬ (∀ k, k < n → gaI T n true p (j + 1) k = gaI T n true p j k) → ∃ k', k' < n - j ∧ ∃ j', j' ≤ n ∧ k' = n - j' ∧ x = tab (gaI T n true p j') n := fun x hx hh => ⟨n - (j + 1), by have := hgo hh; omega, j + 1, hgo hh, rfl, hx⟩
    clear hfix hgo htr
    obtain ⟨z, hz⟩ : ∃ z, gaI T n true p j = z := ⟨_, rfl⟩
    obtain ⟨ah, hah⟩ : ∃ ah, (fun k => !aB T n (fun k => !z k) k) = ah := ⟨_, rfl⟩
    have hna : ∀ k, nxB T n true z k = ah k := fun k => by rw [← hah]; simp [nxB]
    obtain ⟨z1, hz1e⟩ : ∃ z1, gaI T n true p (j + 1) = z1 := ⟨_, rfl⟩
    rw [hz1e] at hfin hnext hz1
    rw [hz] at hfin hnext hz1 ⊢
    simp only [hna] at hz1
    simp (contextual := true) (maxSteps := 1000000) (disch := omega) only [↓Sd, ↓So, ↓Sk, ↓den, ↓denA, Sa, Sb, Sc, Se, O1.d, O2.d, O3.d, cmI, arI, envOf, putN, ↓reduceIte, Nat.reduceLT, Nat.reduceSub, Nat.reduceAdd, Int.reduceAdd, Int.reduceEq, Int.reduceLT, Int.reduceLE, arr_pos, arr_neg, ↓wpJoin, C_impl_some T z n hn ht, C_impl_not z n hn, C_impl_some T (fun k => !z k) n hn ht, C_impl_not (aB T n fun k => !z k) n hn, tab_len, hah]
    refine mc.lp_for (List Bool) (fun j o => [⟨L B, tab p n⟩, ⟨I, (n : Int)⟩, ⟨I, (j : Int)⟩, ⟨L B, tab z n⟩, ⟨L (L I), LT⟩, ⟨L T4, l⟩, ⟨I, (l.length : Int)⟩, ⟨I, (i : Int)⟩, ⟨I, (i : Int)⟩, ⟨L B, tab ah n⟩, ⟨L B, o⟩, ⟨L (L I), T⟩, ⟨B, true⟩, ⟨L B, tab p n⟩, ⟨L (L B), O⟩]) (fun j o => o = tab (fun k => if k < j then p k && ah k else false) n) n 0 (List.replicate n false) _ rfl (Nat.zero_le _) bld_0 ?_ ?_
    ·rintro j o hj rfl
     simp (contextual := true) (maxSteps := 1000000) (disch := omega) only [↓Sd, ↓So, ↓Sk, ↓den, ↓denA, Sa, Sb, Sc, Se, O1.d, O2.d, O3.d, cmI, arI, envOf, putN, ↓reduceIte, Nat.reduceLT, Nat.reduceSub, Nat.reduceAdd, Int.reduceAdd, Int.reduceEq, Int.reduceLT, Int.reduceLE, arr_pos, arr_neg, ↓wpJoin, tab_len, tab_get hj]
     refine ⟨fun g => bld_s ?_, fun g => bld_s ?_⟩ <;> simp [g]
    rintro o rfl
    rw [bld_n, ← hz1]
    simp (contextual := true) (maxSteps := 1000000) (disch := omega) only [↓Sd, ↓So, ↓Sk, ↓den, ↓denA, Sa, Sb, Sc, Se, O1.d, O2.d, O3.d, cmI, arI, envOf, putN, ↓reduceIte, Nat.reduceLT, Nat.reduceSub, Nat.reduceAdd, Int.reduceAdd, Int.reduceEq, Int.reduceLT, Int.reduceLE, arr_pos, arr_neg, ↓wpJoin, tab_len, C_slices_Equal_b z1 z n hn, hOl, decide_eq_true_eq]
    exact ⟨fun g => hset _ (hfin g), fun g => hnext _ rfl g⟩
 ·rintro o rfl
  rw [trO_n]
  simp (contextual := true) (maxSteps := 1000000) (disch := omega) only [↓Sd, ↓So, ↓Sk, ↓den, ↓denA, Sa, Sb, Sc, Se, O1.d, O2.d, O3.d, cmI, arI, envOf, putN, ↓reduceIte, Nat.reduceLT, Nat.reduceSub, Nat.reduceAdd, Int.reduceAdd, Int.reduceEq, Int.reduceLT, Int.reduceLE, arr_pos, arr_neg, ]
theorem sz_TreeS (l : List Tm) (n : Int) (hn : 0 ≤ n ∧ n ≤ 1048576) (hl : Lt63 l) {Q : List AV → Prop} (h : ∀ k : Int, k ≤ n → (0 ≤ k → Few l) → Q [⟨I, k⟩]) : mc.C f_laws_szTreeS [⟨L T4, l⟩, ⟨I, n⟩] Q := by
 unfold Lt63 at hl
 rw [Mc.Ends.c (outs := [⟨I, if n - l.length < 0 then -1 else n - l.length⟩]) (mc.ends F_laws_szTreeS (by simp (contextual := true) (maxSteps := 1000000) (disch := omega) only [↓Sd, ↓So, ↓Sk, ↓den, ↓denA, Sa, Sb, Sc, Se, O1.d, O2.d, O3.d, cmI, arI, envOf, putN, ↓reduceIte, Nat.reduceLT, Nat.reduceSub, Nat.reduceAdd, Int.reduceAdd, Int.reduceEq, Int.reduceLT, Int.reduceLE, arr_pos, arr_neg, tr_laws_szTreeS] <;> grind))]
 exact h _ (by split <;> omega) (by unfold Few; split <;> omega)
theorem to_Tree (v : Tm) (Q : List AV → Prop) : mc.C f_laws_toTree [⟨I, v.1⟩, ⟨I, v.2.1⟩, ⟨I, v.2.2.1⟩, ⟨I, v.2.2.2⟩] Q = Q [⟨I, v.1⟩, ⟨I, v.2.1⟩, ⟨I, v.2.2.1⟩, ⟨I, v.2.2.2⟩] :=
 Mc.Ends.c (mc.ends F_laws_toTree (by simp (contextual := true) (maxSteps := 1000000) (disch := omega) only [↓Sd, ↓So, ↓Sk, ↓den, ↓denA, Sa, Sb, Sc, Se, O1.d, O2.d, O3.d, cmI, arI, envOf, putN, ↓reduceIte, Nat.reduceLT, Nat.reduceSub, Nat.reduceAdd, Int.reduceAdd, Int.reduceEq, Int.reduceLT, Int.reduceLE, arr_pos, arr_neg, tr_laws_toTree]))
theorem to_TreeS (l : List Tm) (h : Few l) (Q : List AV → Prop) : mc.C f_laws_toTreeS [⟨L T4, l⟩] Q = Q [⟨L T4, l⟩] := by
 have := few_lim h
 refine Mc.Ends.c (mc.ends F_laws_toTreeS ?_)
 simp (contextual := true) (maxSteps := 1000000) (disch := omega) only [↓Sd, ↓So, ↓Sk, ↓den, ↓denA, Sa, Sb, Sc, Se, O1.d, O2.d, O3.d, cmI, arI, envOf, putN, ↓reduceIte, Nat.reduceLT, Nat.reduceSub, Nat.reduceAdd, Int.reduceAdd, Int.reduceEq, Int.reduceLT, Int.reduceLE, arr_pos, arr_neg, tr_laws_toTreeS]
 refine lp_copy T4 l ?_ ?_
 ·intro i s hi hs
  simp (contextual := true) (maxSteps := 1000000) (disch := omega) only [↓Sd, ↓So, ↓Sk, ↓den, ↓denA, Sa, Sb, Sc, Se, O1.d, O2.d, O3.d, cmI, arI, envOf, putN, ↓reduceIte, Nat.reduceLT, Nat.reduceSub, Nat.reduceAdd, Int.reduceAdd, Int.reduceEq, Int.reduceLT, Int.reduceLE, arr_pos, arr_neg, to_Tree]
 ·simp (contextual := true) (maxSteps := 1000000) (disch := omega) only [↓Sd, ↓So, ↓Sk, ↓den, ↓denA, Sa, Sb, Sc, Se, O1.d, O2.d, O3.d, cmI, arI, envOf, putN, ↓reduceIte, Nat.reduceLT, Nat.reduceSub, Nat.reduceAdd, Int.reduceAdd, Int.reduceEq, Int.reduceLT, Int.reduceLE, arr_pos, arr_neg, ]
theorem eq_Tree (v : Tm) (Q : List AV → Prop) : mc.C f_laws_eqTree [⟨I, v.1⟩, ⟨I, v.2.1⟩, ⟨I, v.2.2.1⟩, ⟨I, v.2.2.2⟩, ⟨I, v.1⟩, ⟨I, v.2.1⟩, ⟨I, v.2.2.1⟩, ⟨I, v.2.2.2⟩] Q = Q [⟨B, true⟩] :=
 Mc.Ends.c (mc.ends F_laws_eqTree (by simp (contextual := true) (maxSteps := 1000000) (disch := omega) only [↓Sd, ↓So, ↓Sk, ↓den, ↓denA, Sa, Sb, Sc, Se, O1.d, O2.d, O3.d, cmI, arI, envOf, putN, ↓reduceIte, Nat.reduceLT, Nat.reduceSub, Nat.reduceAdd, Int.reduceAdd, Int.reduceEq, Int.reduceLT, Int.reduceLE, arr_pos, arr_neg, tr_laws_eqTree]))
theorem eq_TreeS (l : List Tm) (h : Few l) (Q : List AV → Prop) : mc.C f_laws_eqTreeS [⟨L T4, l⟩, ⟨L T4, l⟩] Q = Q [⟨B, true⟩] := by
 have := few_lim h
 refine Mc.Ends.c (mc.ends F_laws_eqTreeS ?_)
 simp (contextual := true) (maxSteps := 1000000) (disch := omega) only [↓Sd, ↓So, ↓Sk, ↓den, ↓denA, Sa, Sb, Sc, Se, O1.d, O2.d, O3.d, cmI, arI, envOf, putN, ↓reduceIte, Nat.reduceLT, Nat.reduceSub, Nat.reduceAdd, Int.reduceAdd, Int.reduceEq, Int.reduceLT, Int.reduceLE, arr_pos, arr_neg, tr_laws_eqTreeS]
 refine lp_self T4 l (fun i hi => ?_) ?_
 ·simp (contextual := true) (maxSteps := 1000000) (disch := omega) only [↓Sd, ↓So, ↓Sk, ↓den, ↓denA, Sa, Sb, Sc, Se, O1.d, O2.d, O3.d, cmI, arI, envOf, putN, ↓reduceIte, Nat.reduceLT, Nat.reduceSub, Nat.reduceAdd, Int.reduceAdd, Int.reduceEq, Int.reduceLT, Int.reduceLE, arr_pos, arr_neg, eq_Tree]
 ·simp (contextual := true) (maxSteps := 1000000) (disch := omega) only [↓Sd, ↓So, ↓Sk, ↓den, ↓denA, Sa, Sb, Sc, Se, O1.d, O2.d, O3.d, cmI, arI, envOf, putN, ↓reduceIte, Nat.reduceLT, Nat.reduceSub, Nat.reduceAdd, Int.reduceAdd, Int.reduceEq, Int.reduceLT, Int.reduceLE, arr_pos, arr_neg, ]
theorem mk_TreeS (l : List Tm) (k : Int) (hk : 0 ≤ k ∧ k ≤ 9200000000000000000) (hl : Few l) {Q : List AV → Prop} (h : ∀ l', Q [⟨I, k + 4 * l.length⟩, ⟨L T4, l'⟩]) : mc.C f_laws_markTreeS [⟨L T4, l⟩, ⟨I, k⟩] Q := by
 have hl := few_lim hl
 refine mc.c_of F_laws_markTreeS ?_
 simp (contextual := true) (maxSteps := 1000000) (disch := omega) only [↓Sd, ↓So, ↓Sk, ↓den, ↓denA, Sa, Sb, Sc, Se, O1.d, O2.d, O3.d, cmI, arI, envOf, putN, ↓reduceIte, Nat.reduceLT, Nat.reduceSub, Nat.reduceAdd, Int.reduceAdd, Int.reduceEq, Int.reduceLT, Int.reduceLE, arr_pos, arr_neg, tr_laws_markTreeS]
 refine mc.lp_for (List Tm) (fun i s => [⟨I, k + 4 * (i : Int)⟩, ⟨I, (i : Int)⟩, ⟨L T4, s⟩]) (fun i s => s.length = l.length) l.length 0 l _ (by simp) (Nat.zero_le _) rfl ?_ ?_
 ·rintro i s hi hs
  simp (contextual := true) (maxSteps := 1000000) (disch := omega) only [↓Sd, ↓So, ↓Sk, ↓den, ↓denA, Sa, Sb, Sc, Se, O1.d, O2.d, O3.d, cmI, arI, envOf, putN, ↓reduceIte, Nat.reduceLT, Nat.reduceSub, Nat.reduceAdd, Int.reduceAdd, Int.reduceEq, Int.reduceLT, Int.reduceLE, arr_pos, arr_neg, List.length_set, getD_set_eq, List.set_set]
  exact ⟨_, ⟨iD (by omega), rfl⟩, by simp [hs]⟩
 ·rintro s hs
  simp (contextual := true) (maxSteps := 1000000) (disch := omega) only [↓Sd, ↓So, ↓Sk, ↓den, ↓denA, Sa, Sb, Sc, Se, O1.d, O2.d, O3.d, cmI, arI, envOf, putN, ↓reduceIte, Nat.reduceLT, Nat.reduceSub, Nat.reduceAdd, Int.reduceAdd, Int.reduceEq, Int.reduceLT, Int.reduceLE, arr_pos, arr_neg, ]
  exact h s
noncomputable def trT (s : Sy) (F : List (List Tm)) (l : List Tm) : List (List Int) := tab (fun a => upTo (trP (onw s) (szn s.1) (ltrs s F) l l.length a) (szn s.1)) l.length
noncomputable def trT0 (s : Sy) (F : List (List Tm)) (l : List Tm) : List (List Int) := if uAsk s F l then trT s F l else []
noncomputable def trU (s : Sy) (F : List (List Tm)) (l : List Tm) : List Int := if uAsk s F l then upTo (trP (onw s) (szn s.1) (ltrs s F) l l.length (l.length - 1)) (szn s.1) else []
theorem trU_len {s : Sy} {F : List (List Tm)} {l : List Tm} : (trU s F l).length ≤ 1048576 := by
 unfold trU
 by_cases h : uAsk s F l
 ·have hz := szn_eq h.1.1
  rw [if_pos h]
  have := @upTo_len (trP (onw s) (szn s.1) (ltrs s F) l l.length (l.length - 1)) (szn s.1)
  omega
 ·rw [if_neg h]; simp
theorem C_spec_TreeSets_t (s : Sy) (F : List (List Tm)) (l : List Tm) (hs : FewSy s) (hF : FewSS F) (hl : Few l) (Q : List AV → Prop) :
  mc.C f_spec_TreeSets [⟨L V3, s.1⟩, ⟨L TR, s.2⟩, ⟨L (L T4), F⟩, ⟨L T4, l⟩] Q = Q [⟨L (L I), trT0 s F l⟩] := by
 refine Mc.Ends.c (mc.ends F_spec_TreeSets ?_)
 unfold trT0
 by_cases h : uAsk s F l
 ·have hz := szn_eq h.1.1
  have hml := h.2.2.1
  rw [if_pos h]
  simp (contextual := true) (maxSteps := 1000000) (disch := omega) only [↓Sd, ↓So, ↓Sk, ↓den, ↓denA, Sa, Sb, Sc, Se, O1.d, O2.d, O3.d, cmI, arI, envOf, putN, ↓reduceIte, Nat.reduceLT, Nat.reduceSub, Nat.reduceAdd, Int.reduceAdd, Int.reduceEq, Int.reduceLT, Int.reduceLE, arr_pos, arr_neg, tr_spec_TreeSets, C_spec_l24Asked s F l hs hF hl, decide_eq_true h, C_spec_l24Rows s F l hs h.1 h.2]
  refine mc.lp_for (List (List Int)) (fun i o => [⟨I, (i : Int)⟩, ⟨L (L I), o⟩, ⟨L (L B), tab (fun a => tab (trP (onw s) (szn s.1) (ltrs s F) l l.length a) (szn s.1)) l.length⟩]) (fun i o => o = tab (fun a => upTo (trP (onw s) (szn s.1) (ltrs s F) l l.length a) (szn s.1)) i) l.length 0 [] _ rfl (Nat.zero_le _) rfl ?_ ?_
  ·rintro i o hi rfl
   simp (contextual := true) (maxSteps := 1000000) (disch := omega) only [↓Sd, ↓So, ↓Sk, ↓den, ↓denA, Sa, Sb, Sc, Se, O1.d, O2.d, O3.d, cmI, arI, envOf, putN, ↓reduceIte, Nat.reduceLT, Nat.reduceSub, Nat.reduceAdd, Int.reduceAdd, Int.reduceEq, Int.reduceLT, Int.reduceLE, arr_pos, arr_neg, tab_len, tab_get hi, C_spec_l4List_tab _ (szn s.1) (by omega : szn s.1 ≤ 1048576)]
   exact tab_next
  ·rintro o rfl
   simp (contextual := true) (maxSteps := 1000000) (disch := omega) only [↓Sd, ↓So, ↓Sk, ↓den, ↓denA, Sa, Sb, Sc, Se, O1.d, O2.d, O3.d, cmI, arI, envOf, putN, ↓reduceIte, Nat.reduceLT, Nat.reduceSub, Nat.reduceAdd, Int.reduceAdd, Int.reduceEq, Int.reduceLT, Int.reduceLE, arr_pos, arr_neg, tab_len]
   rfl
 ·rw [if_neg h]
  simp (contextual := true) (maxSteps := 1000000) (disch := omega) only [↓Sd, ↓So, ↓Sk, ↓den, ↓denA, Sa, Sb, Sc, Se, O1.d, O2.d, O3.d, cmI, arI, envOf, putN, ↓reduceIte, Nat.reduceLT, Nat.reduceSub, Nat.reduceAdd, Int.reduceAdd, Int.reduceEq, Int.reduceLT, Int.reduceLE, arr_pos, arr_neg, tr_spec_TreeSets, C_spec_l24Asked s F l hs hF hl, decide_eq_false h]
theorem C_impl_TreeSets_t (s : Sy) (F : List (List Tm)) (l : List Tm) (hs : FewSy s) (hF : FewSS F) (hl : Few l) (Q : List AV → Prop) :
  mc.C f_impl_TreeSets [⟨L V3, s.1⟩, ⟨L TR, s.2⟩, ⟨L (L T4), F⟩, ⟨L T4, l⟩] Q = Q [⟨N (L I), trT0 s F l⟩] := by
 refine Mc.Ends.c (mc.ends F_impl_TreeSets ?_)
 unfold trT0
 by_cases h : uAsk s F l
 ·have hz := szn_eq h.1.1
  have hml := h.2.2.1
  rw [if_pos h]
  simp (contextual := true) (maxSteps := 1000000) (disch := omega) only [↓Sd, ↓So, ↓Sk, ↓den, ↓denA, Sa, Sb, Sc, Se, O1.d, O2.d, O3.d, cmI, arI, envOf, putN, ↓reduceIte, Nat.reduceLT, Nat.reduceSub, Nat.reduceAdd, Int.reduceAdd, Int.reduceEq, Int.reduceLT, Int.reduceLE, arr_pos, arr_neg, tr_impl_TreeSets, C_impl_askTree s F l hs hF hl, decide_eq_true h, C_impl_followers s h.1.1, C_impl_lettersAll s F h.1, C_impl_treeRows l (onw s) (ltrs s F) (szn s.1) F.length (by omega) (onw_tbl h.1.1) tab_len (fun k hk => ltrs_row hk) h.2, tab_len]
  refine mc.lp_for (List (List Int)) (fun i o => [⟨I, (l.length : Int)⟩, ⟨I, (i : Int)⟩, ⟨L (L I), o⟩, ⟨L (L B), tab (fun a => tab (trP (onw s) (szn s.1) (ltrs s F) l l.length a) (szn s.1)) l.length⟩]) (fun i o => o = tab (fun a => upTo (trP (onw s) (szn s.1) (ltrs s F) l l.length a) (szn s.1)) i) l.length 0 [] _ rfl (Nat.zero_le _) rfl ?_ ?_
  ·rintro i o hi rfl
   simp (contextual := true) (maxSteps := 1000000) (disch := omega) only [↓Sd, ↓So, ↓Sk, ↓den, ↓denA, Sa, Sb, Sc, Se, O1.d, O2.d, O3.d, cmI, arI, envOf, putN, ↓reduceIte, Nat.reduceLT, Nat.reduceSub, Nat.reduceAdd, Int.reduceAdd, Int.reduceEq, Int.reduceLT, Int.reduceLE, arr_pos, arr_neg, tab_len, tab_get hi, C_impl_listOf_tab _ (szn s.1) (by omega : szn s.1 ≤ 1048576)]
   exact tab_next
  ·rintro o rfl
   have hne : (tab (fun a => upTo (trP (onw s) (szn s.1) (ltrs s F) l l.length a) (szn s.1)) l.length).isEmpty = false := by
    cases h0 : tab (fun a => upTo (trP (onw s) (szn s.1) (ltrs s F) l l.length a) (szn s.1)) l.length with
    | cons x t => rfl
    | nil =>
     have h1 := congrArg List.length h0
     rw [tab_len] at h1
     simp only [List.length_nil] at h1
     omega
   simp (contextual := true) (maxSteps := 1000000) (disch := omega) only [↓Sd, ↓So, ↓Sk, ↓den, ↓denA, Sa, Sb, Sc, Se, O1.d, O2.d, O3.d, cmI, arI, envOf, putN, ↓reduceIte, Nat.reduceLT, Nat.reduceSub, Nat.reduceAdd, Int.reduceAdd, Int.reduceEq, Int.reduceLT, Int.reduceLE, arr_pos, arr_neg, C_impl_clone_Sint (tab (fun a => upTo (trP (onw s) (szn s.1) (ltrs s F) l l.length a) (szn s.1)) l.length) (by rw [tab_len]; omega), hne]
   rfl
 ·rw [if_neg h]
  simp (contextual := true) (maxSteps := 1000000) (disch := omega) only [↓Sd, ↓So, ↓Sk, ↓den, ↓denA, Sa, Sb, Sc, Se, O1.d, O2.d, O3.d, cmI, arI, envOf, putN, ↓reduceIte, Nat.reduceLT, Nat.reduceSub, Nat.reduceAdd, Int.reduceAdd, Int.reduceEq, Int.reduceLT, Int.reduceLE, arr_pos, arr_neg, tr_impl_TreeSets, C_impl_askTree s F l hs hF hl, decide_eq_false h]
theorem trT0_last {s : Sy} {F : List (List Tm)} {l : List Tm} (h : uAsk s F l) : (trT0 s F l).length = l.length ∧ 1 ≤ l.length ∧ l.length ≤ 24 ∧ (trT0 s F l).getD (l.length - 1) [] = trU s F l := by
 have hml := h.2.2.1
 unfold trT0 trU
 rw [if_pos h, if_pos h]
 exact ⟨tab_len, by omega, by omega, tab_get (by omega)⟩
theorem C_spec_TreeStates (s : Sy) (F : List (List Tm)) (l : List Tm) (hs : FewSy s) (hF : FewSS F) (hl : Few l) (Q : List AV → Prop) :
  mc.C f_spec_TreeStates [⟨L V3, s.1⟩, ⟨L TR, s.2⟩, ⟨L (L T4), F⟩, ⟨L T4, l⟩] Q = Q [⟨L I, trU s F l⟩] := by
 refine Mc.Ends.c (mc.ends F_spec_TreeStates ?_)
 by_cases h : uAsk s F l
 ·obtain ⟨h1, h2, h3, h4⟩ := trT0_last h
  simp (contextual := true) (maxSteps := 1000000) (disch := omega) only [↓Sd, ↓So, ↓Sk, ↓den, ↓denA, Sa, Sb, Sc, Se, O1.d, O2.d, O3.d, cmI, arI, envOf, putN, ↓reduceIte, Nat.reduceLT, Nat.reduceSub, Nat.reduceAdd, Int.reduceAdd, Int.reduceEq, Int.reduceLT, Int.reduceLE, arr_pos, arr_neg, tr_spec_TreeStates, C_spec_TreeSets_t s F l hs hF hl, h1]
  exact h4
 ·have h0 : trT0 s F l = [] := if_neg h
  have h1 : trU s F l = [] := if_neg h
  rw [h1]
  simp (contextual := true) (maxSteps := 1000000) (disch := omega) only [↓Sd, ↓So, ↓Sk, ↓den, ↓denA, Sa, Sb, Sc, Se, O1.d, O2.d, O3.d, cmI, arI, envOf, putN, ↓reduceIte, Nat.reduceLT, Nat.reduceSub, Nat.reduceAdd, Int.reduceAdd, Int.reduceEq, Int.reduceLT, Int.reduceLE, arr_pos, arr_neg, tr_spec_TreeStates, C_spec_TreeSets_t s F l hs hF hl, h0]
theorem C_impl_TreeStates (s : Sy) (F : List (List Tm)) (l : List Tm) (hs : FewSy s) (hF : FewSS F) (hl : Few l) (Q : List AV → Prop) :
  mc.C f_impl_TreeStates [⟨L V3, s.1⟩, ⟨L TR, s.2⟩, ⟨L (L T4), F⟩, ⟨L T4, l⟩] Q = Q [⟨L I, trU s F l⟩] := by
 refine Mc.Ends.c (mc.ends F_impl_TreeStates ?_)
 by_cases h : uAsk s F l
 ·obtain ⟨h1, h2, h3, h4⟩ := trT0_last h
  have e : ((l.length : Int) - 1).toNat = l.length - 1 := by omega
  have hne : (trT0 s F l).isEmpty = false := by
   cases h0 : trT0 s F l with
   | cons x t => rfl
   | nil => rw [h0, List.length_nil] at h1; omega
  simp (contextual := true) (maxSteps := 1000000) (disch := omega) only [↓Sd, ↓So, ↓Sk, ↓den, ↓denA, Sa, Sb, Sc, Se, O1.d, O2.d, O3.d, cmI, arI, envOf, putN, ↓reduceIte, Nat.reduceLT, Nat.reduceSub, Nat.reduceAdd, Int.reduceAdd, Int.reduceEq, Int.reduceLT, Int.reduceLE, arr_pos, arr_neg, tr_impl_TreeStates, C_impl_TreeSets_t s F l hs hF hl, h1, hne, e, h4, C_impl_clone_int (trU s F l) trU_len]
 ·have h0 : trT0 s F l = [] := if_neg h
  have h1 : trU s F l = [] := if_neg h
  rw [h1]
  simp (contextual := true) (maxSteps := 1000000) (disch := omega) only [↓Sd, ↓So, ↓Sk, ↓den, ↓denA, Sa, Sb, Sc, Se, O1.d, O2.d, O3.d, cmI, arI, envOf, putN, ↓reduceIte, Nat.reduceLT, Nat.reduceSub, Nat.reduceAdd, Int.reduceAdd, Int.reduceEq, Int.reduceLT, Int.reduceLE, arr_pos, arr_neg, tr_impl_TreeStates, C_impl_TreeSets_t s F l hs hF hl, h0]
  exact fun g => absurd rfl g
theorem law_FnExactTreeStates (s : Sy) (F : List (List Tm)) (l : List Tm) (hs : LtSy s) (hl : Lt63 F) (hl2 : ∀ x ∈ F, Lt63 x) (hl3 : Lt63 l) : mc.C f_laws_FnExactTreeStates [⟨L V3, s.1⟩, ⟨L TR, s.2⟩, ⟨L (L T4), F⟩, ⟨L T4, l⟩] (· = [⟨B, true⟩]) := by
 refine mc.c_of F_laws_FnExactTreeStates ?_
 simp (contextual := true) (maxSteps := 1000000) (disch := omega) only [↓Sd, ↓So, ↓Sk, ↓den, ↓denA, Sa, Sb, Sc, Se, O1.d, O2.d, O3.d, cmI, arI, envOf, putN, ↓reduceIte, Nat.reduceLT, Nat.reduceSub, Nat.reduceAdd, Int.reduceAdd, Int.reduceEq, Int.reduceLT, Int.reduceLE, arr_pos, arr_neg, tr_laws_FnExactTreeStates]
 refine sz_System s _ (by omega) hs fun j h2 h3 => ?_
 simp (contextual := true) (maxSteps := 1000000) (disch := omega) only [↓Sd, ↓So, ↓Sk, ↓den, ↓denA, Sa, Sb, Sc, Se, O1.d, O2.d, O3.d, cmI, arI, envOf, putN, ↓reduceIte, Nat.reduceLT, Nat.reduceSub, Nat.reduceAdd, Int.reduceAdd, Int.reduceEq, Int.reduceLT, Int.reduceLE, arr_pos, arr_neg, ]
 intro h4
 have hs := h3 (by omega)
 refine sz_TermSS F _ (by omega) hl hl2 fun j2 h5 h6 => ?_
 simp (contextual := true) (maxSteps := 1000000) (disch := omega) only [↓Sd, ↓So, ↓Sk, ↓den, ↓denA, Sa, Sb, Sc, Se, O1.d, O2.d, O3.d, cmI, arI, envOf, putN, ↓reduceIte, Nat.reduceLT, Nat.reduceSub, Nat.reduceAdd, Int.reduceAdd, Int.reduceEq, Int.reduceLT, Int.reduceLE, arr_pos, arr_neg, ]
 intro h7
 have hF : FewSS F := h6 (by omega)
 refine sz_TreeS l _ (by omega) hl3 fun j3 h8 h9 => ?_
 simp (contextual := true) (maxSteps := 1000000) (disch := omega) only [↓Sd, ↓So, ↓Sk, ↓den, ↓denA, Sa, Sb, Sc, Se, O1.d, O2.d, O3.d, cmI, arI, envOf, putN, ↓reduceIte, Nat.reduceLT, Nat.reduceSub, Nat.reduceAdd, Int.reduceAdd, Int.reduceEq, Int.reduceLT, Int.reduceLE, arr_pos, arr_neg, ]
 intro h10
 have hf : Few l := h9 (by omega)
 have hr := @trU_len s F l
 have hsp := C_spec_TreeStates s F l hs hF hf
 have him := C_impl_TreeStates s F l hs hF hf
 generalize trU s F l = K at hr hsp him
 simp (contextual := true) (maxSteps := 1000000) (disch := omega) only [↓Sd, ↓So, ↓Sk, ↓den, ↓denA, Sa, Sb, Sc, Se, O1.d, O2.d, O3.d, cmI, arI, envOf, putN, ↓reduceIte, Nat.reduceLT, Nat.reduceSub, Nat.reduceAdd, Int.reduceAdd, Int.reduceEq, Int.reduceLT, Int.reduceLE, arr_pos, arr_neg, to_System s hs, to_TermSS F hF.1 hF.2, to_TreeS l hf, hsp, him, eq_IntS K (few_i (by omega)), eq_System s hs, eq_TermSS F hF.1 hF.2, eq_TreeS l hf]
 refine mk_System s 1 (by omega) hs fun k' v r hk' => ?_
 simp (contextual := true) (maxSteps := 1000000) (disch := omega) only [↓Sd, ↓So, ↓Sk, ↓den, ↓denA, Sa, Sb, Sc, Se, O1.d, O2.d, O3.d, cmI, arI, envOf, putN, ↓reduceIte, Nat.reduceLT, Nat.reduceSub, Nat.reduceAdd, Int.reduceAdd, Int.reduceEq, Int.reduceLT, Int.reduceLE, arr_pos, arr_neg, ]
 refine mk_TermSS F k' (by omega) hF.1 hF.2 fun k2 l' hk2 => ?_
 simp (contextual := true) (maxSteps := 1000000) (disch := omega) only [↓Sd, ↓So, ↓Sk, ↓den, ↓denA, Sa, Sb, Sc, Se, O1.d, O2.d, O3.d, cmI, arI, envOf, putN, ↓reduceIte, Nat.reduceLT, Nat.reduceSub, Nat.reduceAdd, Int.reduceAdd, Int.reduceEq, Int.reduceLT, Int.reduceLE, arr_pos, arr_neg, ]
 refine mk_TreeS l k2 (by omega) hf fun l'' => ?_
 simp (contextual := true) (maxSteps := 1000000) (disch := omega) only [↓Sd, ↓So, ↓Sk, ↓den, ↓denA, Sa, Sb, Sc, Se, O1.d, O2.d, O3.d, cmI, arI, envOf, putN, ↓reduceIte, Nat.reduceLT, Nat.reduceSub, Nat.reduceAdd, Int.reduceAdd, Int.reduceEq, Int.reduceLT, Int.reduceLE, arr_pos, arr_neg, eq_IntS K (few_i (by omega)), mk_IntS K 1 (by omega) (by omega), held_IntS K.length 1 (by omega) (by omega), to_System s hs, to_TermSS F hF.1 hF.2, to_TreeS l hf, him]
 have := few_lim hf
 intro h
 omega
theorem C_spec_HoldsTree (s : Sy) (F : List (List Tm)) (l : List Tm) (hs : FewSy s) (hF : FewSS F) (hl : Few l) (Q : List AV → Prop) :
  mc.C f_spec_HoldsTree [⟨L V3, s.1⟩, ⟨L TR, s.2⟩, ⟨L (L T4), F⟩, ⟨L T4, l⟩] Q = Q [⟨B, decide (uAsk s F l) && dB (num s.1 (fst0 s.1) ∈ trU s F l)⟩] := by
 refine Mc.Ends.c (mc.ends F_spec_HoldsTree ?_)
 by_cases h : uAsk s F l
 ·have hv := h.1.1
  have hfi := fst0_in hv.2.2.1
  simp (contextual := true) (maxSteps := 1000000) (disch := omega) only [↓Sd, ↓So, ↓Sk, ↓den, ↓denA, Sa, Sb, Sc, Se, O1.d, O2.d, O3.d, cmI, arI, envOf, putN, ↓reduceIte, Nat.reduceLT, Nat.reduceSub, Nat.reduceAdd, Int.reduceAdd, Int.reduceEq, Int.reduceLT, Int.reduceLE, arr_pos, arr_neg, tr_spec_HoldsTree, C_spec_l24Asked s F l hs hF hl, decide_eq_true h, C_spec_TreeStates s F l hs hF hl, C_spec_FirstState s hs hv, C_spec_l4Number s _ hv.1.2 hv.2.2.1 hfi, C_spec_l2Has (trU s F l) _ trU_len, Bool.true_and]
 ·simp (contextual := true) (maxSteps := 1000000) (disch := omega) only [↓Sd, ↓So, ↓Sk, ↓den, ↓denA, Sa, Sb, Sc, Se, O1.d, O2.d, O3.d, cmI, arI, envOf, putN, ↓reduceIte, Nat.reduceLT, Nat.reduceSub, Nat.reduceAdd, Int.reduceAdd, Int.reduceEq, Int.reduceLT, Int.reduceLE, arr_pos, arr_neg, tr_spec_HoldsTree, C_spec_l24Asked s F l hs hF hl, decide_eq_false h, Bool.false_and]
theorem C_impl_HoldsTree (s : Sy) (F : List (List Tm)) (l : List Tm) (hs : FewSy s) (hF : FewSS F) (hl : Few l) (Q : List AV → Prop) :
  mc.C f_impl_HoldsTree [⟨L V3, s.1⟩, ⟨L TR, s.2⟩, ⟨L (L T4), F⟩, ⟨L T4, l⟩] Q = Q [⟨B, decide (uAsk s F l) && dB (num s.1 (fst0 s.1) ∈ trU s F l)⟩] := by
 refine Mc.Ends.c (mc.ends F_impl_HoldsTree ?_)
 by_cases h : uAsk s F l
 ·have hv := h.1.1
  have hfi := fst0_in hv.2.2.1
  simp (contextual := true) (maxSteps := 1000000) (disch := omega) only [↓Sd, ↓So, ↓Sk, ↓den, ↓denA, Sa, Sb, Sc, Se, O1.d, O2.d, O3.d, cmI, arI, envOf, putN, ↓reduceIte, Nat.reduceLT, Nat.reduceSub, Nat.reduceAdd, Int.reduceAdd, Int.reduceEq, Int.reduceLT, Int.reduceLE, arr_pos, arr_neg, tr_impl_HoldsTree, C_impl_askTree s F l hs hF hl, decide_eq_true h, C_impl_TreeStates s F l hs hF hl, C_impl_first s hv.1.2, C_impl_number s _ hv.1.2 hv.2.2.1 hfi, C_slices_Contains_int (trU s F l) _ trU_len, Bool.true_and]
 ·simp (contextual := true) (maxSteps := 1000000) (disch := omega) only [↓Sd, ↓So, ↓Sk, ↓den, ↓denA, Sa, Sb, Sc, Se, O1.d, O2.d, O3.d, cmI, arI, envOf, putN, ↓reduceIte, Nat.reduceLT, Nat.reduceSub, Nat.reduceAdd, Int.reduceAdd, Int.reduceEq, Int.reduceLT, Int.reduceLE, arr_pos, arr_neg, tr_impl_HoldsTree, C_impl_askTree s F l hs hF hl, decide_eq_false h, Bool.false_and]
theorem law_FnExactHoldsTree (s : Sy) (F : List (List Tm)) (l : List Tm) (hs : LtSy s) (hl : Lt63 F) (hl2 : ∀ x ∈ F, Lt63 x) (hl3 : Lt63 l) : mc.C f_laws_FnExactHoldsTree [⟨L V3, s.1⟩, ⟨L TR, s.2⟩, ⟨L (L T4), F⟩, ⟨L T4, l⟩] (· = [⟨B, true⟩]) := by
 refine mc.c_of F_laws_FnExactHoldsTree ?_
 simp (contextual := true) (maxSteps := 1000000) (disch := omega) only [↓Sd, ↓So, ↓Sk, ↓den, ↓denA, Sa, Sb, Sc, Se, O1.d, O2.d, O3.d, cmI, arI, envOf, putN, ↓reduceIte, Nat.reduceLT, Nat.reduceSub, Nat.reduceAdd, Int.reduceAdd, Int.reduceEq, Int.reduceLT, Int.reduceLE, arr_pos, arr_neg, tr_laws_FnExactHoldsTree]
 refine sz_System s _ (by omega) hs fun j h2 h3 => ?_
 simp (contextual := true) (maxSteps := 1000000) (disch := omega) only [↓Sd, ↓So, ↓Sk, ↓den, ↓denA, Sa, Sb, Sc, Se, O1.d, O2.d, O3.d, cmI, arI, envOf, putN, ↓reduceIte, Nat.reduceLT, Nat.reduceSub, Nat.reduceAdd, Int.reduceAdd, Int.reduceEq, Int.reduceLT, Int.reduceLE, arr_pos, arr_neg, ]
 intro h4
 have hs := h3 (by omega)
 refine sz_TermSS F _ (by omega) hl hl2 fun j2 h5 h6 => ?_
 simp (contextual := true) (maxSteps := 1000000) (disch := omega) only [↓Sd, ↓So, ↓Sk, ↓den, ↓denA, Sa, Sb, Sc, Se, O1.d, O2.d, O3.d, cmI, arI, envOf, putN, ↓reduceIte, Nat.reduceLT, Nat.reduceSub, Nat.reduceAdd, Int.reduceAdd, Int.reduceEq, Int.reduceLT, Int.reduceLE, arr_pos, arr_neg, ]
 intro h7
 have hF : FewSS F := h6 (by omega)
 refine sz_TreeS l _ (by omega) hl3 fun j3 h8 h9 => ?_
 simp (contextual := true) (maxSteps := 1000000) (disch := omega) only [↓Sd, ↓So, ↓Sk, ↓den, ↓denA, Sa, Sb, Sc, Se, O1.d, O2.d, O3.d, cmI, arI, envOf, putN, ↓reduceIte, Nat.reduceLT, Nat.reduceSub, Nat.reduceAdd, Int.reduceAdd, Int.reduceEq, Int.reduceLT, Int.reduceLE, arr_pos, arr_neg, ]
 intro h10
 have hf : Few l := h9 (by omega)
 have hsp := C_spec_HoldsTree s F l hs hF hf
 have him := C_impl_HoldsTree s F l hs hF hf
 generalize (decide (uAsk s F l) && dB (num s.1 (fst0 s.1) ∈ trU s F l)) = K at hsp him
 simp (contextual := true) (maxSteps := 1000000) (disch := omega) only [↓Sd, ↓So, ↓Sk, ↓den, ↓denA, Sa, Sb, Sc, Se, O1.d, O2.d, O3.d, cmI, arI, envOf, putN, ↓reduceIte, Nat.reduceLT, Nat.reduceSub, Nat.reduceAdd, Int.reduceAdd, Int.reduceEq, Int.reduceLT, Int.reduceLE, arr_pos, arr_neg, to_System s hs, to_TermSS F hF.1 hF.2, to_TreeS l hf, hsp, him, eq_System s hs, eq_TermSS F hF.1 hF.2, eq_TreeS l hf]
end Go.Proofs.YtifkpliahhodoaaGreat
