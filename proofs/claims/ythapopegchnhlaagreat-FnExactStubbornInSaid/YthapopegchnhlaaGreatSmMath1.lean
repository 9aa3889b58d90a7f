/- What the trees come to: plain mathematics; no condition. -/
import Derived.Test.YthapopegchnhlaaGreatSmMath0
namespace Go.Proofs.YthapopegchnhlaaGreat
open Go Go.Sm Go.Sm.Q
set_option linter.unusedSimpArgs false
set_option linter.unusedVariables false
theorem C_impl_stubborn_from (ab : Nat → Bool) (A : Nat → Nat → Bool) (W : Nat → List Int) (n r : Nat) (hn : n ≤ 8) (hr : r < n) (hW : ∀ k, k < n → (W k).length ≤ 8) (Q : List AV → Prop) :
  mc.C f_impl_stubborn_from [⟨P (L (L B)) (L (L I)), (tab (fun k => tab (A k) n) n, tab W n)⟩, ⟨L B, tab ab n⟩, ⟨I, (r : Int)⟩] Q = Q [⟨L B, tab (fun k => dB (Rc (eI' ab A W) n r k)) n⟩, ⟨P (L (L B)) (L (L I)), (tab (fun k => tab (A k) n) n, tab W n)⟩] := by
 refine Mc.Ends.c (mc.ends F_impl_stubborn_from ?_)
 have hr0 : (List.replicate n false).set r true = tab (fun k => if k = r then true else false) n := by rw [rep_tab, tab_set']
 obtain ⟨AA, hAA⟩ : ∃ AA, tab (fun k => tab (A k) n) n = AA := ⟨_, rfl⟩
 obtain ⟨WW, hWW⟩ : ∃ WW, tab W n = WW := ⟨_, rfl⟩
 have hAl : AA.length = n := by rw [← hAA, tab_len]
 have hWl : WW.length = n := by rw [← hWW, tab_len]
 have hAg : ∀ k, k < n → AA.getD k [] = tab (A k) n := fun k hk => by rw [← hAA, tab_get hk]
 have hWg : ∀ k, k < n → WW.getD k [] = W k := fun k hk => by rw [← hWW, tab_get hk]
 obtain ⟨E, hE⟩ : ∃ E, eI' ab A W = E := ⟨_, rfl⟩
 have hEt : ∀ k m, ab k = true → E k m = !A k m := fun k m h => by rw [← hE, eI', h]; rfl
 have hEf : ∀ k m, ab k = false → E k m = dB ((m : Int) ∈ W k) := fun k m h => by rw [← hE, eI', h]; rfl
 rw [hAA, hWW, hE]
 simp (contextual := true) (maxSteps := 1000000) (disch := omega) only [↓Sd, ↓So, ↓Sk, ↓den, ↓denA, Sa, Sb, Sc, Se, O1.d, O2.d, O3.d, cmI, arI, envOf, putN, ↓reduceIte, Nat.reduceLT, Nat.reduceSub, Nat.reduceAdd, Int.reduceAdd, Int.reduceEq, Int.reduceLT, Int.reduceLE, arr_pos, arr_neg, tr_impl_stubborn_from, tab_len, List.length_replicate, hr0]
 refine mc.lp_inv (fun j us => ∃ (p : Nat → Bool) (q : List Int), us = [⟨L B, tab ab n⟩, ⟨L (L B), AA⟩, ⟨L (L I), WW⟩, ⟨L B, tab p n⟩, ⟨L I, q⟩] ∧ (∀ x ∈ q, (0 ≤ x ∧ x < n) ∧ p x.toNat = true) ∧ p r = true ∧ (∀ k, k < n → p k = true → Rc E n r k) ∧
  (∀ a : Nat, a < n → p a = true → (a : Int) ∉ q → ∀ m, m < n → E a m = true → p m = true) ∧ q.length + cntF p n ≤ 100 ∧ j = 2 * cntF p n + q.length) _ _
  ⟨fun k => if k = r then true else false, [(r : Int)], rfl, ?_, by simp, fun k _ h => ?_, fun a _ h1 h2 => ?_, ?_, rfl⟩ ?_
 ·intro x hx
  rw [List.mem_singleton.1 hx]
  simp only [Int.toNat_natCast, if_true, and_true]
  omega
 ·have : k = r := by simpa using h
  rw [this]; exact .base
 ·have : a = r := by simpa using h1
  rw [this] at h2; simp at h2
 ·have := @cntF_le (fun k => if k = r then true else false) n
  simp only [List.length_singleton]; omega
 rintro j us ⟨p, q, rfl, i1, i2, i3, i4, i5, rfl⟩
 cases q with
 | nil =>
  simp (contextual := true) (maxSteps := 1000000) (disch := omega) only [↓Sd, ↓So, ↓Sk, ↓den, ↓denA, Sa, Sb, Sc, Se, O1.d, O2.d, O3.d, cmI, arI, envOf, putN, ↓reduceIte, Nat.reduceLT, Nat.reduceSub, Nat.reduceAdd, Int.reduceAdd, Int.reduceEq, Int.reduceLT, Int.reduceLE, arr_pos, arr_neg, ]
  exact tab_congr (rc_of_closed hr i2 i3 fun a ha hp m hm he => i4 a ha hp (by simp) m hm he)
 | cons x q =>
  obtain ⟨⟨hx0, hx1⟩, hxp⟩ := i1 x (List.mem_cons_self ..)
  obtain ⟨y, rfl⟩ : ∃ y : Nat, x = y := ⟨x.toNat, by omega⟩
  have hy : y < n := by omega
  rw [Int.toNat_natCast] at hxp
  have hWy := hW y hy
  simp only [List.length_cons] at i5
  simp (contextual := true) (maxSteps := 1000000) (disch := omega) only [↓Sd, ↓So, ↓Sk, ↓den, ↓denA, Sa, Sb, Sc, Se, O1.d, O2.d, O3.d, cmI, arI, envOf, putN, ↓reduceIte, Nat.reduceLT, Nat.reduceSub, Nat.reduceAdd, Int.reduceAdd, Int.reduceEq, Int.reduceLT, Int.reduceLE, arr_pos, arr_neg, tab_len, List.drop_succ_cons, List.drop_zero]
  refine mc.lp_for ((Nat → Bool) × List Int) (fun j s => [⟨L B, tab ab n⟩, ⟨I, (y : Int)⟩, ⟨I, (n : Int)⟩, ⟨I, (j : Int)⟩, ⟨L (L B), AA⟩, ⟨L (L I), WW⟩, ⟨L B, tab s.1 n⟩, ⟨L I, s.2⟩]) (fun j s => SI E n r y p q j s) n 0 (p, q) _ rfl (Nat.zero_le _)
   ⟨fun z hz => i1 z (List.mem_cons_of_mem _ hz), fun _ _ h => h, i3, fun m hm => absurd hm (Nat.not_lt_zero _), fun a h1 h2 h3 h4 => i4 a h1 h2 (by simp only [List.mem_cons, not_or]; exact ⟨by omega, h3⟩), Nat.le_refl _, Nat.le_refl _⟩ ?_ ?_
  ·rintro j ⟨p', q'⟩ hj h
   have hqf : q'.length ≤ 1000 := by have := h.a6; simp only at this; omega
   cases hab : ab y with
   | true =>
    have he := hEt y j hab
    simp (contextual := true) (maxSteps := 1000000) (disch := omega) only [↓Sd, ↓So, ↓Sk, ↓den, ↓denA, Sa, Sb, Sc, Se, O1.d, O2.d, O3.d, cmI, arI, envOf, putN, ↓reduceIte, Nat.reduceLT, Nat.reduceSub, Nat.reduceAdd, Int.reduceAdd, Int.reduceEq, Int.reduceLT, Int.reduceLE, arr_pos, arr_neg, ↓wpJoin, tab_len, tab_get hy, hab, hAl, hAg y hy, tab_get hj, hWl, tab_set']
    refine ⟨fun g => ⟨fun g1 => ⟨_, ⟨rfl, rfl⟩, h.put hj hy hxp (by rw [he, g]; rfl) g1⟩, fun g1 => ⟨_, ⟨rfl, rfl⟩, h.skip fun _ => by simpa using g1⟩⟩, fun g => ⟨_, ⟨rfl, rfl⟩, h.skip fun g1 => ?_⟩⟩
    rw [he] at g1
    exact absurd (by simpa using g1) g
   | false =>
    have he := hEf y j hab
    simp (contextual := true) (maxSteps := 1000000) (disch := omega) only [↓Sd, ↓So, ↓Sk, ↓den, ↓denA, Sa, Sb, Sc, Se, O1.d, O2.d, O3.d, cmI, arI, envOf, putN, ↓reduceIte, Nat.reduceLT, Nat.reduceSub, Nat.reduceAdd, Int.reduceAdd, Int.reduceEq, Int.reduceLT, Int.reduceLE, arr_pos, arr_neg, ↓wpJoin, tab_len, tab_get hy, hab, hWl, hWg y hy, C_slices_Contains_int (W y) j (by omega), tab_get hj, tab_set']
    exact ⟨fun g => ⟨fun g1 => ⟨_, ⟨rfl, rfl⟩, h.put hj hy hxp (by rw [he]; exact g) g1⟩, fun g1 => ⟨_, ⟨rfl, rfl⟩, h.skip fun _ => by simpa using g1⟩⟩, fun g => ⟨_, ⟨rfl, rfl⟩, h.skip fun g1 => absurd (he.symm.trans g1) g⟩⟩
  ·rintro ⟨p', q'⟩ ⟨a1, a2, a3, a4, a5, a6, a7⟩
   have a6' : q'.length + cntF p' n ≤ q.length + cntF p n := a6
   have a7' : 2 * cntF p' n + q'.length ≤ 2 * cntF p n + q.length := a7
   clear a6 a7
   simp (contextual := true) (maxSteps := 1000000) (disch := omega) only [↓Sd, ↓So, ↓Sk, ↓den, ↓denA, Sa, Sb, Sc, Se, O1.d, O2.d, O3.d, cmI, arI, envOf, putN, ↓reduceIte, Nat.reduceLT, Nat.reduceSub, Nat.reduceAdd, Int.reduceAdd, Int.reduceEq, Int.reduceLT, Int.reduceLE, arr_pos, arr_neg, ]
   refine ⟨_, ?_, p', q', ⟨rfl, rfl⟩, a1, a2 r hr i2, a3, fun a ha h1 h2 m hm he => ?_, by omega, rfl⟩
   ·first | omega | (simp only [List.length_cons]; omega)
   ·by_cases hax : a = y
    ·rw [hax] at he; exact a4 m hm hm he
    ·exact a5 a ha h1 h2 hax m hm he
noncomputable def abS (s : Sy) (st : List Int) (k : Nat) : Bool := decide (¬ useM s.1 (rl s k) st = [])
noncomputable def eS (s : Sy) (st : List Int) : Nat → Nat → Bool := eI' (abS s st) (fun k m => dB (Apr s k m)) (wkL s)
noncomputable def frS (s : Sy) (st : List Int) (r k : Nat) : Bool := dB (Rc (eS s st) s.2.length r k)
noncomputable def eT (s : Sy) (st : List Int) (k m : Nat) : Bool := bif abS s st k then (decide (m ≠ k) && !dB (Apr s k m)) else dB ((m : Int) ∈ wkL s k)
theorem eST {s : Sy} {st : List Int} (a m : Nat) (h : m ≠ a) : eS s st a m = eT s st a m := by
 unfold eS eI' eT
 cases abS s st a
 ·rfl
 ·simp [h]
theorem rcST {s : Sy} {st : List Int} {n r k : Nat} : Rc (eS s st) n r k ↔ Rc (eT s st) n r k := ⟨fun h => h.to eST, fun h => h.to fun a m h => (eST a m h).symm⟩
theorem C_impl_stubbornOf (s : Sy) (h : valid s) (Q : List AV → Prop) : mc.C f_impl_stubbornOf [⟨L V3, s.1⟩, ⟨L TR, s.2⟩] Q = Q [⟨P (L (L B)) (L (L I)), (tab (fun k => tab (fun m => dB (Apr s k m)) s.2.length) s.2.length, tab (wkL s) s.2.length)⟩] := by
 refine Mc.Ends.c (mc.ends F_impl_stubbornOf ?_)
 have h8 := h.2.1
 simp (contextual := true) (maxSteps := 1000000) (disch := omega) only [↓Sd, ↓So, ↓Sk, ↓den, ↓denA, Sa, Sb, Sc, Se, O1.d, O2.d, O3.d, cmI, arI, envOf, putN, ↓reduceIte, Nat.reduceLT, Nat.reduceSub, Nat.reduceAdd, Int.reduceAdd, Int.reduceEq, Int.reduceLT, Int.reduceLE, arr_pos, arr_neg, tr_impl_stubbornOf]
 refine mc.lp_for (List (List Bool) × List (List Int)) (fun i o => [⟨I, (s.2.length : Int)⟩, ⟨I, (i : Int)⟩, ⟨L V3, s.1⟩, ⟨L TR, s.2⟩, ⟨L (L B), o.1⟩, ⟨L (L I), o.2⟩]) (fun i o => o.1 = tab (fun k => tab (fun m => dB (Apr s k m)) s.2.length) i ∧ o.2 = tab (wkL s) i) s.2.length 0 ([], []) _ rfl (Nat.zero_le _) ⟨rfl, rfl⟩ ?_ ?_
 ·rintro i ⟨o1, o2⟩ hi ⟨rfl, rfl⟩
  simp (contextual := true) (maxSteps := 1000000) (disch := omega) only [↓Sd, ↓So, ↓Sk, ↓den, ↓denA, Sa, Sb, Sc, Se, O1.d, O2.d, O3.d, cmI, arI, envOf, putN, ↓reduceIte, Nat.reduceLT, Nat.reduceSub, Nat.reduceAdd, Int.reduceAdd, Int.reduceEq, Int.reduceLT, Int.reduceLE, arr_pos, arr_neg, ]
  refine mc.lp_for (List Bool) (fun j o => [⟨I, (i : Int)⟩, ⟨I, (s.2.length : Int)⟩, ⟨I, (i : Int)⟩, ⟨I, (s.2.length : Int)⟩, ⟨I, (j : Int)⟩, ⟨L V3, s.1⟩, ⟨L TR, s.2⟩, ⟨L (L B), tab (fun k => tab (fun m => dB (Apr s k m)) s.2.length) i⟩, ⟨L (L I), tab (wkL s) i⟩, ⟨L B, o⟩]) (fun j o => o = tab (fun m => dB (Apr s i m)) j) s.2.length 0 [] _ rfl (Nat.zero_le _) rfl ?_ ?_
  ·rintro j o hj rfl
   simp (contextual := true) (maxSteps := 1000000) (disch := omega) only [↓Sd, ↓So, ↓Sk, ↓den, ↓denA, Sa, Sb, Sc, Se, O1.d, O2.d, O3.d, cmI, arI, envOf, putN, ↓reduceIte, Nat.reduceLT, Nat.reduceSub, Nat.reduceAdd, Int.reduceAdd, Int.reduceEq, Int.reduceLT, Int.reduceLE, arr_pos, arr_neg, C_impl_rulesApart s i j h hi hj, tab_len]
   exact tab_next (f := fun m => dB (Apr s i m))
  ·rintro o rfl
   simp (contextual := true) (maxSteps := 1000000) (disch := omega) only [↓Sd, ↓So, ↓Sk, ↓den, ↓denA, Sa, Sb, Sc, Se, O1.d, O2.d, O3.d, cmI, arI, envOf, putN, ↓reduceIte, Nat.reduceLT, Nat.reduceSub, Nat.reduceAdd, Int.reduceAdd, Int.reduceEq, Int.reduceLT, Int.reduceLE, arr_pos, arr_neg, C_impl_wakersOf s i h hi, tab_len]
   exact ⟨(_, _), ⟨rfl, rfl⟩, tab_next (f := fun k => tab (fun m => dB (Apr s k m)) s.2.length), tab_next (f := wkL s)⟩
 ·rintro ⟨o1, o2⟩ ⟨rfl, rfl⟩
  simp (contextual := true) (maxSteps := 1000000) (disch := omega) only [↓Sd, ↓So, ↓Sk, ↓den, ↓denA, Sa, Sb, Sc, Se, O1.d, O2.d, O3.d, cmI, arI, envOf, putN, ↓reduceIte, Nat.reduceLT, Nat.reduceSub, Nat.reduceAdd, Int.reduceAdd, Int.reduceEq, Int.reduceLT, Int.reduceLE, arr_pos, arr_neg, ]
structure TI (E : Nat → Nat → Bool) (n r : Nat) (p : Nat → Bool) (i : Nat) (ag : Bool) (q : Nat → Bool) : Prop where
 b0 : q r = true
 b1 : ∀ k, k < n → p k = true → q k = true
 b2 : ∀ k, k < n → q k = true → Rc E n r k
 b3 : ag = false → ∀ k, k < n → q k = p k
 b4 : ag = false → ∀ a, a < i → a < n → p a = true → ∀ m, m < n → E a m = true → p m = true
 b5 : ag = true → cntF q n < cntF p n
structure TJ (E : Nat → Nat → Bool) (n r : Nat) (p : Nat → Bool) (i j : Nat) (ag : Bool) (q : Nat → Bool) : Prop extends TI E n r p i ag q where
 c4 : ag = false → p i = true → ∀ m, m < j → m < n → E i m = true → p m = true
theorem TJ.skip {E : Nat → Nat → Bool} {n r : Nat} {p : Nat → Bool} {i j : Nat} {ag : Bool} {q : Nat → Bool} (h : TJ E n r p i j ag q) (g : E i j = true → q j = true) : TJ E n r p i (j + 1) ag q := by
 refine ⟨h.toTI, fun ha hp m hm hmn he => ?_⟩
 by_cases e : m = j
 ·rw [← h.b3 ha m hmn, e]; exact g (by rw [← e]; exact he)
 ·exact h.c4 ha hp m (by omega) hmn he
theorem TJ.put {E : Nat → Nat → Bool} {n r : Nat} {p : Nat → Bool} {i j : Nat} {ag : Bool} {q : Nat → Bool} (h : TJ E n r p i j ag q) (hi : i < n) (hj : j < n) (hqi : q i = true) (g : E i j = true) (g1 : q j = false) : TJ E n r p i (j + 1) true (fun k => if k = j then true else q k) := by
 have hc := cntF_set g1 hj
 refine { b0 := mk_or h.b0, b1 := fun k hk hp => mk_or (h.b1 k hk hp), b2 := fun k hk hp => ?_, b3 := (fun h => by cases h), b4 := (fun h => by cases h), b5 := fun _ => ?_, c4 := (fun h => by cases h) }
 ·by_cases e : k = j
  ·rw [e]; exact .step (h.b2 i hi hqi) hj g
  ·exact h.b2 k hk (by simpa [e] using hp)
 ·cases ag with
  | true => have := h.b5 rfl; omega
  | false => have := cntF_congr (h.b3 rfl); omega
theorem TJ.next {E : Nat → Nat → Bool} {n r : Nat} {p : Nat → Bool} {i j : Nat} {ag : Bool} {q : Nat → Bool} (h : TJ E n r p i j ag q) (hi : i < n) (hj : q i = false ∨ n ≤ j) : TI E n r p (i + 1) ag q := by
 refine ⟨h.b0, h.b1, h.b2, h.b3, fun ha a h1 h2 hp m hm he => ?_, h.b5⟩
 by_cases e : a = i
 ·rw [e] at hp he
  rcases hj with g | g
  ·have := h.b1 i hi hp
   rw [this] at g; cases g
  ·exact h.c4 ha hp m (by omega) hm he
 ·exact h.b4 ha a (by omega) h2 hp m hm he
theorem C_spec_l26From (s : Sy) (st : List Int) (r : Nat) (hs : FewSy s) (h : valid s) (hst : inR s.1 st) (hr : r < s.2.length) (Q : List AV → Prop) : mc.C f_spec_l26From [⟨L V3, s.1⟩, ⟨L TR, s.2⟩, ⟨L I, st⟩, ⟨I, (r : Int)⟩] Q = Q [⟨L I, upTo (frS s st r) s.2.length⟩] := by
 refine Mc.Ends.c (mc.ends F_spec_l26From ?_)
 have h8 := h.2.1
 obtain ⟨n, hn⟩ : ∃ n, s.2.length = n := ⟨_, rfl⟩
 have hr0 : (List.replicate s.2.length false).set r true = tab (fun k => if k = r then true else false) s.2.length := by rw [rep_tab, tab_set']
 obtain ⟨E, hE⟩ : ∃ E, eT s st = E := ⟨_, rfl⟩
 have hres : ∀ k, frS s st r k = dB (Rc E n r k) := fun k => by rw [frS, hn, ← hE]; exact dB_congr rcST
 simp (contextual := true) (maxSteps := 1000000) (disch := omega) only [↓Sd, ↓So, ↓Sk, ↓den, ↓denA, Sa, Sb, Sc, Se, O1.d, O2.d, O3.d, cmI, arI, envOf, putN, ↓reduceIte, Nat.reduceLT, Nat.reduceSub, Nat.reduceAdd, Int.reduceAdd, Int.reduceEq, Int.reduceLT, Int.reduceLE, arr_pos, arr_neg, tr_spec_l26From, List.length_replicate, hr0]
 refine mc.lp_inv (fun j us => ∃ (ag : Bool) (p : Nat → Bool), us = [⟨L I, st⟩, ⟨B, ag⟩, ⟨L V3, s.1⟩, ⟨L TR, s.2⟩, ⟨L B, tab p n⟩] ∧ p r = true ∧ (∀ k, k < n → p k = true → Rc E n r k) ∧ (ag = false → ∀ a, a < n → p a = true → ∀ m, m < n → E a m = true → p m = true) ∧ j = 2 * cntF p n + (if ag = true then 1 else 0)) _ _
  ⟨true, fun k => if k = r then true else false, by rw [hn], by simp, fun k _ h => ?_, (fun h => by cases h), rfl⟩ ?_
 ·have : k = r := by simpa using h
  rw [this]; exact .base
 rintro j us ⟨ag, p, rfl, i1, i2, i3, rfl⟩
 cases ag with
 | false =>
  have hp := rc_of_closed (by omega) i1 i2 (i3 rfl)
  simp (contextual := true) (maxSteps := 1000000) (disch := omega) only [↓Sd, ↓So, ↓Sk, ↓den, ↓denA, Sa, Sb, Sc, Se, O1.d, O2.d, O3.d, cmI, arI, envOf, putN, ↓reduceIte, Nat.reduceLT, Nat.reduceSub, Nat.reduceAdd, Int.reduceAdd, Int.reduceEq, Int.reduceLT, Int.reduceLE, arr_pos, arr_neg, C_spec_l4List_tab p n (by omega)]
  rw [hn]
  exact upTo_congr fun k hk => by rw [hp k hk, hres]
 | true =>
  simp (contextual := true) (maxSteps := 1000000) (disch := omega) only [↓Sd, ↓So, ↓Sk, ↓den, ↓denA, Sa, Sb, Sc, Se, O1.d, O2.d, O3.d, cmI, arI, envOf, putN, ↓reduceIte, Nat.reduceLT, Nat.reduceSub, Nat.reduceAdd, Int.reduceAdd, Int.reduceEq, Int.reduceLT, Int.reduceLE, arr_pos, arr_neg, ]
  refine mc.lp_for (Bool × (Nat → Bool)) (fun i q => [⟨L I, st⟩, ⟨B, q.1⟩, ⟨I, (i : Int)⟩, ⟨L V3, s.1⟩, ⟨L TR, s.2⟩, ⟨L B, tab q.2 n⟩]) (fun i q => TI E n r p i q.1 q.2) n 0 (false, p) _ rfl (Nat.zero_le _) ⟨i1, fun _ _ h => h, i2, fun _ _ _ => rfl, fun _ a ha => absurd ha (Nat.not_lt_zero _), (fun h => by cases h)⟩ ?_ ?_
  ·rintro i ⟨ag, q⟩ hi hq
   have hi' : i < s.2.length := by omega
   have hwl := @wkL_len s i h
   have hab : decide (((useM s.1 (rl s i) st).length : Int) > 0) = abS s st i := by
    unfold abS
    refine decide_eq_decide.2 ?_
    rw [← List.length_eq_zero_iff]; omega
   have erl : s.2.getD i ([], [], []) = rl s i := rfl
   have hEi : ∀ m, E i m = bif abS s st i then (decide (m ≠ i) && !dB (Apr s i m)) else dB ((m : Int) ∈ wkL s i) := fun m => by rw [← hE]; rfl
   simp (contextual := true) (maxSteps := 1000000) (disch := omega) only [↓Sd, ↓So, ↓Sk, ↓den, ↓denA, Sa, Sb, Sc, Se, O1.d, O2.d, O3.d, cmI, arI, envOf, putN, ↓reduceIte, Nat.reduceLT, Nat.reduceSub, Nat.reduceAdd, Int.reduceAdd, Int.reduceEq, Int.reduceLT, Int.reduceLE, arr_pos, arr_neg, ↓wpJoin, C_spec_l2Use s st i h hst hi', erl, hab]
   refine mc.lp_for (Bool × (Nat → Bool)) (fun j q => [⟨L I, st⟩, ⟨B, q.1⟩, ⟨I, (i : Int)⟩, ⟨B, abS s st i⟩, ⟨I, (j : Int)⟩, ⟨L V3, s.1⟩, ⟨L TR, s.2⟩, ⟨L B, tab q.2 n⟩]) (fun j q => TJ E n r p i j q.1 q.2) n 0 (ag, q) _ rfl (Nat.zero_le _) { hq with c4 := fun _ _ m hm => absurd hm (Nat.not_lt_zero _) } ?_ ?_
   ·rintro j ⟨ag, q⟩ hj hq
    have hj' : j < s.2.length := by omega
    have hEj := hEi j
    cases hab : abS s st i with
    | true =>
     rw [hab] at hEj
     simp (contextual := true) (maxSteps := 1000000) (disch := omega) only [↓Sd, ↓So, ↓Sk, ↓den, ↓denA, Sa, Sb, Sc, Se, O1.d, O2.d, O3.d, cmI, arI, envOf, putN, ↓reduceIte, Nat.reduceLT, Nat.reduceSub, Nat.reduceAdd, Int.reduceAdd, Int.reduceEq, Int.reduceLT, Int.reduceLE, arr_pos, arr_neg, ↓wpJoin, tab_len, tab_get hi, tab_get hj, tab_set', C_spec_l26Apart s i j hs h hi' hj']
     refine ⟨fun gi => ⟨fun gj => ⟨fun ga => ⟨fun gq => ⟨(_, _), ⟨rfl, rfl⟩, hq.put hi hj gi ?_ gq⟩, fun gq => ⟨(_, _), ⟨rfl, rfl⟩, hq.skip fun _ => by simpa using gq⟩⟩, fun ga => ⟨(_, _), ⟨rfl, rfl⟩, hq.skip fun ge => ?_⟩⟩, fun gj => ⟨(_, _), ⟨rfl, rfl⟩, hq.skip fun ge => ?_⟩⟩, fun gi => ⟨(_, _), ⟨rfl, rfl⟩, hq.next hi (.inl (by simpa using gi))⟩⟩
     ·rw [hEj, ga]
      simp only [cond_true, Bool.not_false, Bool.and_true, decide_eq_true_eq]
      omega
     ·rw [hEj] at ge
      simp only [cond_true, Bool.and_eq_true, Bool.not_eq_true'] at ge
      exact absurd ge.2 ga
     ·rw [hEj] at ge
      simp only [cond_true, Bool.and_eq_true, decide_eq_true_eq] at ge
      omega
    | false =>
     rw [hab] at hEj
     simp (contextual := true) (maxSteps := 1000000) (disch := omega) only [↓Sd, ↓So, ↓Sk, ↓den, ↓denA, Sa, Sb, Sc, Se, O1.d, O2.d, O3.d, cmI, arI, envOf, putN, ↓reduceIte, Nat.reduceLT, Nat.reduceSub, Nat.reduceAdd, Int.reduceAdd, Int.reduceEq, Int.reduceLT, Int.reduceLE, arr_pos, arr_neg, ↓wpJoin, tab_len, tab_get hi, tab_get hj, tab_set', C_spec_l26Wakers s i hs h hi', C_spec_l2Has (wkL s i) j (by omega)]
     exact ⟨fun gi => ⟨fun ga => ⟨fun gq => ⟨(_, _), ⟨rfl, rfl⟩, hq.put hi hj gi (hEj.trans ga) gq⟩, fun gq => ⟨(_, _), ⟨rfl, rfl⟩, hq.skip fun _ => by simpa using gq⟩⟩, fun ga => ⟨(_, _), ⟨rfl, rfl⟩, hq.skip fun ge => absurd (hEj.symm.trans ge) ga⟩⟩, fun gi => ⟨(_, _), ⟨rfl, rfl⟩, hq.next hi (.inl (by simpa using gi))⟩⟩
   ·rintro ⟨ag, q⟩ hq
    simp (contextual := true) (maxSteps := 1000000) (disch := omega) only [↓Sd, ↓So, ↓Sk, ↓den, ↓denA, Sa, Sb, Sc, Se, O1.d, O2.d, O3.d, cmI, arI, envOf, putN, ↓reduceIte, Nat.reduceLT, Nat.reduceSub, Nat.reduceAdd, Int.reduceAdd, Int.reduceEq, Int.reduceLT, Int.reduceLE, arr_pos, arr_neg, hn]
    exact ⟨(ag, q), ⟨rfl, rfl⟩, hq.next hi (.inr (Nat.le_refl _))⟩
  ·rintro ⟨ag, q⟩ hq
   simp (contextual := true) (maxSteps := 1000000) (disch := omega) only [↓Sd, ↓So, ↓Sk, ↓den, ↓denA, Sa, Sb, Sc, Se, O1.d, O2.d, O3.d, cmI, arI, envOf, putN, ↓reduceIte, Nat.reduceLT, Nat.reduceSub, Nat.reduceAdd, Int.reduceAdd, Int.reduceEq, Int.reduceLT, Int.reduceLE, arr_pos, arr_neg, hn]
   refine ⟨2 * cntF q n + (if ag = true then 1 else 0), ?_, ag, q, ⟨rfl, rfl⟩, hq.b0, hq.b2, fun ha a h1 h2 m hm he => ?_, rfl⟩
   ·cases ag with
    | true => have := hq.b5 rfl; simp only at this ⊢; simp only [if_true]; omega
    | false => have := cntF_congr (hq.b3 rfl); simp only at this ⊢; simp only [Bool.false_eq_true, if_false]; omega
   ·have := hq.b4 ha a h1 h1 (by rw [← hq.b3 ha a h1]; exact h2) m hm he
    rw [← hq.b3 ha m hm] at this; exact this
def inS (s : Sy) (st : List Int) : Prop := valid s ∧ inR s.1 st
theorem usb_abS {s : Sy} {st : List Int} : usb s st = upTo (abS s st) s.2.length := rfl
theorem C_impl_InRange_a (s : Sy) (st : List Int) (hs : FewSy s) (hl : st.length ≤ 1048576) (Q : List AV → Prop) : mc.C f_impl_InRange [⟨L V3, s.1⟩, ⟨L TR, s.2⟩, ⟨L I, st⟩] Q = Q [⟨B, dB (inS s st)⟩] := by
 refine Mc.Ends.c (mc.ends F_impl_InRange ?_)
 by_cases hv : valid s
 ·simp (contextual := true) (maxSteps := 1000000) (disch := omega) only [↓Sd, ↓So, ↓Sk, ↓den, ↓denA, Sa, Sb, Sc, Se, O1.d, O2.d, O3.d, cmI, arI, envOf, putN, ↓reduceIte, Nat.reduceLT, Nat.reduceSub, Nat.reduceAdd, Int.reduceAdd, Int.reduceEq, Int.reduceLT, Int.reduceLE, arr_pos, arr_neg, tr_impl_InRange, C_impl_SystemValid s hs, decide_eq_true hv, C_impl_inRange s st hv.1.2 hl]
  rw [← dB_eq]
  exact dB_congr ⟨fun h => ⟨hv, h⟩, fun h => h.2⟩
 ·simp (contextual := true) (maxSteps := 1000000) (disch := omega) only [↓Sd, ↓So, ↓Sk, ↓den, ↓denA, Sa, Sb, Sc, Se, O1.d, O2.d, O3.d, cmI, arI, envOf, putN, ↓reduceIte, Nat.reduceLT, Nat.reduceSub, Nat.reduceAdd, Int.reduceAdd, Int.reduceEq, Int.reduceLT, Int.reduceLE, arr_pos, arr_neg, tr_impl_InRange, C_impl_SystemValid s hs, decide_eq_false hv]
  rw [dB_f fun h => hv h.1]
theorem C_spec_InRange_a (s : Sy) (st : List Int) (hs : FewSy s) (hl : st.length ≤ 1048576) (Q : List AV → Prop) : mc.C f_spec_InRange [⟨L V3, s.1⟩, ⟨L TR, s.2⟩, ⟨L I, st⟩] Q = Q [⟨B, dB (inS s st)⟩] := by
 refine Mc.Ends.c (mc.ends F_spec_InRange ?_)
 by_cases hv : valid s
 ·simp (contextual := true) (maxSteps := 1000000) (disch := omega) only [↓Sd, ↓So, ↓Sk, ↓den, ↓denA, Sa, Sb, Sc, Se, O1.d, O2.d, O3.d, cmI, arI, envOf, putN, ↓reduceIte, Nat.reduceLT, Nat.reduceSub, Nat.reduceAdd, Int.reduceAdd, Int.reduceEq, Int.reduceLT, Int.reduceLE, arr_pos, arr_neg, tr_spec_InRange, C_spec_SystemValid s hs, decide_eq_true hv, C_spec_l2In s st hv.1.2 hl]
  rw [← dB_eq]
  exact dB_congr ⟨fun h => ⟨hv, h⟩, fun h => h.2⟩
 ·simp (contextual := true) (maxSteps := 1000000) (disch := omega) only [↓Sd, ↓So, ↓Sk, ↓den, ↓denA, Sa, Sb, Sc, Se, O1.d, O2.d, O3.d, cmI, arI, envOf, putN, ↓reduceIte, Nat.reduceLT, Nat.reduceSub, Nat.reduceAdd, Int.reduceAdd, Int.reduceEq, Int.reduceLT, Int.reduceLE, arr_pos, arr_neg, tr_spec_InRange, C_spec_SystemValid s hs, decide_eq_false hv]
  rw [dB_f fun h => hv h.1]
def sfK (s : Sy) (st : List Int) (r : Int) : Prop := inS s st ∧ 0 ≤ r ∧ r ≤ (s.2.length : Int) - 1
open Classical in
noncomputable def sfL (s : Sy) (st : List Int) (r : Int) : List Int := if sfK s st r then upTo (frS s st r.toNat) s.2.length else []
theorem sfL_len {s : Sy} {st : List Int} {r : Int} : (sfL s st r).length ≤ 8 := by
 unfold sfL
 split
 ·rename_i h
  have := h.1.1.2.1
  exact Nat.le_trans upTo_len this
 ·simp
theorem C_spec_StubbornFrom (s : Sy) (st : List Int) (r : Int) (hs : FewSy s) (hl : st.length ≤ 1048576) (Q : List AV → Prop) : mc.C f_spec_StubbornFrom [⟨L V3, s.1⟩, ⟨L TR, s.2⟩, ⟨L I, st⟩, ⟨I, r⟩] Q = Q [⟨L I, sfL s st r⟩] := by
 refine Mc.Ends.c (mc.ends F_spec_StubbornFrom ?_)
 have hsl : s.2.length ≤ 1048576 := hs.2.1
 by_cases h : sfK s st r
 ·obtain ⟨m, rfl⟩ : ∃ m : Nat, r = m := ⟨r.toNat, by have := h.2; omega⟩
  have hm := h.2
  simp (contextual := true) (maxSteps := 1000000) (disch := omega) only [↓Sd, ↓So, ↓Sk, ↓den, ↓denA, Sa, Sb, Sc, Se, O1.d, O2.d, O3.d, cmI, arI, envOf, putN, ↓reduceIte, Nat.reduceLT, Nat.reduceSub, Nat.reduceAdd, Int.reduceAdd, Int.reduceEq, Int.reduceLT, Int.reduceLE, arr_pos, arr_neg, tr_spec_StubbornFrom, C_spec_InRange_a s st hs hl, dB_t h.1, C_spec_l1In, decide_eq_true (show 0 ≤ (m : Int) ∧ (m : Int) ≤ (s.2.length : Int) - 1 from h.2), C_spec_l26From s st m hs h.1.1 h.1.2 (by omega)]
  rw [sfL, if_pos h]; rfl
 ·rw [sfL, if_neg h]
  by_cases h1 : inS s st
  ·simp (contextual := true) (maxSteps := 1000000) (disch := omega) only [↓Sd, ↓So, ↓Sk, ↓den, ↓denA, Sa, Sb, Sc, Se, O1.d, O2.d, O3.d, cmI, arI, envOf, putN, ↓reduceIte, Nat.reduceLT, Nat.reduceSub, Nat.reduceAdd, Int.reduceAdd, Int.reduceEq, Int.reduceLT, Int.reduceLE, arr_pos, arr_neg, tr_spec_StubbornFrom, C_spec_InRange_a s st hs hl, dB_t h1, C_spec_l1In]
   intro h2
   exact absurd ⟨h1, h2⟩ h
  ·simp (contextual := true) (maxSteps := 1000000) (disch := omega) only [↓Sd, ↓So, ↓Sk, ↓den, ↓denA, Sa, Sb, Sc, Se, O1.d, O2.d, O3.d, cmI, arI, envOf, putN, ↓reduceIte, Nat.reduceLT, Nat.reduceSub, Nat.reduceAdd, Int.reduceAdd, Int.reduceEq, Int.reduceLT, Int.reduceLE, arr_pos, arr_neg, tr_spec_StubbornFrom, C_spec_InRange_a s st hs hl, dB_f h1]
theorem C_impl_StubbornFrom (s : Sy) (st : List Int) (r : Int) (hs : FewSy s) (hl : st.length ≤ 1048576) (Q : List AV → Prop) : mc.C f_impl_StubbornFrom [⟨L V3, s.1⟩, ⟨L TR, s.2⟩, ⟨L I, st⟩, ⟨I, r⟩] Q = Q [⟨L I, sfL s st r⟩] := by
 refine Mc.Ends.c (mc.ends F_impl_StubbornFrom ?_)
 have hsl : s.2.length ≤ 1048576 := hs.2.1
 by_cases h : sfK s st r
 ·obtain ⟨m, rfl⟩ : ∃ m : Nat, r = m := ⟨r.toNat, by have := h.2; omega⟩
  have hm := h.2
  have hv := h.1.1
  have h8 := hv.2.1
  have hul := @upTo_len (abS s st) s.2.length
  have hmk : tab (fun k => dB ((k : Int) ∈ upTo (abS s st) s.2.length)) s.2.length = tab (abS s st) s.2.length := tab_congr fun k hk => by rw [dB_upTo]; simp [hk]
  have hres : (fun k => dB (Rc (eI' (abS s st) (fun k m => dB (Apr s k m)) (wkL s)) s.2.length m k)) = frS s st m := rfl
  simp (contextual := true) (maxSteps := 1000000) (disch := omega) only [↓Sd, ↓So, ↓Sk, ↓den, ↓denA, Sa, Sb, Sc, Se, O1.d, O2.d, O3.d, cmI, arI, envOf, putN, ↓reduceIte, Nat.reduceLT, Nat.reduceSub, Nat.reduceAdd, Int.reduceAdd, Int.reduceEq, Int.reduceLT, Int.reduceLE, arr_pos, arr_neg, tr_impl_StubbornFrom, C_impl_InRange_a s st hs hl, dB_t h.1, C_impl_in, decide_eq_true (show 0 ≤ (m : Int) ∧ (m : Int) ≤ (s.2.length : Int) - 1 from h.2), C_impl_stubbornOf s hv, C_impl_usableIn s st hv h.1.2, usb_abS, C_impl_marks (upTo (abS s st) s.2.length) s.2.length (by omega) (by omega) (fun x hx => by obtain ⟨a, h1, rfl, _⟩ := upTo_mem.1 hx; omega), hmk,
   C_impl_stubborn_from (abS s st) (fun k m => dB (Apr s k m)) (wkL s) s.2.length m (by omega) (by omega) (fun k _ => wkL_len hv), hres, C_impl_listOf_tab (frS s st m) s.2.length (by omega)]
  rw [sfL, if_pos h]; rfl
 ·rw [sfL, if_neg h]
  by_cases h1 : inS s st
  ·simp (contextual := true) (maxSteps := 1000000) (disch := omega) only [↓Sd, ↓So, ↓Sk, ↓den, ↓denA, Sa, Sb, Sc, Se, O1.d, O2.d, O3.d, cmI, arI, envOf, putN, ↓reduceIte, Nat.reduceLT, Nat.reduceSub, Nat.reduceAdd, Int.reduceAdd, Int.reduceEq, Int.reduceLT, Int.reduceLE, arr_pos, arr_neg, tr_impl_StubbornFrom, C_impl_InRange_a s st hs hl, dB_t h1, C_impl_in]
   intro h2
   exact absurd ⟨h1, h2⟩ h
  ·simp (contextual := true) (maxSteps := 1000000) (disch := omega) only [↓Sd, ↓So, ↓Sk, ↓den, ↓denA, Sa, Sb, Sc, Se, O1.d, O2.d, O3.d, cmI, arI, envOf, putN, ↓reduceIte, Nat.reduceLT, Nat.reduceSub, Nat.reduceAdd, Int.reduceAdd, Int.reduceEq, Int.reduceLT, Int.reduceLE, arr_pos, arr_neg, tr_impl_StubbornFrom, C_impl_InRange_a s st hs hl, dB_f h1]
theorem law_FnExactStubbornFrom (s : Sy) (l : List Int) (k : Int) (hs : LtSy s) (hl : Lt63 l) : mc.C f_laws_FnExactStubbornFrom [⟨L V3, s.1⟩, ⟨L TR, s.2⟩, ⟨L I, l⟩, ⟨I, k⟩] (· = [⟨B, true⟩]) := by
 refine mc.c_of F_laws_FnExactStubbornFrom ?_
 simp (contextual := true) (maxSteps := 1000000) (disch := omega) only [↓Sd, ↓So, ↓Sk, ↓den, ↓denA, Sa, Sb, Sc, Se, O1.d, O2.d, O3.d, cmI, arI, envOf, putN, ↓reduceIte, Nat.reduceLT, Nat.reduceSub, Nat.reduceAdd, Int.reduceAdd, Int.reduceEq, Int.reduceLT, Int.reduceLE, arr_pos, arr_neg, tr_laws_FnExactStubbornFrom]
 intro h1
 refine sz_System s _ (by omega) hs fun j h2 h3 => ?_
 simp (contextual := true) (maxSteps := 1000000) (disch := omega) only [↓Sd, ↓So, ↓Sk, ↓den, ↓denA, Sa, Sb, Sc, Se, O1.d, O2.d, O3.d, cmI, arI, envOf, putN, ↓reduceIte, Nat.reduceLT, Nat.reduceSub, Nat.reduceAdd, Int.reduceAdd, Int.reduceEq, Int.reduceLT, Int.reduceLE, arr_pos, arr_neg, ]
 intro h4
 have hs := h3 (by omega)
 have hf : Few l := by unfold Few; omega
 have hfl : l.length ≤ 1048576 := hf
 have hr := @sfL_len s l k
 simp (contextual := true) (maxSteps := 1000000) (disch := omega) only [↓Sd, ↓So, ↓Sk, ↓den, ↓denA, Sa, Sb, Sc, Se, O1.d, O2.d, O3.d, cmI, arI, envOf, putN, ↓reduceIte, Nat.reduceLT, Nat.reduceSub, Nat.reduceAdd, Int.reduceAdd, Int.reduceEq, Int.reduceLT, Int.reduceLE, arr_pos, arr_neg, to_System s hs, to_IntS l hf, C_spec_StubbornFrom s l k hs hfl, C_impl_StubbornFrom s l k hs hfl, eq_IntS (sfL s l k) (few_i (by omega)), eq_System s hs, eq_IntS l hf]
 refine mk_System s 1 (by omega) hs fun k' v r hk' => ?_
 simp (contextual := true) (maxSteps := 1000000) (disch := omega) only [↓Sd, ↓So, ↓Sk, ↓den, ↓denA, Sa, Sb, Sc, Se, O1.d, O2.d, O3.d, cmI, arI, envOf, putN, ↓reduceIte, Nat.reduceLT, Nat.reduceSub, Nat.reduceAdd, Int.reduceAdd, Int.reduceEq, Int.reduceLT, Int.reduceLE, arr_pos, arr_neg, mk_IntS l k' (by omega) hf, eq_IntS (sfL s l k) (few_i (by omega)), mk_IntS (sfL s l k) 1 (by omega) (by omega), held_IntS (sfL s l k).length 1 (by omega) (by omega), to_System s hs, to_IntS l hf, C_impl_StubbornFrom s l k hs hfl]
noncomputable def sbP (s : Sy) (st : List Int) (r k : Nat) : Bool := frS s st r k && abS s st k
noncomputable def sbL (s : Sy) (st : List Int) (r : Nat) : List Int := upTo (sbP s st r) s.2.length
noncomputable def fldS (s : Sy) (st : List Int) (b : List Int) (x : Int) : List Int := if b = [] ∨ (sbL s st x.toNat).length < b.length then sbL s st x.toNat else b
noncomputable def fld (s : Sy) (st : List Int) (l : List Int) : List Int := l.foldl (fldS s st) []
theorem fld_snoc {s : Sy} {st l : List Int} {x : Int} : fld s st (l ++ [x]) = fldS s st (fld s st l) x := by simp [fld]
noncomputable def bsL (s : Sy) (st : List Int) : List Int := fld s st (upTo (abS s st) s.2.length)
theorem sbL_mem {s : Sy} {st : List Int} {r : Nat} (hr : r < s.2.length) (ha : abS s st r = true) : ¬ sbL s st r = [] := by
 intro h
 have : (r : Int) ∈ sbL s st r := upTo_mem.2 ⟨r, hr, rfl, by rw [sbP, ha, frS, dB_t .base]; rfl⟩
 rw [h] at this; cases this
theorem sbL_len {s : Sy} {st : List Int} {r : Nat} : (sbL s st r).length ≤ s.2.length := upTo_len
theorem fld_len {s : Sy} {st : List Int} : ∀ {l b : List Int}, b.length ≤ s.2.length → (l.foldl (fldS s st) b).length ≤ s.2.length
 | [], b, h => h
 | x :: l, b, h => fld_len (l := l) (by
  unfold fldS
  split
  ·exact sbL_len
  ·exact h)
theorem bsL_len {s : Sy} {st : List Int} : (bsL s st).length ≤ s.2.length := fld_len (Nat.zero_le _)
theorem upTo_filt2 {p q : Nat → Bool} : ∀ {n : Nat}, (upTo p n).filter (fun x => q x.toNat) = upTo (fun k => p k && q k) n
 | 0 => rfl
 | n + 1 => by
  by_cases hp : p n = true
  ·rw [upTo_s hp, List.filter_append, upTo_filt2 (n := n)]
   by_cases hq : q n = true
   ·rw [upTo_s (p := fun k => p k && q k) (by simp [hp, hq])]
    simp [hq]
   ·rw [upTo_n (p := fun k => p k && q k) (by simp [hq])]
    simp [hq]
  ·rw [upTo_n hp, upTo_n (p := fun k => p k && q k) (by simp [hp])]
   exact upTo_filt2 (n := n)
theorem C_spec_l26Usable (s : Sy) (st : List Int) (r : Nat) (h : valid s) (hst : inR s.1 st) (Q : List AV → Prop) : mc.C f_spec_l26Usable [⟨L V3, s.1⟩, ⟨L TR, s.2⟩, ⟨L I, st⟩, ⟨L I, upTo (frS s st r) s.2.length⟩] Q = Q [⟨L I, sbL s st r⟩] := by
 refine Mc.Ends.c (mc.ends F_spec_l26Usable ?_)
 have h8 := h.2.1
 have hul := @upTo_len (frS s st r) s.2.length
 simp (contextual := true) (maxSteps := 1000000) (disch := omega) only [↓Sd, ↓So, ↓Sk, ↓den, ↓denA, Sa, Sb, Sc, Se, O1.d, O2.d, O3.d, cmI, arI, envOf, putN, ↓reduceIte, Nat.reduceLT, Nat.reduceSub, Nat.reduceAdd, Int.reduceAdd, Int.reduceEq, Int.reduceLT, Int.reduceLE, arr_pos, arr_neg, tr_spec_l26Usable]
 refine mc.lp_for (List Int) (fun i o => [⟨L I, st⟩, ⟨L I, upTo (frS s st r) s.2.length⟩, ⟨I, (i : Int)⟩, ⟨L V3, s.1⟩, ⟨L TR, s.2⟩, ⟨L I, o⟩]) (fun i o => o = ((upTo (frS s st r) s.2.length).take i).filter (fun x => abS s st x.toNat)) (upTo (frS s st r) s.2.length).length 0 [] _ rfl (Nat.zero_le _) rfl ?_ ?_
 ·rintro i o hi rfl
  obtain ⟨k, hk, hx, _⟩ := upTo_mem.1 (getD_mem (d := 0) hi)
  have hfl := List.length_filter_le (fun x : Int => abS s st x.toNat) ((upTo (frS s st r) s.2.length).take i)
  rw [List.length_take] at hfl
  have erl : s.2.getD k ([], [], []) = rl s k := rfl
  have hab : ((useM s.1 (rl s k) st).length > 0) ↔ abS s st k = true := by
   unfold abS
   rw [decide_eq_true_eq, ← List.length_eq_zero_iff]; omega
  have hnx : ((upTo (frS s st r) s.2.length).take (i + 1)).filter (fun x => abS s st x.toNat) = ((upTo (frS s st r) s.2.length).take i).filter (fun x => abS s st x.toNat) ++ (if abS s st k = true then [(k : Int)] else []) := by
   rw [List.take_succ_eq_append_getElem hi, List.filter_append, ← getD_lt (d := 0) hi, hx]
   congr 1
   simp [List.filter_cons]
  obtain ⟨F, hF⟩ : ∃ F, ((upTo (frS s st r) s.2.length).take i).filter (fun x => abS s st x.toNat) = F := ⟨_, rfl⟩
  rw [hnx]
  rw [hF] at hfl ⊢
  simp (contextual := true) (maxSteps := 1000000) (disch := omega) only [↓Sd, ↓So, ↓Sk, ↓den, ↓denA, Sa, Sb, Sc, Se, O1.d, O2.d, O3.d, cmI, arI, envOf, putN, ↓reduceIte, Nat.reduceLT, Nat.reduceSub, Nat.reduceAdd, Int.reduceAdd, Int.reduceEq, Int.reduceLT, Int.reduceLE, arr_pos, arr_neg, ↓wpJoin, hx, C_spec_l2Use s st k h hst hk, erl]
  exact ⟨fun g => by rw [if_pos (hab.1 (by omega))], fun g => by rw [if_neg (fun h => g (by have := hab.2 h; omega)), List.append_nil]⟩
 ·rintro o rfl
  rw [List.take_length]
  simp (contextual := true) (maxSteps := 1000000) (disch := omega) only [↓Sd, ↓So, ↓Sk, ↓den, ↓denA, Sa, Sb, Sc, Se, O1.d, O2.d, O3.d, cmI, arI, envOf, putN, ↓reduceIte, Nat.reduceLT, Nat.reduceSub, Nat.reduceAdd, Int.reduceAdd, Int.reduceEq, Int.reduceLT, Int.reduceLE, arr_pos, arr_neg, ]
  exact upTo_filt2
theorem C_spec_l26Best (s : Sy) (st : List Int) (hs : FewSy s) (h : valid s) (hst : inR s.1 st) (Q : List AV → Prop) : mc.C f_spec_l26Best [⟨L V3, s.1⟩, ⟨L TR, s.2⟩, ⟨L I, st⟩] Q = Q [⟨L I, bsL s st⟩] := by
 refine Mc.Ends.c (mc.ends F_spec_l26Best ?_)
 have h8 := h.2.1
 simp (contextual := true) (maxSteps := 1000000) (disch := omega) only [↓Sd, ↓So, ↓Sk, ↓den, ↓denA, Sa, Sb, Sc, Se, O1.d, O2.d, O3.d, cmI, arI, envOf, putN, ↓reduceIte, Nat.reduceLT, Nat.reduceSub, Nat.reduceAdd, Int.reduceAdd, Int.reduceEq, Int.reduceLT, Int.reduceLE, arr_pos, arr_neg, tr_spec_l26Best]
 refine mc.lp_for (List Int) (fun i o => [⟨L I, st⟩, ⟨I, (i : Int)⟩, ⟨L V3, s.1⟩, ⟨L TR, s.2⟩, ⟨L I, o⟩]) (fun i o => o = fld s st (upTo (abS s st) i)) s.2.length 0 [] _ rfl (Nat.zero_le _) rfl ?_ ?_
 ·rintro i o hi rfl
  have erl : s.2.getD i ([], [], []) = rl s i := rfl
  have hab : ((useM s.1 (rl s i) st).length > 0) ↔ abS s st i = true := by
   unfold abS
   rw [decide_eq_true_eq, ← List.length_eq_zero_iff]; omega
  obtain ⟨F, hF⟩ : ∃ F, fld s st (upTo (abS s st) i) = F := ⟨_, rfl⟩
  rw [hF]
  simp (contextual := true) (maxSteps := 1000000) (disch := omega) only [↓Sd, ↓So, ↓Sk, ↓den, ↓denA, Sa, Sb, Sc, Se, O1.d, O2.d, O3.d, cmI, arI, envOf, putN, ↓reduceIte, Nat.reduceLT, Nat.reduceSub, Nat.reduceAdd, Int.reduceAdd, Int.reduceEq, Int.reduceLT, Int.reduceLE, arr_pos, arr_neg, ↓wpJoin, C_spec_l2Use s st i h hst hi, erl, C_spec_l26From s st i hs h hst hi, C_spec_l26Usable s st i h hst]
  refine ⟨fun g => ?_, fun g => ?_⟩
  ·have ha : abS s st i = true := hab.1 (by omega)
   rw [upTo_s (p := abS s st) ha, fld_snoc, hF, fldS, Int.toNat_natCast]
   refine ⟨fun g1 => by rw [if_pos (.inl (List.eq_nil_of_length_eq_zero (by omega)))], fun g1 => ⟨fun g2 => by rw [if_pos (.inr (by omega))], fun g2 => ?_⟩⟩
   rw [if_neg]
   rintro (h1 | h1)
   ·exact g1 (by rw [h1]; rfl)
   ·omega
  ·rw [upTo_n (p := abS s st) fun h => g (by have := hab.2 h; omega), hF]
 ·rintro o rfl
  simp (contextual := true) (maxSteps := 1000000) (disch := omega) only [↓Sd, ↓So, ↓Sk, ↓den, ↓denA, Sa, Sb, Sc, Se, O1.d, O2.d, O3.d, cmI, arI, envOf, putN, ↓reduceIte, Nat.reduceLT, Nat.reduceSub, Nat.reduceAdd, Int.reduceAdd, Int.reduceEq, Int.reduceLT, Int.reduceLE, arr_pos, arr_neg, ]
  rfl
theorem C_impl_stubborn_in (s : Sy) (st : List Int) (h : valid s) (hst : inR s.1 st) (Q : List AV → Prop) :
  mc.C f_impl_stubborn_in [⟨P (L (L B)) (L (L I)), (tab (fun k => tab (fun m => dB (Apr s k m)) s.2.length) s.2.length, tab (wkL s) s.2.length)⟩, ⟨L V3, s.1⟩, ⟨L TR, s.2⟩, ⟨L I, st⟩] Q = Q [⟨L I, bsL s st⟩, ⟨P (L (L B)) (L (L I)), (tab (fun k => tab (fun m => dB (Apr s k m)) s.2.length) s.2.length, tab (wkL s) s.2.length)⟩] := by
 refine Mc.Ends.c (mc.ends F_impl_stubborn_in ?_)
 have h8 := h.2.1
 have hul := @upTo_len (abS s st) s.2.length
 have hmk : tab (fun k => dB ((k : Int) ∈ upTo (abS s st) s.2.length)) s.2.length = tab (abS s st) s.2.length := tab_congr fun k hk => by rw [dB_upTo]; simp [hk]
 have hfrm := fun m (hm : m < s.2.length) => C_impl_stubborn_from (abS s st) (fun k m => dB (Apr s k m)) (wkL s) s.2.length m h8 hm (fun k _ => wkL_len h)
 have hres : ∀ m, (fun k => dB (Rc (eI' (abS s st) (fun k m => dB (Apr s k m)) (wkL s)) s.2.length m k)) = frS s st m := fun m => rfl
 simp only [hres] at hfrm
 obtain ⟨AA, hAA⟩ : ∃ AA, tab (fun k => tab (fun m => dB (Apr s k m)) s.2.length) s.2.length = AA := ⟨_, rfl⟩
 obtain ⟨WW, hWW⟩ : ∃ WW, tab (wkL s) s.2.length = WW := ⟨_, rfl⟩
 have hbl := @bsL_len s st
 rw [hAA, hWW] at hfrm ⊢
 simp (contextual := true) (maxSteps := 1000000) (disch := omega) only [↓Sd, ↓So, ↓Sk, ↓den, ↓denA, Sa, Sb, Sc, Se, O1.d, O2.d, O3.d, cmI, arI, envOf, putN, ↓reduceIte, Nat.reduceLT, Nat.reduceSub, Nat.reduceAdd, Int.reduceAdd, Int.reduceEq, Int.reduceLT, Int.reduceLE, arr_pos, arr_neg, tr_impl_stubborn_in, C_impl_usableIn s st h hst, usb_abS, C_impl_marks (upTo (abS s st) s.2.length) s.2.length (by omega) (by omega) (fun x hx => by obtain ⟨a, h1, rfl, _⟩ := upTo_mem.1 hx; omega), hmk]
 obtain ⟨n, hn⟩ : ∃ n, s.2.length = n := ⟨_, rfl⟩
 rw [hn] at h8 hul hfrm ⊢
 refine mc.lp_for (List Int) (fun i o => [⟨N I, o⟩, ⟨I, ((upTo (abS s st) n).length : Int)⟩, ⟨I, (i : Int)⟩, ⟨L (L B), AA⟩, ⟨L (L I), WW⟩, ⟨L B, tab (abS s st) n⟩, ⟨L I, upTo (abS s st) n⟩]) (fun i o => o = fld s st ((upTo (abS s st) n).take i)) (upTo (abS s st) n).length 0 [] _ rfl (Nat.zero_le _) rfl ?_ ?_
 ·rintro i o hi rfl
  obtain ⟨k, hk, hx, hka⟩ := upTo_mem.1 (getD_mem (d := 0) hi)
  have hnx : fld s st ((upTo (abS s st) n).take (i + 1)) = fldS s st (fld s st ((upTo (abS s st) n).take i)) (k : Int) := by
   rw [List.take_succ_eq_append_getElem hi, ← getD_lt (d := 0) hi, hx, fld_snoc]
  have hFl : (fld s st ((upTo (abS s st) n).take i)).length ≤ s.2.length := fld_len (Nat.zero_le _)
  obtain ⟨F, hF⟩ : ∃ F, fld s st ((upTo (abS s st) n).take i) = F := ⟨_, rfl⟩
  rw [hnx]
  rw [hF] at hFl ⊢
  simp (contextual := true) (maxSteps := 1000000) (disch := omega) only [↓Sd, ↓So, ↓Sk, ↓den, ↓denA, Sa, Sb, Sc, Se, O1.d, O2.d, O3.d, cmI, arI, envOf, putN, ↓reduceIte, Nat.reduceLT, Nat.reduceSub, Nat.reduceAdd, Int.reduceAdd, Int.reduceEq, Int.reduceLT, Int.reduceLE, arr_pos, arr_neg, ↓wpJoin, hx, hfrm k hk, tab_len]
  refine mc.lp_for Unit (fun j _ => [⟨N I, F⟩, ⟨I, ((upTo (abS s st) n).length : Int)⟩, ⟨I, (i : Int)⟩, ⟨I, (n : Int)⟩, ⟨I, (j : Int)⟩, ⟨L (L B), AA⟩, ⟨L (L I), WW⟩, ⟨L B, tab (abS s st) n⟩, ⟨L B, tab (fun m => if m < j then sbP s st k m else frS s st k m) n⟩, ⟨L I, upTo (abS s st) n⟩]) (fun _ _ => True) n 0 () _ (by simp) (Nat.zero_le _) trivial ?_ ?_
  ·rintro j - hj -
   simp (contextual := true) (maxSteps := 1000000) (disch := omega) only [↓Sd, ↓So, ↓Sk, ↓den, ↓denA, Sa, Sb, Sc, Se, O1.d, O2.d, O3.d, cmI, arI, envOf, putN, ↓reduceIte, Nat.reduceLT, Nat.reduceSub, Nat.reduceAdd, Int.reduceAdd, Int.reduceEq, Int.reduceLT, Int.reduceLE, arr_pos, arr_neg, ↓wpJoin, tab_len, tab_get hj, tab_set']
   rw [if_neg (Nat.lt_irrefl j)]
   refine ⟨fun g => tab_congr fun m hm => ?_, fun g => tab_congr fun m hm => ?_⟩
   ·by_cases e : m = j
    ·subst e; rw [if_pos rfl, if_pos (Nat.lt_succ_self _), sbP, g]; rfl
    ·rw [if_neg e]
     by_cases e2 : m < j
     ·rw [if_pos e2, if_pos (by omega)]
     ·rw [if_neg e2, if_neg (by omega)]
   ·by_cases e : m = j
    ·subst e
     have g' : frS s st k m = false := by simpa using g
     rw [if_pos rfl, if_pos (Nat.lt_succ_self _), sbP, g']; rfl
    ·rw [if_neg e]
     by_cases e2 : m < j
     ·rw [if_pos e2, if_pos (by omega)]
     ·rw [if_neg e2, if_neg (by omega)]
  ·rintro - -
   have e1 : upTo (fun m => if m < n then sbP s st k m else frS s st k m) n = sbL s st k := by rw [sbL, hn]; exact upTo_congr fun m hm => if_pos hm
   have hne := sbL_mem (st := st) (by rw [hn]; exact hk) hka
   have hne' : (sbL s st k).isEmpty = false := by simpa using hne
   simp (contextual := true) (maxSteps := 1000000) (disch := omega) only [↓Sd, ↓So, ↓Sk, ↓den, ↓denA, Sa, Sb, Sc, Se, O1.d, O2.d, O3.d, cmI, arI, envOf, putN, ↓reduceIte, Nat.reduceLT, Nat.reduceSub, Nat.reduceAdd, Int.reduceAdd, Int.reduceEq, Int.reduceLT, Int.reduceLE, arr_pos, arr_neg, C_impl_listOf_tab _ n (by omega : n ≤ 1048576), e1, hne']
   rw [fldS, Int.toNat_natCast]
   refine ⟨fun g => by rw [if_pos (.inl (by simpa using g))], fun g => ⟨fun g2 => by rw [if_pos (.inr (by omega))], fun g2 => ?_⟩⟩
   rw [if_neg]
   rintro (h1 | h1)
   ·exact g (by rw [h1]; rfl)
   ·omega
 ·rintro o rfl
  rw [List.take_length]
  have e1 : fld s st (upTo (abS s st) n) = bsL s st := by rw [bsL, hn]
  rw [e1]
  simp (contextual := true) (maxSteps := 1000000) (disch := omega) only [↓Sd, ↓So, ↓Sk, ↓den, ↓denA, Sa, Sb, Sc, Se, O1.d, O2.d, O3.d, cmI, arI, envOf, putN, ↓reduceIte, Nat.reduceLT, Nat.reduceSub, Nat.reduceAdd, Int.reduceAdd, Int.reduceEq, Int.reduceLT, Int.reduceLE, arr_pos, arr_neg, C_impl_clone_int (bsL s st) (by omega)]
open Classical in
noncomputable def siL (s : Sy) (st : List Int) : List Int := if inS s st then bsL s st else []
theorem siL_len {s : Sy} {st : List Int} : (siL s st).length ≤ 8 := by
 unfold siL
 split
 ·rename_i h
  have := h.1.2.1
  exact Nat.le_trans bsL_len this
 ·simp
theorem C_spec_StubbornIn (s : Sy) (st : List Int) (hs : FewSy s) (hl : st.length ≤ 1048576) (Q : List AV → Prop) : mc.C f_spec_StubbornIn [⟨L V3, s.1⟩, ⟨L TR, s.2⟩, ⟨L I, st⟩] Q = Q [⟨L I, siL s st⟩] := by
 refine Mc.Ends.c (mc.ends F_spec_StubbornIn ?_)
 by_cases h : inS s st
 ·simp (contextual := true) (maxSteps := 1000000) (disch := omega) only [↓Sd, ↓So, ↓Sk, ↓den, ↓denA, Sa, Sb, Sc, Se, O1.d, O2.d, O3.d, cmI, arI, envOf, putN, ↓reduceIte, Nat.reduceLT, Nat.reduceSub, Nat.reduceAdd, Int.reduceAdd, Int.reduceEq, Int.reduceLT, Int.reduceLE, arr_pos, arr_neg, tr_spec_StubbornIn, C_spec_InRange_a s st hs hl, dB_t h, C_spec_l26Best s st hs h.1 h.2]
  rw [siL, if_pos h]
 ·simp (contextual := true) (maxSteps := 1000000) (disch := omega) only [↓Sd, ↓So, ↓Sk, ↓den, ↓denA, Sa, Sb, Sc, Se, O1.d, O2.d, O3.d, cmI, arI, envOf, putN, ↓reduceIte, Nat.reduceLT, Nat.reduceSub, Nat.reduceAdd, Int.reduceAdd, Int.reduceEq, Int.reduceLT, Int.reduceLE, arr_pos, arr_neg, tr_spec_StubbornIn, C_spec_InRange_a s st hs hl, dB_f h]
  rw [siL, if_neg h]
theorem C_impl_StubbornIn (s : Sy) (st : List Int) (hs : FewSy s) (hl : st.length ≤ 1048576) (Q : List AV → Prop) : mc.C f_impl_StubbornIn [⟨L V3, s.1⟩, ⟨L TR, s.2⟩, ⟨L I, st⟩] Q = Q [⟨L I, siL s st⟩] := by
 refine Mc.Ends.c (mc.ends F_impl_StubbornIn ?_)
 by_cases h : inS s st
 ·simp (contextual := true) (maxSteps := 1000000) (disch := omega) only [↓Sd, ↓So, ↓Sk, ↓den, ↓denA, Sa, Sb, Sc, Se, O1.d, O2.d, O3.d, cmI, arI, envOf, putN, ↓reduceIte, Nat.reduceLT, Nat.reduceSub, Nat.reduceAdd, Int.reduceAdd, Int.reduceEq, Int.reduceLT, Int.reduceLE, arr_pos, arr_neg, tr_impl_StubbornIn, C_impl_InRange_a s st hs hl, dB_t h, C_impl_stubbornOf s h.1, C_impl_stubborn_in s st h.1 h.2]
  rw [siL, if_pos h]
 ·simp (contextual := true) (maxSteps := 1000000) (disch := omega) only [↓Sd, ↓So, ↓Sk, ↓den, ↓denA, Sa, Sb, Sc, Se, O1.d, O2.d, O3.d, cmI, arI, envOf, putN, ↓reduceIte, Nat.reduceLT, Nat.reduceSub, Nat.reduceAdd, Int.reduceAdd, Int.reduceEq, Int.reduceLT, Int.reduceLE, arr_pos, arr_neg, tr_impl_StubbornIn, C_impl_InRange_a s st hs hl, dB_f h]
  rw [siL, if_neg h]
theorem law_FnExactStubbornIn (s : Sy) (l : List Int) (hs : LtSy s) (hl : Lt63 l) : mc.C f_laws_FnExactStubbornIn [⟨L V3, s.1⟩, ⟨L TR, s.2⟩, ⟨L I, l⟩] (· = [⟨B, true⟩]) := by
 refine mc.c_of F_laws_FnExactStubbornIn ?_
 simp (contextual := true) (maxSteps := 1000000) (disch := omega) only [↓Sd, ↓So, ↓Sk, ↓den, ↓denA, Sa, Sb, Sc, Se, O1.d, O2.d, O3.d, cmI, arI, envOf, putN, ↓reduceIte, Nat.reduceLT, Nat.reduceSub, Nat.reduceAdd, Int.reduceAdd, Int.reduceEq, Int.reduceLT, Int.reduceLE, arr_pos, arr_neg, tr_laws_FnExactStubbornIn]
 intro h1
 refine sz_System s _ (by omega) hs fun j h2 h3 => ?_
 simp (contextual := true) (maxSteps := 1000000) (disch := omega) only [↓Sd, ↓So, ↓Sk, ↓den, ↓denA, Sa, Sb, Sc, Se, O1.d, O2.d, O3.d, cmI, arI, envOf, putN, ↓reduceIte, Nat.reduceLT, Nat.reduceSub, Nat.reduceAdd, Int.reduceAdd, Int.reduceEq, Int.reduceLT, Int.reduceLE, arr_pos, arr_neg, ]
 intro h4
 have hs := h3 (by omega)
 have hf : Few l := by unfold Few; omega
 have hfl : l.length ≤ 1048576 := hf
 have hr := @siL_len s l
 simp (contextual := true) (maxSteps := 1000000) (disch := omega) only [↓Sd, ↓So, ↓Sk, ↓den, ↓denA, Sa, Sb, Sc, Se, O1.d, O2.d, O3.d, cmI, arI, envOf, putN, ↓reduceIte, Nat.reduceLT, Nat.reduceSub, Nat.reduceAdd, Int.reduceAdd, Int.reduceEq, Int.reduceLT, Int.reduceLE, arr_pos, arr_neg, to_System s hs, to_IntS l hf, C_spec_StubbornIn s l hs hfl, C_impl_StubbornIn s l hs hfl, eq_IntS (siL s l) (few_i (by omega)), eq_System s hs, eq_IntS l hf]
 refine mk_System s 1 (by omega) hs fun k' v r hk' => ?_
 simp (contextual := true) (maxSteps := 1000000) (disch := omega) only [↓Sd, ↓So, ↓Sk, ↓den, ↓denA, Sa, Sb, Sc, Se, O1.d, O2.d, O3.d, cmI, arI, envOf, putN, ↓reduceIte, Nat.reduceLT, Nat.reduceSub, Nat.reduceAdd, Int.reduceAdd, Int.reduceEq, Int.reduceLT, Int.reduceLE, arr_pos, arr_neg, mk_IntS l k' (by omega) hf, eq_IntS (siL s l) (few_i (by omega)), mk_IntS (siL s l) 1 (by omega) (by omega), held_IntS (siL s l).length 1 (by omega) (by omega), to_System s hs, to_IntS l hf, C_impl_StubbornIn s l hs hfl]
end Go.Proofs.YthapopegchnhlaaGreat
