/- What the trees come to: plain mathematics; no condition. -/
import Derived.Test.YthapopegchnhlabGreatSmMath0
namespace Go.Proofs.YthapopegchnhlabGreat
open Go Go.Sm Go.Sm.Q
set_option linter.unusedSimpArgs false
set_option linter.unusedVariables false
theorem C_impl_usableIn (s : Sy) (a : List Int) (h : valid s) (ha : inR s.1 a) (Q : List AV → Prop) : mc.C f_impl_usableIn [⟨L V3, s.1⟩, ⟨L TR, s.2⟩, ⟨L I, a⟩] Q = Q [⟨L I, usb s a⟩] := by
 refine Mc.Ends.c (mc.ends F_impl_usableIn ?_)
 simp (contextual := true) (maxSteps := 1000000) (disch := omega) only [↓Sd, ↓So, ↓Sk, ↓den, ↓denA, Sa, Sb, Sc, Se, O1.d, O2.d, O3.d, cmI, arI, envOf, putN, ↓reduceIte, Nat.reduceLT, Nat.reduceSub, Nat.reduceAdd, Int.reduceAdd, Int.reduceEq, Int.reduceLT, Int.reduceLE, arr_pos, arr_neg, tr_impl_usableIn]
 refine mc.lp_for (List Int) (fun i o => [⟨L I, a⟩, ⟨I, (s.2.length : Int)⟩, ⟨I, (i : Int)⟩, ⟨L V3, s.1⟩, ⟨L TR, s.2⟩, ⟨L I, o⟩]) (fun i o => o = upTo (fun k => decide (¬ useM s.1 (s.2.getD k ([], [], [])) a = [])) i) s.2.length 0 [] _ rfl (Nat.zero_le _) rfl ?_ ?_
 ·rintro i o hi rfl
  have h1 := @upTo_len (fun k => decide (¬ useM s.1 (s.2.getD k ([], [], [])) a = [])) i
  have h8 := h.2.1
  simp (contextual := true) (maxSteps := 1000000) (disch := omega) only [↓Sd, ↓So, ↓Sk, ↓den, ↓denA, Sa, Sb, Sc, Se, O1.d, O2.d, O3.d, cmI, arI, envOf, putN, ↓reduceIte, Nat.reduceLT, Nat.reduceSub, Nat.reduceAdd, Int.reduceAdd, Int.reduceEq, Int.reduceLT, Int.reduceLE, arr_pos, arr_neg, ↓wpJoin, C_impl_use s a i h ha hi]
  exact ⟨fun g => (upTo_s (p := fun k => decide (¬ useM s.1 (s.2.getD k ([], [], [])) a = [])) (decide_eq_true g)).symm, fun g => (upTo_n (p := fun k => decide (¬ useM s.1 (s.2.getD k ([], [], [])) a = [])) (by simpa using g)).symm⟩
 ·rintro o rfl
  have h1 := @upTo_len (fun k => decide (¬ useM s.1 (s.2.getD k ([], [], [])) a = [])) s.2.length
  have h8 := h.2.1
  simp (contextual := true) (maxSteps := 1000000) (disch := omega) only [↓Sd, ↓So, ↓Sk, ↓den, ↓denA, Sa, Sb, Sc, Se, O1.d, O2.d, O3.d, cmI, arI, envOf, putN, ↓reduceIte, Nat.reduceLT, Nat.reduceSub, Nat.reduceAdd, Int.reduceAdd, Int.reduceEq, Int.reduceLT, Int.reduceLE, arr_pos, arr_neg, C_impl_clone_int (upTo (fun k => decide (¬ useM s.1 (s.2.getD k ([], [], [])) a = [])) s.2.length) (by omega)]
  rfl
theorem C_slices_Contains_int (l : List Int) (x : Int) (hl : l.length ≤ 1048576) (Q : List AV → Prop) : mc.C f_slices_Contains_Sint_int [⟨L I, l⟩, ⟨I, x⟩] Q = Q [⟨B, dB (x ∈ l)⟩] := by
 have hI : ∀ {Q : List AV → Prop}, (∀ j : Int, (0 ≤ j ↔ x ∈ l) → Q [⟨I, j⟩]) → mc.C f_slices_Index_Sint_int [⟨L I, l⟩, ⟨I, x⟩] Q := by
  intro Q hQ
  refine mc.c_of F_slices_Index_Sint_int ?_
  simp (contextual := true) (maxSteps := 1000000) (disch := omega) only [↓Sd, ↓So, ↓Sk, ↓den, ↓denA, Sa, Sb, Sc, Se, O1.d, O2.d, O3.d, cmI, arI, envOf, putN, ↓reduceIte, Nat.reduceLT, Nat.reduceSub, Nat.reduceAdd, Int.reduceAdd, Int.reduceEq, Int.reduceLT, Int.reduceLE, arr_pos, arr_neg, tr_slices_Index_Sint_int]
  refine lp_all (fun i => [⟨L I, l⟩, ⟨I, x⟩, ⟨I, (l.length : Int)⟩, ⟨I, (i : Int)⟩]) (fun i => ¬ x = l.getD i 0) l.length _ rfl ?_ ?_
  ·intro i hi
   simp (contextual := true) (maxSteps := 1000000) (disch := omega) only [↓Sd, ↓So, ↓Sk, ↓den, ↓denA, Sa, Sb, Sc, Se, O1.d, O2.d, O3.d, cmI, arI, envOf, putN, ↓reduceIte, Nat.reduceLT, Nat.reduceSub, Nat.reduceAdd, Int.reduceAdd, Int.reduceEq, Int.reduceLT, Int.reduceLE, arr_pos, arr_neg, ]
   intro h
   refine hQ _ ⟨fun _ => ?_, fun _ => by omega⟩
   rw [h]; exact getD_mem hi
  ·intro h
   simp (contextual := true) (maxSteps := 1000000) (disch := omega) only [↓Sd, ↓So, ↓Sk, ↓den, ↓denA, Sa, Sb, Sc, Se, O1.d, O2.d, O3.d, cmI, arI, envOf, putN, ↓reduceIte, Nat.reduceLT, Nat.reduceSub, Nat.reduceAdd, Int.reduceAdd, Int.reduceEq, Int.reduceLT, Int.reduceLE, arr_pos, arr_neg, ]
   refine hQ _ ⟨fun h => by omega, fun hx => ?_⟩
   obtain ⟨i, hi, rfl⟩ := List.getElem_of_mem hx
   exact absurd (getD_lt hi).symm (h i hi)
 refine Mc.Ends.c (mc.ends F_slices_Contains_Sint_int ?_)
 simp (contextual := true) (maxSteps := 1000000) (disch := omega) only [↓Sd, ↓So, ↓Sk, ↓den, ↓denA, Sa, Sb, Sc, Se, O1.d, O2.d, O3.d, cmI, arI, envOf, putN, ↓reduceIte, Nat.reduceLT, Nat.reduceSub, Nat.reduceAdd, Int.reduceAdd, Int.reduceEq, Int.reduceLT, Int.reduceLE, arr_pos, arr_neg, tr_slices_Contains_Sint_int]
 refine hI fun j hj => ?_
 simp (contextual := true) (maxSteps := 1000000) (disch := omega) only [↓Sd, ↓So, ↓Sk, ↓den, ↓denA, Sa, Sb, Sc, Se, O1.d, O2.d, O3.d, cmI, arI, envOf, putN, ↓reduceIte, Nat.reduceLT, Nat.reduceSub, Nat.reduceAdd, Int.reduceAdd, Int.reduceEq, Int.reduceLT, Int.reduceLE, arr_pos, arr_neg, ]
 rw [← dB_eq]
 exact dB_congr hj
theorem rch_to {T U : List (List Int)} {F : List Int} {n : Nat} (ht : Tbl T n) (h : ∀ a k : Nat, a < n → k < n → (k : Int) ∈ T.getD a [] → (k : Int) ∈ U.getD a []) {k : Nat} (hr : Rch T F k) : Rch U F k := by
 induction hr with
 | base h => exact .base h
 | @step a k _ h2 ih =>
  have h3 := ht.row _ h2
  have ha : a < n := by
   rcases Nat.lt_or_ge a n with h4 | h4
   ·exact h4
   ·have : T.getD a [] = [] := by rw [List.getD_eq_getElem?_getD, List.getElem?_eq_none (by rw [ht.1]; exact h4)]; rfl
    rw [this] at h2; cases h2
  exact .step ih (h a k ha (by omega) h2)
def tAt (l : List Tm) (i : Nat) : Tm := l.getD i (0, 0, 0, 0)
structure TmsOk (l : List Tm) (vars : Int) : Prop where
 vb : 0 ≤ vars ∧ vars ≤ 5
 len : 1 ≤ l.length ∧ l.length ≤ 40
 at' : ∀ i, i < l.length → (tAt l i).1 = 0 ∨ ((tAt l i).1 = 1 ∧ 0 ≤ (tAt l i).2.1 ∧ (tAt l i).2.1 < vars) ∨ (2 ≤ (tAt l i).1 ∧ (0 ≤ (tAt l i).2.2.1 ∧ (tAt l i).2.2.1 < i) ∧ 0 ≤ (tAt l i).2.2.2 ∧ (tAt l i).2.2.2 < i)
theorem kds_at {vars : Int} : ∀ {l : List Tm} {ks o : List Int}, kds vars l ks = some o → ∀ i, i < l.length → ∃ ks', ks'.length = ks.length + i ∧ kd (tAt l i) ks' vars ≠ 0
 | [], ks, o, _, i, hi => absurd hi (Nat.not_lt_zero _)
 | t :: l, ks, o, h, i, hi => by
  simp only [kds] at h
  split at h
  ·cases h
  ·rename_i h0
   cases i with
   | zero => exact ⟨ks, rfl, h0⟩
   | succ i =>
    obtain ⟨ks', h1, h2⟩ := kds_at h i (by simpa using hi)
    exact ⟨ks', by rw [h1]; simp only [List.length_append, List.length_cons, List.length_nil]; omega, h2⟩
theorem tms_ok {l : List Tm} {vars : Int} (h : kf l vars ≠ 0) : TmsOk l vars := by
 obtain ⟨o, h1, h2, -⟩ := kf_some h
 refine ⟨?_, h2, fun i hi => ?_⟩
 ·unfold kf kdsOf at h
  split at h
  ·rename_i h3; exact h3.1
  ·exact absurd rfl h
 ·obtain ⟨ks, h3, h4⟩ := kds_at h1 i hi
  simp only [List.length_nil, Nat.zero_add] at h3
  rcases kd_ne h4 with h5 | h5 | h5
  ·exact .inl h5.1
  ·exact .inr (.inl h5)
  ·rw [h3] at h5; exact .inr (.inr ⟨h5.1.1, h5.2.1, h5.2.2.1⟩)
inductive Nd (l : List Tm) : Nat → Prop
 | top : Nd l (l.length - 1)
 | arg {m j : Nat} : Nd l m → m < l.length → 2 ≤ (tAt l m).1 → (j = (tAt l m).2.2.1.toNat ∨ j = (tAt l m).2.2.2.toNat) → Nd l j
def NdI (l : List Tm) (i : Nat) (p : Nat → Bool) : Prop := ∀ j, j < l.length → (p j = true ↔ (j = l.length - 1 ∨ ∃ m, i ≤ m ∧ m < l.length ∧ Nd l m ∧ 2 ≤ (tAt l m).1 ∧ (j = (tAt l m).2.2.1.toNat ∨ j = (tAt l m).2.2.2.toNat)))
theorem NdI.at' {l : List Tm} {vars : Int} (ho : TmsOk l vars) {m : Nat} {p : Nat → Bool} (h : NdI l (m + 1) p) (hm : m < l.length) : p m = true ↔ Nd l m := by
 rw [h m hm]
 constructor
 ·rintro (h1 | ⟨a, h1, h2, h3, h4, h5⟩)
  ·rw [h1]; exact .top
  ·exact .arg h3 h2 h4 h5
 ·intro h1
  cases h1 with
  | top => exact .inl rfl
  | @arg a _ h2 h3 h4 h5 =>
   refine .inr ⟨a, ?_, h3, h2, h4, h5⟩
   rcases ho.at' a h3 with h6 | h6 | h6
   ·omega
   ·omega
   ·omega
theorem NdI.step {l : List Tm} {vars : Int} (ho : TmsOk l vars) {m : Nat} {p : Nat → Bool} (h : NdI l (m + 1) p) (hm : m < l.length) (hp : p m = true) (h2 : 2 ≤ (tAt l m).1) {q : Nat → Bool} (hq : ∀ j, q j = true ↔ (j = (tAt l m).2.2.2.toNat ∨ j = (tAt l m).2.2.1.toNat ∨ p j = true)) : NdI l m q := by
 intro j hj
 rw [hq, h j hj]
 have hN := (h.at' ho hm).1 hp
 constructor
 ·rintro (h1 | h1 | h1 | ⟨a, h1, h3⟩)
  ·exact .inr ⟨m, Nat.le_refl _, hm, hN, h2, .inr h1⟩
  ·exact .inr ⟨m, Nat.le_refl _, hm, hN, h2, .inl h1⟩
  ·exact .inl h1
  ·exact .inr ⟨a, by omega, h3⟩
 ·rintro (h1 | ⟨a, h1, h3, h4, h5, h6⟩)
  ·exact .inr (.inr (.inl h1))
  ·by_cases e : a = m
   ·subst e
    rcases h6 with h6 | h6
    ·exact .inr (.inl h6)
    ·exact .inl h6
   ·exact .inr (.inr (.inr ⟨a, by omega, h3, h4, h5, h6⟩))
theorem NdI.skip {l : List Tm} {vars : Int} (ho : TmsOk l vars) {m : Nat} {p : Nat → Bool} (h : NdI l (m + 1) p) (hm : m < l.length) (hp : p m = false ∨ (tAt l m).1 < 2) : NdI l m p := by
 intro j hj
 rw [h j hj]
 constructor
 ·rintro (h1 | ⟨a, h1, h3⟩)
  ·exact .inl h1
  ·exact .inr ⟨a, by omega, h3⟩
 ·rintro (h1 | ⟨a, h1, h3, h4, h5, h6⟩)
  ·exact .inl h1
  ·by_cases e : a = m
   ·subst e
    rcases hp with hp | hp
    ·have := (h.at' ho hm).2 h4
     rw [this] at hp; cases hp
    ·omega
   ·exact .inr ⟨a, by omega, h3, h4, h5, h6⟩
theorem NdI.end' {l : List Tm} {vars : Int} (ho : TmsOk l vars) {p : Nat → Bool} (h : NdI l 0 p) {j : Nat} (hj : j < l.length) : p j = true ↔ Nd l j := by
 rw [h j hj]
 constructor
 ·rintro (h1 | ⟨a, h1, h2, h3, h4, h5⟩)
  ·rw [h1]; exact .top
  ·exact .arg h3 h2 h4 h5
 ·intro h1
  cases h1 with
  | top => exact .inl rfl
  | @arg a _ h2 h3 h4 h5 => exact .inr ⟨a, Nat.zero_le _, h3, h2, h4, h5⟩
theorem NdI.start {l : List Tm} : NdI l l.length (fun j => decide (j = l.length - 1)) := by
 intro j hj
 simp only [decide_eq_true_eq]
 constructor
 ·intro h; exact .inl h
 ·rintro (h | ⟨a, h1, h2, _⟩)
  ·exact h
  ·omega
def Us (l : List Tm) (x : Int) : Prop := ∃ i, i < l.length ∧ Nd l i ∧ (tAt l i).1 = 1 ∧ (tAt l i).2.1 = x
noncomputable def usL (l : List Tm) (vars : Nat) : List Int := upTo (fun k => dB (Us l k)) vars
def UsI (l : List Tm) (i : Nat) (u : Nat → Bool) : Prop := ∀ x : Nat, u x = true ↔ ∃ m, i ≤ m ∧ m < l.length ∧ Nd l m ∧ (tAt l m).1 = 1 ∧ (tAt l m).2.1 = x
theorem C_impl_usedBy (l : List Tm) (vars : Nat) (ho : TmsOk l vars) (Q : List AV → Prop) : mc.C f_impl_usedBy [⟨L T4, l⟩, ⟨I, (vars : Int)⟩] Q = Q [⟨L I, usL l vars⟩] := by
 refine Mc.Ends.c (mc.ends F_impl_usedBy ?_)
 have hl := ho.len
 have hv := ho.vb
 have hr1 : (List.replicate l.length false).set (l.length - 1) true = tab (fun j => decide (j = l.length - 1)) l.length := by
  rw [rep_tab, tab_set']
  refine tab_congr fun k hk => ?_
  by_cases e : k = l.length - 1 <;> simp [e]
 have hr2 : List.replicate vars false = tab (fun _ => false) vars := rep_tab
 simp (contextual := true) (maxSteps := 1000000) (disch := omega) only [↓Sd, ↓So, ↓Sk, ↓den, ↓denA, Sa, Sb, Sc, Se, O1.d, O2.d, O3.d, cmI, arI, envOf, putN, ↓reduceIte, Nat.reduceLT, Nat.reduceSub, Nat.reduceAdd, Int.reduceAdd, Int.reduceEq, Int.reduceLT, Int.reduceLE, arr_pos, arr_neg, tr_impl_usedBy, List.length_replicate, hr1, hr2]
 refine mc.lp_down ((Nat → Bool) × (Nat → Bool)) (fun i p => [⟨L T4, l⟩, ⟨I, (i : Int) - 1⟩, ⟨L B, tab p.1 l.length⟩, ⟨L B, tab p.2 vars⟩]) (fun i p => i ≤ l.length ∧ NdI l i p.1 ∧ UsI l i p.2) l.length (_, _) _ rfl ⟨Nat.le_refl _, NdI.start, fun x => ⟨fun h => by simp at h, fun ⟨m, h1, h2, _⟩ => by omega⟩⟩ ?_ ?_
 ·rintro i ⟨p, u⟩ ⟨h1, h2, h3⟩
  simp only at h2 h3
  have hi : i < l.length := by omega
  obtain ⟨t, ht⟩ : ∃ t, l.getD i (0, 0, 0, 0) = t := ⟨_, rfl⟩
  have hat := ho.at' i hi
  have htt : tAt l i = t := ht
  rw [htt] at hat
  have hsk : (p i = false ∨ t.1 < 2) → ¬ (p i = true ∧ t.1 = 1) → i ≤ l.length ∧ NdI l i p ∧ UsI l i u := fun g1 g2 => by
   refine ⟨by omega, h2.skip ho hi (by rw [htt]; exact g1), fun x => (h3 x).trans ⟨fun ⟨m, a1, a2⟩ => ⟨m, by omega, a2⟩, fun ⟨m, a1, a2, a3, a4, a5⟩ => ?_⟩⟩
   by_cases e : m = i
   ·subst e
    rw [htt] at a4
    exact absurd ⟨(h2.at' ho hi).2 a3, a4⟩ g2
   ·exact ⟨m, by omega, a2, a3, a4, a5⟩
  simp (contextual := true) (maxSteps := 1000000) (disch := omega) only [↓Sd, ↓So, ↓Sk, ↓den, ↓denA, Sa, Sb, Sc, Se, O1.d, O2.d, O3.d, cmI, arI, envOf, putN, ↓reduceIte, Nat.reduceLT, Nat.reduceSub, Nat.reduceAdd, Int.reduceAdd, Int.reduceEq, Int.reduceLT, Int.reduceLE, arr_pos, arr_neg, ↓wpJoin, ht, tab_len, tab_get hi]
  refine ⟨fun g => ⟨(p, u), ⟨rfl, rfl⟩, hsk (.inl g) (by rw [g]; simp)⟩, fun g => ⟨fun g0 => ⟨(p, u), ⟨rfl, rfl⟩, hsk (.inr (by omega)) (by omega)⟩, fun g0 => ⟨fun g1 => ?_, fun g1 => ?_⟩⟩⟩
  ·have hn : 0 ≤ t.2.1 ∧ t.2.1 < vars := by
    rcases hat with h5 | h5 | h5
    ·omega
    ·exact h5.2
    ·omega
   have hp : p i = true := by simpa using g
   refine ⟨(p, fun k => if k = t.2.1.toNat then true else u k), ⟨rfl, tab_set'⟩, by omega, h2.skip ho hi (.inr (by rw [htt]; omega)), fun x => ?_⟩
   show (if x = t.2.1.toNat then true else u x) = true ↔ _
   constructor
   ·intro g3
    by_cases e : x = t.2.1.toNat
    ·exact ⟨i, Nat.le_refl _, hi, (h2.at' ho hi).1 hp, by rw [htt]; exact g1, by rw [htt]; omega⟩
    ·rw [if_neg e] at g3
     obtain ⟨m, a1, a2⟩ := (h3 x).1 g3
     exact ⟨m, by omega, a2⟩
   ·rintro ⟨m, a1, a2, a3, a4, a5⟩
    by_cases e : m = i
    ·subst e
     rw [htt] at a5
     rw [if_pos (by omega)]
    ·split
     ·rfl
     ·exact (h3 x).2 ⟨m, by omega, a2, a3, a4, a5⟩
  ·have ha : 2 ≤ t.1 ∧ (0 ≤ t.2.2.1 ∧ t.2.2.1 < i) ∧ 0 ≤ t.2.2.2 ∧ t.2.2.2 < i := by
    rcases hat with h5 | h5 | h5
    ·omega
    ·omega
    ·exact h5
   have hp : p i = true := by simpa using g
   refine ⟨by rw [List.length_set, tab_len]; omega, ?_⟩
   refine ⟨(fun k => if k = t.2.2.2.toNat then true else if k = t.2.2.1.toNat then true else p k, u), ⟨by rw [tab_set', tab_set'], rfl⟩, by omega, h2.step ho hi hp (by rw [htt]; exact ha.1) (fun j => ?_), fun x => (h3 x).trans ⟨fun ⟨m, a1, a2⟩ => ⟨m, by omega, a2⟩, fun ⟨m, a1, a2, a3, a4, a5⟩ => ?_⟩⟩
   ·show (if j = t.2.2.2.toNat then true else if j = t.2.2.1.toNat then true else p j) = true ↔ _
    rw [htt]
    by_cases e1 : j = t.2.2.2.toNat
    ·simp [e1]
    ·by_cases e2 : j = t.2.2.1.toNat
     ·simp [e2]
     ·simp [e1, e2]
   ·by_cases e : m = i
    ·subst e
     rw [htt] at a4; omega
    ·exact ⟨m, by omega, a2, a3, a4, a5⟩
 ·rintro ⟨p, u⟩ ⟨h1, h2, h3⟩
  simp only at h2 h3
  have hu : ∀ k, u k = dB (Us l k) := fun k => by
   rw [← Bool.eq_iff_iff.2 (show u k = true ↔ dB (Us l k) = true from ?_)]
   rw [h3 k, dB_iff]
   exact ⟨fun ⟨m, a1, a2⟩ => ⟨m, a2⟩, fun ⟨m, a2⟩ => ⟨m, Nat.zero_le _, a2⟩⟩
  have hul := @upTo_len (fun k => dB (Us l k)) vars
  simp (contextual := true) (maxSteps := 1000000) (disch := omega) only [↓Sd, ↓So, ↓Sk, ↓den, ↓denA, Sa, Sb, Sc, Se, O1.d, O2.d, O3.d, cmI, arI, envOf, putN, ↓reduceIte, Nat.reduceLT, Nat.reduceSub, Nat.reduceAdd, Int.reduceAdd, Int.reduceEq, Int.reduceLT, Int.reduceLE, arr_pos, arr_neg, tab_len]
  refine mc.lp_for (List Int) (fun i o => [⟨I, (vars : Int)⟩, ⟨I, (i : Int)⟩, ⟨L I, o⟩, ⟨L B, tab u vars⟩]) (fun i o => o = upTo (fun k => dB (Us l k)) i) vars 0 [] _ rfl (Nat.zero_le _) rfl ?_ ?_
  ·rintro i o hi rfl
   have h1 := @upTo_len (fun k => dB (Us l k)) i
   simp (contextual := true) (maxSteps := 1000000) (disch := omega) only [↓Sd, ↓So, ↓Sk, ↓den, ↓denA, Sa, Sb, Sc, Se, O1.d, O2.d, O3.d, cmI, arI, envOf, putN, ↓reduceIte, Nat.reduceLT, Nat.reduceSub, Nat.reduceAdd, Int.reduceAdd, Int.reduceEq, Int.reduceLT, Int.reduceLE, arr_pos, arr_neg, ↓wpJoin, tab_len, tab_get hi, hu]
   exact ⟨fun g => (upTo_s (p := fun k => dB (Us l k)) g).symm, fun g => (upTo_n (p := fun k => dB (Us l k)) g).symm⟩
  ·rintro o rfl
   simp (contextual := true) (maxSteps := 1000000) (disch := omega) only [↓Sd, ↓So, ↓Sk, ↓den, ↓denA, Sa, Sb, Sc, Se, O1.d, O2.d, O3.d, cmI, arI, envOf, putN, ↓reduceIte, Nat.reduceLT, Nat.reduceSub, Nat.reduceAdd, Int.reduceAdd, Int.reduceEq, Int.reduceLT, Int.reduceLE, arr_pos, arr_neg, C_impl_clone_int (upTo (fun k => dB (Us l k)) vars) (by omega)]
   rfl
theorem C_spec_l1Needed (l : List Tm) (vars : Int) (ho : TmsOk l vars) {Q : List AV → Prop} (hQ : ∀ p : Nat → Bool, (∀ j, j < l.length → (p j = true ↔ Nd l j)) → Q [⟨L B, tab p l.length⟩]) : mc.C f_spec_l1Needed [⟨L T4, l⟩] Q := by
 refine mc.c_of F_spec_l1Needed ?_
 have hl := ho.len
 simp (contextual := true) (maxSteps := 1000000) (disch := omega) only [↓Sd, ↓So, ↓Sk, ↓den, ↓denA, Sa, Sb, Sc, Se, O1.d, O2.d, O3.d, cmI, arI, envOf, putN, ↓reduceIte, Nat.reduceLT, Nat.reduceSub, Nat.reduceAdd, Int.reduceAdd, Int.reduceEq, Int.reduceLT, Int.reduceLE, arr_pos, arr_neg, tr_spec_l1Needed]
 refine mc.lp_for (List Bool) (fun i o => [⟨L T4, l⟩, ⟨I, (i : Int)⟩, ⟨L B, o⟩]) (fun i o => o = tab (fun j => decide (j = l.length - 1)) i) l.length 0 [] _ rfl (Nat.zero_le _) rfl ?_ ?_
 ·rintro i o hi rfl
  simp (contextual := true) (maxSteps := 1000000) (disch := omega) only [↓Sd, ↓So, ↓Sk, ↓den, ↓denA, Sa, Sb, Sc, Se, O1.d, O2.d, O3.d, cmI, arI, envOf, putN, ↓reduceIte, Nat.reduceLT, Nat.reduceSub, Nat.reduceAdd, Int.reduceAdd, Int.reduceEq, Int.reduceLT, Int.reduceLE, arr_pos, arr_neg, tab_len]
  rw [← tab_next]
  congr 2
  by_cases e : i = l.length - 1
  ·rw [decide_eq_true e, beq_iff_eq]; omega
  ·rw [decide_eq_false e, beq_eq_false_iff_ne]; omega
 rintro o rfl
 simp (contextual := true) (maxSteps := 1000000) (disch := omega) only [↓Sd, ↓So, ↓Sk, ↓den, ↓denA, Sa, Sb, Sc, Se, O1.d, O2.d, O3.d, cmI, arI, envOf, putN, ↓reduceIte, Nat.reduceLT, Nat.reduceSub, Nat.reduceAdd, Int.reduceAdd, Int.reduceEq, Int.reduceLT, Int.reduceLE, arr_pos, arr_neg, ]
 refine mc.lp_down (Nat → Bool) (fun i p => [⟨L T4, l⟩, ⟨I, (i : Int) - 1⟩, ⟨L B, tab p l.length⟩]) (fun i p => i ≤ l.length ∧ NdI l i p) l.length _ _ rfl ⟨Nat.le_refl _, NdI.start⟩ ?_ ?_
 ·rintro i p ⟨h1, h2⟩
  have hi : i < l.length := by omega
  obtain ⟨t, ht⟩ : ∃ t, l.getD i (0, 0, 0, 0) = t := ⟨_, rfl⟩
  have hat := ho.at' i hi
  have htt : tAt l i = t := ht
  rw [htt] at hat
  simp (contextual := true) (maxSteps := 1000000) (disch := omega) only [↓Sd, ↓So, ↓Sk, ↓den, ↓denA, Sa, Sb, Sc, Se, O1.d, O2.d, O3.d, cmI, arI, envOf, putN, ↓reduceIte, Nat.reduceLT, Nat.reduceSub, Nat.reduceAdd, Int.reduceAdd, Int.reduceEq, Int.reduceLT, Int.reduceLE, arr_pos, arr_neg, ↓wpJoin, ht, tab_len, tab_get hi]
  refine ⟨fun hp => ⟨fun g1 => ⟨?_, fun k => if k = t.2.2.2.toNat then true else if k = t.2.2.1.toNat then true else p k, by rw [tab_set', tab_set'], by omega, h2.step ho hi hp (by rw [htt]; exact g1) (fun j => ?_)⟩, fun g1 => ⟨p, rfl, by omega, h2.skip ho hi (.inr (by rw [htt]; omega))⟩⟩, fun g => ⟨p, rfl, by omega, h2.skip ho hi (.inl (by simpa using g))⟩⟩
  ·rw [List.length_set, tab_len]; omega
  ·show (if j = t.2.2.2.toNat then true else if j = t.2.2.1.toNat then true else p j) = true ↔ _
   rw [htt]
   by_cases e1 : j = t.2.2.2.toNat
   ·simp [e1]
   ·by_cases e2 : j = t.2.2.1.toNat
    ·simp [e2]
    ·simp [e1, e2]
 ·rintro p ⟨h1, h2⟩
  simp (contextual := true) (maxSteps := 1000000) (disch := omega) only [↓Sd, ↓So, ↓Sk, ↓den, ↓denA, Sa, Sb, Sc, Se, O1.d, O2.d, O3.d, cmI, arI, envOf, putN, ↓reduceIte, Nat.reduceLT, Nat.reduceSub, Nat.reduceAdd, Int.reduceAdd, Int.reduceEq, Int.reduceLT, Int.reduceLE, arr_pos, arr_neg, ]
  exact hQ p fun j hj => h2.end' ho hj
theorem C_spec_UsedBy (l : List Tm) (vars : Nat) (hf : Few l) (hk : kf l vars ≠ 0) (Q : List AV → Prop) : mc.C f_spec_UsedBy [⟨L T4, l⟩, ⟨I, (vars : Int)⟩] Q = Q [⟨L I, usL l vars⟩] := by
 refine Mc.Ends.c (mc.ends F_spec_UsedBy ?_)
 have ho := tms_ok hk
 have hl := ho.len
 have hv := ho.vb
 have hul := @upTo_len (fun k => dB (Us l k)) vars
 simp (contextual := true) (maxSteps := 1000000) (disch := omega) only [↓Sd, ↓So, ↓Sk, ↓den, ↓denA, Sa, Sb, Sc, Se, O1.d, O2.d, O3.d, cmI, arI, envOf, putN, ↓reduceIte, Nat.reduceLT, Nat.reduceSub, Nat.reduceAdd, Int.reduceAdd, Int.reduceEq, Int.reduceLT, Int.reduceLE, arr_pos, arr_neg, tr_spec_UsedBy, C_spec_TermsValid l vars hf]
 refine ⟨fun g => absurd (kf_nil (by omega)) hk, fun _ => ?_⟩
 refine C_spec_l1Needed l vars ho fun p hp => ?_
 simp (contextual := true) (maxSteps := 1000000) (disch := omega) only [↓Sd, ↓So, ↓Sk, ↓den, ↓denA, Sa, Sb, Sc, Se, O1.d, O2.d, O3.d, cmI, arI, envOf, putN, ↓reduceIte, Nat.reduceLT, Nat.reduceSub, Nat.reduceAdd, Int.reduceAdd, Int.reduceEq, Int.reduceLT, Int.reduceLE, arr_pos, arr_neg, ]
 refine mc.lp_for (List Int) (fun x o => [⟨L T4, l⟩, ⟨I, (vars : Int)⟩, ⟨I, (x : Int)⟩, ⟨L I, o⟩, ⟨L B, tab p l.length⟩]) (fun x o => o = upTo (fun k => dB (Us l k)) x) vars 0 [] _ rfl (Nat.zero_le _) rfl ?_ ?_
 ·rintro x o hx rfl
  have h1 := @upTo_len (fun k => dB (Us l k)) x
  simp (contextual := true) (maxSteps := 1000000) (disch := omega) only [↓Sd, ↓So, ↓Sk, ↓den, ↓denA, Sa, Sb, Sc, Se, O1.d, O2.d, O3.d, cmI, arI, envOf, putN, ↓reduceIte, Nat.reduceLT, Nat.reduceSub, Nat.reduceAdd, Int.reduceAdd, Int.reduceEq, Int.reduceLT, Int.reduceLE, arr_pos, arr_neg, ↓wpJoin, ]
  refine mc.lp_for Bool (fun i b => [⟨L T4, l⟩, ⟨I, (vars : Int)⟩, ⟨I, (x : Int)⟩, ⟨B, b⟩, ⟨I, (i : Int)⟩, ⟨L I, upTo (fun k => dB (Us l k)) x⟩, ⟨L B, tab p l.length⟩]) (fun i b => b = dB (∃ m, m < i ∧ Nd l m ∧ (tAt l m).1 = 1 ∧ (tAt l m).2.1 = x)) l.length 0 false _ rfl (Nat.zero_le _) (dB_f fun ⟨m, h, _⟩ => absurd h (Nat.not_lt_zero _)).symm ?_ ?_
  ·rintro i b hi rfl
   obtain ⟨t, ht⟩ : ∃ t, l.getD i (0, 0, 0, 0) = t := ⟨_, rfl⟩
   have htt : tAt l i = t := ht
   have hpi := hp i hi
   have hno : ¬ (Nd l i ∧ t.1 = 1 ∧ t.2.1 = x) → dB (∃ m, m < i ∧ Nd l m ∧ (tAt l m).1 = 1 ∧ (tAt l m).2.1 = x) = dB (∃ m, m < i + 1 ∧ Nd l m ∧ (tAt l m).1 = 1 ∧ (tAt l m).2.1 = x) := fun g => dB_congr ⟨fun ⟨m, a1, a2⟩ => ⟨m, by omega, a2⟩, fun ⟨m, a1, a2⟩ => by
    by_cases e : m = i
    ·subst e; rw [htt] at a2; exact absurd a2 g
    ·exact ⟨m, by omega, a2⟩⟩
   simp (contextual := true) (maxSteps := 1000000) (disch := omega) only [↓Sd, ↓So, ↓Sk, ↓den, ↓denA, Sa, Sb, Sc, Se, O1.d, O2.d, O3.d, cmI, arI, envOf, putN, ↓reduceIte, Nat.reduceLT, Nat.reduceSub, Nat.reduceAdd, Int.reduceAdd, Int.reduceEq, Int.reduceLT, Int.reduceLE, arr_pos, arr_neg, ↓wpJoin, ht, tab_len, tab_get hi]
   refine ⟨fun g => ?_, fun g => ⟨fun g1 => ⟨fun g2 => ?_, fun g2 => ?_⟩, fun g1 => ?_⟩⟩
   ·symm
    rw [dB_t]
    obtain ⟨m, a1, a2⟩ := dB_iff.1 g
    exact ⟨m, by omega, a2⟩
   ·by_cases e : t.2.1 = x
    ·rw [dB_t ⟨i, by omega, hpi.1 g1, by rw [htt]; exact g2, by rw [htt]; exact e⟩]
     simpa using e
    ·rw [← hno fun h => e h.2.2, dB_f fun h => g (dB_t h)]
     simpa using e
   ·rw [← hno fun h => g2 h.2.1]
    exact (dB_f fun h => g (dB_t h)).symm
   ·rw [← hno fun h => g1 (hpi.2 h.1)]
    exact (dB_f fun h => g (dB_t h)).symm
  ·rintro b rfl
   have e : dB (∃ m, m < l.length ∧ Nd l m ∧ (tAt l m).1 = 1 ∧ (tAt l m).2.1 = x) = dB (Us l x) := rfl
   rw [e]
   simp (contextual := true) (maxSteps := 1000000) (disch := omega) only [↓Sd, ↓So, ↓Sk, ↓den, ↓denA, Sa, Sb, Sc, Se, O1.d, O2.d, O3.d, cmI, arI, envOf, putN, ↓reduceIte, Nat.reduceLT, Nat.reduceSub, Nat.reduceAdd, Int.reduceAdd, Int.reduceEq, Int.reduceLT, Int.reduceLE, arr_pos, arr_neg, ]
   exact ⟨fun g => (upTo_s (p := fun k => dB (Us l k)) g).symm, fun g => (upTo_n (p := fun k => dB (Us l k)) g).symm⟩
 ·rintro o rfl
  simp (contextual := true) (maxSteps := 1000000) (disch := omega) only [↓Sd, ↓So, ↓Sk, ↓den, ↓denA, Sa, Sb, Sc, Se, O1.d, O2.d, O3.d, cmI, arI, envOf, putN, ↓reduceIte, Nat.reduceLT, Nat.reduceSub, Nat.reduceAdd, Int.reduceAdd, Int.reduceEq, Int.reduceLT, Int.reduceLE, arr_pos, arr_neg, ]
  rfl
theorem insZ_mem {x y : Int} : ∀ {l : List Int}, y ∈ insZ x l ↔ y = x ∨ y ∈ l
 | [] => by simp [insZ]
 | z :: l => by
  unfold insZ
  split
  ·simp
  ·simp only [List.mem_cons, insZ_mem (l := l)]
   constructor
   ·rintro (h | h | h)
    ·exact .inr (.inl h)
    ·exact .inl h
    ·exact .inr (.inr h)
   ·rintro (h | h | h)
    ·exact .inr (.inl h)
    ·exact .inl h
    ·exact .inr (.inr h)
theorem srtZ_mem {y : Int} : ∀ {l : List Int}, y ∈ srtZ l ↔ y ∈ l
 | [] => Iff.rfl
 | x :: l => by rw [srtZ, insZ_mem, srtZ_mem (l := l), List.mem_cons]
theorem insZ_len {x : Int} : ∀ {l : List Int}, (insZ x l).length = l.length + 1
 | [] => rfl
 | z :: l => by
  unfold insZ
  split
  ·rfl
  ·simp only [List.length_cons, insZ_len (l := l)]
theorem srtZ_len : ∀ {l : List Int}, (srtZ l).length = l.length
 | [] => rfl
 | x :: l => by rw [srtZ, insZ_len, srtZ_len (l := l), List.length_cons]
theorem cptZ_mem {y : Int} : ∀ {l : List Int}, y ∈ cptZ l ↔ y ∈ l
 | [] => Iff.rfl
 | [x] => Iff.rfl
 | x :: z :: l => by
  have ih := cptZ_mem (y := y) (l := z :: l)
  show y ∈ (if x = z then cptZ (z :: l) else x :: cptZ (z :: l)) ↔ _
  split
  ·rename_i h
   rw [ih, h]; simp
  ·rw [List.mem_cons, ih, List.mem_cons (a := y) (b := x)]
theorem cptZ_len : ∀ {l : List Int}, (cptZ l).length ≤ l.length
 | [] => Nat.le_refl _
 | [x] => Nat.le_refl _
 | x :: z :: l => by
  have ih := cptZ_len (l := z :: l)
  show (if x = z then cptZ (z :: l) else x :: cptZ (z :: l)).length ≤ _
  split <;> simp only [List.length_cons] at ih ⊢ <;> omega
def rl (s : Sy) (i : Nat) : Ru := s.2.getD i ([], [], [])
theorem rl_ok {s : Sy} (h : valid s) {i : Nat} (hi : i < s.2.length) : rOk (rl s i) s.1.length := h.2.2.2.1 _ (getD_mem hi)
noncomputable def tcA (n : Nat) (r : Ru) (k : Nat) : List Int := usL r.1 n ++ ((r.2.2.take k).map fun t => usL t n).flatten
theorem tcA_next {n k : Nat} {r : Ru} (h : k < r.2.2.length) : tcA n r (k + 1) = tcA n r k ++ usL (r.2.2.getD k []) n := by
 unfold tcA
 rw [List.take_succ_eq_append_getElem h, List.map_append, List.flatten_append, getD_lt h, List.append_assoc]
 simp
theorem usL_len {l : List Tm} {n : Nat} : (usL l n).length ≤ n := upTo_len
theorem tcA_len {n k : Nat} {r : Ru} (h : k ≤ r.2.2.length) : (tcA n r k).length ≤ n * (k + 1) := by
 induction k with
 | zero => simpa [tcA] using usL_len
 | succ k ih =>
  rw [tcA_next (by omega), List.length_append]
  have := @usL_len (r.2.2.getD k []) n
  have := ih (by omega)
  rw [Nat.mul_add n (k + 1) 1]; omega
noncomputable def tcL (n : Nat) (r : Ru) : List Int := cptZ (srtZ (tcA n r r.2.2.length))
noncomputable def tcS (n : Nat) (r : Ru) : List Int := upTo (fun x => dB ((x : Int) ∈ usL r.1 n ∨ ∃ m, m < r.2.2.length ∧ (x : Int) ∈ usL (r.2.2.getD m []) n)) n
theorem tcL_mem {n : Nat} {r : Ru} {x : Int} : x ∈ tcL n r ↔ (x ∈ usL r.1 n ∨ ∃ m, m < r.2.2.length ∧ x ∈ usL (r.2.2.getD m []) n) := by
 rw [tcL, cptZ_mem, srtZ_mem, tcA, List.take_length, List.mem_append, List.mem_flatten]
 refine or_congr Iff.rfl ⟨fun ⟨l, h1, h2⟩ => ?_, fun ⟨m, h1, h2⟩ => ?_⟩
 ·obtain ⟨t, h3, rfl⟩ := List.mem_map.1 h1
  obtain ⟨m, hm, rfl⟩ := List.getElem_of_mem h3
  exact ⟨m, hm, by rw [getD_lt hm]; exact h2⟩
 ·exact ⟨_, List.mem_map.2 ⟨_, getD_mem h1, rfl⟩, h2⟩
theorem tcS_mem {n : Nat} {r : Ru} {x : Int} : x ∈ tcS n r ↔ x ∈ tcL n r := by
 rw [tcL_mem, tcS, upTo_mem]
 constructor
 ·rintro ⟨k, h1, rfl, h2⟩; exact dB_iff.1 h2
 ·intro h
  have hb : 0 ≤ x ∧ x < n := by
   rcases h with h | ⟨m, _, h⟩
   ·obtain ⟨k, h1, rfl, _⟩ := upTo_mem.1 h; omega
   ·obtain ⟨k, h1, rfl, _⟩ := upTo_mem.1 h; omega
  have e : ((x.toNat : Nat) : Int) = x := by omega
  exact ⟨x.toNat, by omega, e.symm, dB_t (by rw [e]; exact h)⟩
theorem tcL_len {n : Nat} {r : Ru} (hn : n ≤ 5) (hr : r.2.2.length ≤ 5) : (tcL n r).length ≤ 30 := by
 have h1 := @cptZ_len (srtZ (tcA n r r.2.2.length))
 rw [srtZ_len] at h1
 have h2 := tcA_len (n := n) (r := r) (Nat.le_refl _)
 have h3 : n * (r.2.2.length + 1) ≤ 5 * 6 := Nat.mul_le_mul hn (by omega)
 unfold tcL
 omega
theorem rl_terms {s : Sy} (h : valid s) {i : Nat} (hi : i < s.2.length) : (rl s i).2.1.length = (rl s i).2.2.length ∧ (rl s i).2.2.length ≤ 5 ∧ kf (rl s i).1 s.1.length ≠ 0 ∧ ∀ m, m < (rl s i).2.2.length → kf ((rl s i).2.2.getD m []) s.1.length ≠ 0 := by
 have hr := rl_ok h hi
 have h5 := h.1
 have h1 := rOk_few hr.2.2
 refine ⟨hr.2.1, ?_, by rw [hr.1]; omega, fun m hm => ?_⟩
 ·rw [← hr.2.1]; omega
 ·rw [(hr.2.2 m (by rw [hr.2.1]; exact hm)).2.2]; omega
theorem C_impl_touchedBy (s : Sy) (i : Nat) (h : valid s) (hi : i < s.2.length) (Q : List AV → Prop) : mc.C f_impl_touchedBy [⟨L V3, s.1⟩, ⟨L TR, s.2⟩, ⟨I, (i : Int)⟩] Q = Q [⟨L I, tcL s.1.length (rl s i)⟩] := by
 refine Mc.Ends.c (mc.ends F_impl_touchedBy ?_)
 obtain ⟨h1, h2, h3, h4⟩ := rl_terms h hi
 have h5 := h.1
 obtain ⟨r, hr⟩ : ∃ r, rl s i = r := ⟨_, rfl⟩
 have hr' : s.2.getD i ([], [], []) = r := hr
 rw [hr] at h1 h2 h3 h4 ⊢
 have hlen := tcL_len (n := s.1.length) (r := r) h5.2 h2
 simp (contextual := true) (maxSteps := 1000000) (disch := omega) only [↓Sd, ↓So, ↓Sk, ↓den, ↓denA, Sa, Sb, Sc, Se, O1.d, O2.d, O3.d, cmI, arI, envOf, putN, ↓reduceIte, Nat.reduceLT, Nat.reduceSub, Nat.reduceAdd, Int.reduceAdd, Int.reduceEq, Int.reduceLT, Int.reduceLE, arr_pos, arr_neg, tr_impl_touchedBy, hr', C_impl_usedBy r.1 s.1.length (tms_ok h3)]
 refine mc.lp_for (List Int) (fun k o => [⟨L (L T4), r.2.2⟩, ⟨I, (r.2.2.length : Int)⟩, ⟨I, (k : Int)⟩, ⟨L V3, s.1⟩, ⟨L TR, s.2⟩, ⟨L I, o⟩]) (fun k o => o = tcA s.1.length r k) r.2.2.length 0 _ _ rfl (Nat.zero_le _) (by simp [tcA]) ?_ ?_
 ·rintro k o hk rfl
  have h6 := tcA_len (n := s.1.length) (r := r) (Nat.le_of_lt hk)
  have h7 : s.1.length * (k + 1) ≤ 5 * 6 := Nat.mul_le_mul h5.2 (by omega)
  have h8 := @usL_len (r.2.2.getD k []) s.1.length
  simp (contextual := true) (maxSteps := 1000000) (disch := omega) only [↓Sd, ↓So, ↓Sk, ↓den, ↓denA, Sa, Sb, Sc, Se, O1.d, O2.d, O3.d, cmI, arI, envOf, putN, ↓reduceIte, Nat.reduceLT, Nat.reduceSub, Nat.reduceAdd, Int.reduceAdd, Int.reduceEq, Int.reduceLT, Int.reduceLE, arr_pos, arr_neg, C_impl_usedBy (r.2.2.getD k []) s.1.length (tms_ok (h4 k hk))]
  exact (tcA_next hk).symm
 ·rintro o rfl
  have h6 := tcA_len (n := s.1.length) (r := r) (Nat.le_refl _)
  have h7 : s.1.length * (r.2.2.length + 1) ≤ 5 * 6 := Nat.mul_le_mul h5.2 (by omega)
  have e0 : ∀ l, hndZ 0 l = srtZ l := fun _ => rfl
  have e1 : hndZ 1 (srtZ (tcA s.1.length r r.2.2.length)) = tcL s.1.length r := rfl
  have e2 : (srtZ (tcA s.1.length r r.2.2.length)).length = (tcA s.1.length r r.2.2.length).length := srtZ_len
  simp (contextual := true) (maxSteps := 1000000) (disch := omega) only [↓Sd, ↓So, ↓Sk, ↓den, ↓denA, Sa, Sb, Sc, Se, O1.d, O2.d, O3.d, cmI, arI, envOf, putN, ↓reduceIte, Nat.reduceLT, Nat.reduceSub, Nat.reduceAdd, Int.reduceAdd, Int.reduceEq, Int.reduceLT, Int.reduceLE, arr_pos, arr_neg, e0, e1, e2, C_impl_clone_int (tcL s.1.length r) (by omega)]
theorem C_impl_meets (a b : List Int) (ha : a.length ≤ 1048576) (hb : b.length ≤ 1048576) (Q : List AV → Prop) : mc.C f_impl_meets [⟨L I, a⟩, ⟨L I, b⟩] Q = Q [⟨B, dB (∃ x ∈ a, x ∈ b)⟩] := by
 refine Mc.Ends.c (mc.ends F_impl_meets ?_)
 generalize hK : dB (∃ x ∈ a, x ∈ b) = K
 simp (contextual := true) (maxSteps := 1000000) (disch := omega) only [↓Sd, ↓So, ↓Sk, ↓den, ↓denA, Sa, Sb, Sc, Se, O1.d, O2.d, O3.d, cmI, arI, envOf, putN, ↓reduceIte, Nat.reduceLT, Nat.reduceSub, Nat.reduceAdd, Int.reduceAdd, Int.reduceEq, Int.reduceLT, Int.reduceLE, arr_pos, arr_neg, tr_impl_meets]
 refine lp_all (fun i => [⟨L I, a⟩, ⟨I, (a.length : Int)⟩, ⟨I, (i : Int)⟩, ⟨L I, b⟩]) (fun i => ¬ a.getD i 0 ∈ b) a.length _ rfl ?_ ?_
 ·intro i hi
  simp (contextual := true) (maxSteps := 1000000) (disch := omega) only [↓Sd, ↓So, ↓Sk, ↓den, ↓denA, Sa, Sb, Sc, Se, O1.d, O2.d, O3.d, cmI, arI, envOf, putN, ↓reduceIte, Nat.reduceLT, Nat.reduceSub, Nat.reduceAdd, Int.reduceAdd, Int.reduceEq, Int.reduceLT, Int.reduceLE, arr_pos, arr_neg, C_slices_Contains_int b (a.getD i 0) hb]
  refine ⟨fun h => ?_, fun h => fun g => h (dB_t g)⟩
  rw [← hK, dB_t ⟨_, getD_mem hi, dB_iff.1 h⟩]
  simp
 ·intro h
  simp (contextual := true) (maxSteps := 1000000) (disch := omega) only [↓Sd, ↓So, ↓Sk, ↓den, ↓denA, Sa, Sb, Sc, Se, O1.d, O2.d, O3.d, cmI, arI, envOf, putN, ↓reduceIte, Nat.reduceLT, Nat.reduceSub, Nat.reduceAdd, Int.reduceAdd, Int.reduceEq, Int.reduceLT, Int.reduceLE, arr_pos, arr_neg, ]
  rw [← hK, dB_f]
  ·rfl
  ·rintro ⟨x, h1, h2⟩
   obtain ⟨i, hi, rfl⟩ := List.getElem_of_mem h1
   exact h i hi (by rw [getD_lt hi]; exact h2)
theorem C_spec_l26Meet (a b : List Int) (ha : a.length ≤ 1048576) (hb : b.length ≤ 1048576) (Q : List AV → Prop) : mc.C f_spec_l26Meet [⟨L I, a⟩, ⟨L I, b⟩] Q = Q [⟨B, dB (∃ x ∈ a, x ∈ b)⟩] := by
 refine Mc.Ends.c (mc.ends F_spec_l26Meet ?_)
 generalize hK : dB (∃ x ∈ a, x ∈ b) = K
 simp (contextual := true) (maxSteps := 1000000) (disch := omega) only [↓Sd, ↓So, ↓Sk, ↓den, ↓denA, Sa, Sb, Sc, Se, O1.d, O2.d, O3.d, cmI, arI, envOf, putN, ↓reduceIte, Nat.reduceLT, Nat.reduceSub, Nat.reduceAdd, Int.reduceAdd, Int.reduceEq, Int.reduceLT, Int.reduceLE, arr_pos, arr_neg, tr_spec_l26Meet]
 refine lp_all (fun i => [⟨L I, a⟩, ⟨L I, b⟩, ⟨I, (i : Int)⟩]) (fun i => ¬ a.getD i 0 ∈ b) a.length _ rfl ?_ ?_
 ·intro i hi
  simp (contextual := true) (maxSteps := 1000000) (disch := omega) only [↓Sd, ↓So, ↓Sk, ↓den, ↓denA, Sa, Sb, Sc, Se, O1.d, O2.d, O3.d, cmI, arI, envOf, putN, ↓reduceIte, Nat.reduceLT, Nat.reduceSub, Nat.reduceAdd, Int.reduceAdd, Int.reduceEq, Int.reduceLT, Int.reduceLE, arr_pos, arr_neg, C_spec_l2Has b (a.getD i 0) hb]
  refine ⟨fun h => ?_, fun h => fun g => h (dB_t g)⟩
  rw [← hK, dB_t ⟨_, getD_mem hi, dB_iff.1 h⟩]
 ·intro h
  simp (contextual := true) (maxSteps := 1000000) (disch := omega) only [↓Sd, ↓So, ↓Sk, ↓den, ↓denA, Sa, Sb, Sc, Se, O1.d, O2.d, O3.d, cmI, arI, envOf, putN, ↓reduceIte, Nat.reduceLT, Nat.reduceSub, Nat.reduceAdd, Int.reduceAdd, Int.reduceEq, Int.reduceLT, Int.reduceLE, arr_pos, arr_neg, ]
  rw [← hK, dB_f]
  rintro ⟨x, h1, h2⟩
  obtain ⟨i, hi, rfl⟩ := List.getElem_of_mem h1
  exact h i hi (by rw [getD_lt hi]; exact h2)
def Mt2 (a b : List Int) : Prop := ∃ x ∈ a, x ∈ b
theorem Mt2.congr {a b c : List Int} (h : ∀ x, x ∈ b ↔ x ∈ c) : Mt2 a b ↔ Mt2 a c := ⟨fun ⟨x, h1, h2⟩ => ⟨x, h1, (h x).1 h2⟩, fun ⟨x, h1, h2⟩ => ⟨x, h1, (h x).2 h2⟩⟩
def Apr (s : Sy) (i j : Nat) : Prop := ¬ Mt2 (rl s i).2.1 (rl s j).2.1 ∧ ¬ Mt2 (rl s i).2.1 (tcL s.1.length (rl s j)) ∧ ¬ Mt2 (rl s j).2.1 (tcL s.1.length (rl s i))
noncomputable def wkB (s : Sy) (i k : Nat) : Bool := dB (k ≠ i ∧ Mt2 (rl s k).2.1 (tcL s.1.length (rl s i)))
noncomputable def wkL (s : Sy) (i : Nat) : List Int := upTo (wkB s i) s.2.length
theorem wkL_len {s : Sy} {i : Nat} (h : valid s) : (wkL s i).length ≤ 8 := by have h1 := h.2.1; have := @upTo_len (wkB s i) s.2.length; unfold wkL; omega
theorem C_impl_rulesApart (s : Sy) (i j : Nat) (h : valid s) (hi : i < s.2.length) (hj : j < s.2.length) (Q : List AV → Prop) : mc.C f_impl_rulesApart [⟨L V3, s.1⟩, ⟨L TR, s.2⟩, ⟨I, (i : Int)⟩, ⟨I, (j : Int)⟩] Q = Q [⟨B, dB (Apr s i j)⟩] := by
 refine Mc.Ends.c (mc.ends F_impl_rulesApart ?_)
 obtain ⟨a1, a2, -, -⟩ := rl_terms h hi
 obtain ⟨b1, b2, -, -⟩ := rl_terms h hj
 have h5 := h.1
 have c1 := tcL_len (n := s.1.length) (r := rl s i) h5.2 a2
 have c2 := tcL_len (n := s.1.length) (r := rl s j) h5.2 b2
 have ei : s.2.getD i ([], [], []) = rl s i := rfl
 have ej : s.2.getD j ([], [], []) = rl s j := rfl
 generalize hK : dB (Apr s i j) = K
 simp (contextual := true) (maxSteps := 1000000) (disch := omega) only [↓Sd, ↓So, ↓Sk, ↓den, ↓denA, Sa, Sb, Sc, Se, O1.d, O2.d, O3.d, cmI, arI, envOf, putN, ↓reduceIte, Nat.reduceLT, Nat.reduceSub, Nat.reduceAdd, Int.reduceAdd, Int.reduceEq, Int.reduceLT, Int.reduceLE, arr_pos, arr_neg, tr_impl_rulesApart, ei, ej, C_impl_meets (rl s i).2.1 (rl s j).2.1 (by omega) (by omega), C_impl_touchedBy s j h hj, C_impl_touchedBy s i h hi, C_impl_meets (rl s i).2.1 (tcL s.1.length (rl s j)) (by omega) (by omega), C_impl_meets (rl s j).2.1 (tcL s.1.length (rl s i)) (by omega) (by omega)]
 refine ⟨fun g1 => ⟨fun g2 => ?_, fun g2 => ?_⟩, fun g1 => ?_⟩
 ·have n1 : ¬ Mt2 (rl s i).2.1 (rl s j).2.1 := fun g => by
   have g' : ∃ x, x ∈ (rl s i).2.1 ∧ x ∈ (rl s j).2.1 := g
   rw [dB_t g'] at g1; cases g1
  have n2 : ¬ Mt2 (rl s i).2.1 (tcL s.1.length (rl s j)) := fun g => by
   have g' : ∃ x, x ∈ (rl s i).2.1 ∧ x ∈ tcL s.1.length (rl s j) := g
   rw [dB_t g'] at g2; cases g2
  by_cases e : Mt2 (rl s j).2.1 (tcL s.1.length (rl s i))
  ·rw [← hK, dB_f (fun g : Apr s i j => g.2.2 e), dB_t (show ∃ x, x ∈ (rl s j).2.1 ∧ x ∈ tcL s.1.length (rl s i) from e)]; rfl
  ·rw [← hK, dB_t (show Apr s i j from ⟨n1, n2, e⟩), dB_f (show ¬ ∃ x, x ∈ (rl s j).2.1 ∧ x ∈ tcL s.1.length (rl s i) from e)]; rfl
 ·rw [← hK, dB_f fun g => g2 (dB_f g.2.1)]
 ·rw [← hK, dB_f fun g => g1 (dB_f g.1)]
theorem C_impl_wakersOf (s : Sy) (i : Nat) (h : valid s) (hi : i < s.2.length) (Q : List AV → Prop) : mc.C f_impl_wakersOf [⟨L V3, s.1⟩, ⟨L TR, s.2⟩, ⟨I, (i : Int)⟩] Q = Q [⟨L I, wkL s i⟩] := by
 refine Mc.Ends.c (mc.ends F_impl_wakersOf ?_)
 obtain ⟨a1, a2, -, -⟩ := rl_terms h hi
 have h5 := h.1
 have h8 := h.2.1
 have c1 := tcL_len (n := s.1.length) (r := rl s i) h5.2 a2
 have hwl := @wkL_len s i h
 simp (contextual := true) (maxSteps := 1000000) (disch := omega) only [↓Sd, ↓So, ↓Sk, ↓den, ↓denA, Sa, Sb, Sc, Se, O1.d, O2.d, O3.d, cmI, arI, envOf, putN, ↓reduceIte, Nat.reduceLT, Nat.reduceSub, Nat.reduceAdd, Int.reduceAdd, Int.reduceEq, Int.reduceLT, Int.reduceLE, arr_pos, arr_neg, tr_impl_wakersOf, C_impl_touchedBy s i h hi]
 refine mc.lp_for (List Int) (fun k o => [⟨I, (i : Int)⟩, ⟨L TR, s.2⟩, ⟨I, (s.2.length : Int)⟩, ⟨I, (k : Int)⟩, ⟨L I, tcL s.1.length (rl s i)⟩, ⟨L I, o⟩]) (fun k o => o = upTo (wkB s i) k) s.2.length 0 [] _ rfl (Nat.zero_le _) rfl ?_ ?_
 ·rintro k o hk rfl
  obtain ⟨b1, b2, -, -⟩ := rl_terms h hk
  have ek : s.2.getD k ([], [], []) = rl s k := rfl
  have hul := @upTo_len (wkB s i) k
  simp (contextual := true) (maxSteps := 1000000) (disch := omega) only [↓Sd, ↓So, ↓Sk, ↓den, ↓denA, Sa, Sb, Sc, Se, O1.d, O2.d, O3.d, cmI, arI, envOf, putN, ↓reduceIte, Nat.reduceLT, Nat.reduceSub, Nat.reduceAdd, Int.reduceAdd, Int.reduceEq, Int.reduceLT, Int.reduceLE, arr_pos, arr_neg, ↓wpJoin, ek, C_impl_meets (rl s k).2.1 (tcL s.1.length (rl s i)) (by omega) (by omega)]
  refine ⟨fun g1 => ⟨fun g2 => (upTo_s (p := wkB s i) (dB_t ⟨by omega, dB_iff.1 g2⟩)).symm, fun g2 => (upTo_n (p := wkB s i) fun g => g2 (dB_t (dB_iff.1 g).2)).symm⟩, fun g1 => (upTo_n (p := wkB s i) fun g => (dB_iff.1 g).1 (by omega)).symm⟩
 ·rintro o rfl
  have e : upTo (wkB s i) s.2.length = wkL s i := rfl
  rw [e]
  simp (contextual := true) (maxSteps := 1000000) (disch := omega) only [↓Sd, ↓So, ↓Sk, ↓den, ↓denA, Sa, Sb, Sc, Se, O1.d, O2.d, O3.d, cmI, arI, envOf, putN, ↓reduceIte, Nat.reduceLT, Nat.reduceSub, Nat.reduceAdd, Int.reduceAdd, Int.reduceEq, Int.reduceLT, Int.reduceLE, arr_pos, arr_neg, C_impl_clone_int (wkL s i) (by omega)]
theorem C_spec_TouchedBy (s : Sy) (i : Nat) (hs : FewSy s) (h : valid s) (hi : i < s.2.length) (Q : List AV → Prop) : mc.C f_spec_TouchedBy [⟨L V3, s.1⟩, ⟨L TR, s.2⟩, ⟨I, (i : Int)⟩] Q = Q [⟨L I, (rl s i).2.1⟩, ⟨L I, tcS s.1.length (rl s i)⟩] := by
 refine Mc.Ends.c (mc.ends F_spec_TouchedBy ?_)
 obtain ⟨h1, h2, h3, h4⟩ := rl_terms h hi
 have h5 := h.1
 obtain ⟨r, hr⟩ : ∃ r, rl s i = r := ⟨_, rfl⟩
 have hr' : s.2.getD i ([], [], []) = r := hr
 have hrm : r ∈ s.2 := by rw [← hr']; exact getD_mem hi
 have hru : FewRu r := hs.2.2 r hrm
 have h8 := h.2.1
 rw [hr] at h1 h2 h3 h4 ⊢
 simp (contextual := true) (maxSteps := 1000000) (disch := omega) only [↓Sd, ↓So, ↓Sk, ↓den, ↓denA, Sa, Sb, Sc, Se, O1.d, O2.d, O3.d, cmI, arI, envOf, putN, ↓reduceIte, Nat.reduceLT, Nat.reduceSub, Nat.reduceAdd, Int.reduceAdd, Int.reduceEq, Int.reduceLT, Int.reduceLE, arr_pos, arr_neg, tr_spec_TouchedBy, C_spec_SystemValid s hs, decide_eq_true h, C_spec_l1In, decide_eq_true (show 0 ≤ (i : Int) ∧ (i : Int) ≤ (s.2.length : Int) - 1 by omega), hr']
 refine mc.lp_for (List Int) (fun k o => [⟨I, (k : Int)⟩, ⟨L V3, s.1⟩, ⟨L TR, s.2⟩, ⟨L T4, r.1⟩, ⟨L I, r.2.1⟩, ⟨L (L T4), r.2.2⟩, ⟨L I, o⟩]) (fun k o => o = r.2.1.take k) r.2.1.length 0 [] _ rfl (Nat.zero_le _) rfl ?_ ?_
 ·rintro k o hk rfl
  have : (r.2.1.take k).length ≤ 5 := by rw [List.length_take]; omega
  simp (contextual := true) (maxSteps := 1000000) (disch := omega) only [↓Sd, ↓So, ↓Sk, ↓den, ↓denA, Sa, Sb, Sc, Se, O1.d, O2.d, O3.d, cmI, arI, envOf, putN, ↓reduceIte, Nat.reduceLT, Nat.reduceSub, Nat.reduceAdd, Int.reduceAdd, Int.reduceEq, Int.reduceLT, Int.reduceLE, arr_pos, arr_neg, ]
  rw [List.take_succ_eq_append_getElem hk, getD_lt hk]
 rintro o rfl
 rw [List.take_length]
 simp (contextual := true) (maxSteps := 1000000) (disch := omega) only [↓Sd, ↓So, ↓Sk, ↓den, ↓denA, Sa, Sb, Sc, Se, O1.d, O2.d, O3.d, cmI, arI, envOf, putN, ↓reduceIte, Nat.reduceLT, Nat.reduceSub, Nat.reduceAdd, Int.reduceAdd, Int.reduceEq, Int.reduceLT, Int.reduceLE, arr_pos, arr_neg, ]
 refine mc.lp_for (List Int) (fun k o => [⟨I, (k : Int)⟩, ⟨L V3, s.1⟩, ⟨L TR, s.2⟩, ⟨L T4, r.1⟩, ⟨L I, r.2.1⟩, ⟨L (L T4), r.2.2⟩, ⟨L I, r.2.1⟩, ⟨L I, o⟩]) (fun k o => o = upTo (fun x => dB ((x : Int) ∈ usL r.1 s.1.length ∨ ∃ m, m < r.2.2.length ∧ (x : Int) ∈ usL (r.2.2.getD m []) s.1.length)) k) s.1.length 0 [] _ rfl (Nat.zero_le _) rfl ?_ ?_
 ·rintro x o hx rfl
  have h6 := @upTo_len (fun x => dB ((x : Int) ∈ usL r.1 s.1.length ∨ ∃ m, m < r.2.2.length ∧ (x : Int) ∈ usL (r.2.2.getD m []) s.1.length)) x
  obtain ⟨U, hU⟩ : ∃ U, upTo (fun x => dB ((x : Int) ∈ usL r.1 s.1.length ∨ ∃ m, m < r.2.2.length ∧ (x : Int) ∈ usL (r.2.2.getD m []) s.1.length)) x = U := ⟨_, rfl⟩
  have h7 := @usL_len r.1 s.1.length
  rw [hU] at h6 ⊢
  simp (contextual := true) (maxSteps := 1000000) (disch := omega) only [↓Sd, ↓So, ↓Sk, ↓den, ↓denA, Sa, Sb, Sc, Se, O1.d, O2.d, O3.d, cmI, arI, envOf, putN, ↓reduceIte, Nat.reduceLT, Nat.reduceSub, Nat.reduceAdd, Int.reduceAdd, Int.reduceEq, Int.reduceLT, Int.reduceLE, arr_pos, arr_neg, ↓wpJoin, C_spec_UsedBy r.1 s.1.length hru.1 h3, C_spec_l2Has (usL r.1 s.1.length) x (by omega)]
  refine mc.lp_for Bool (fun m b => [⟨I, (x : Int)⟩, ⟨B, b⟩, ⟨I, (m : Int)⟩, ⟨L V3, s.1⟩, ⟨L TR, s.2⟩, ⟨L T4, r.1⟩, ⟨L I, r.2.1⟩, ⟨L (L T4), r.2.2⟩, ⟨L I, r.2.1⟩, ⟨L I, U⟩]) (fun m b => b = dB ((x : Int) ∈ usL r.1 s.1.length ∨ ∃ a, a < m ∧ (x : Int) ∈ usL (r.2.2.getD a []) s.1.length)) r.2.2.length 0 _ _ rfl (Nat.zero_le _) (dB_congr ⟨.inl, fun h => h.elim id fun ⟨a, h, _⟩ => absurd h (Nat.not_lt_zero _)⟩) ?_ ?_
  ·rintro m b hm rfl
   have h9 := @usL_len (r.2.2.getD m []) s.1.length
   have hfm : Few (r.2.2.getD m []) := hru.2.2.2 _ (getD_mem hm)
   simp (contextual := true) (maxSteps := 1000000) (disch := omega) only [↓Sd, ↓So, ↓Sk, ↓den, ↓denA, Sa, Sb, Sc, Se, O1.d, O2.d, O3.d, cmI, arI, envOf, putN, ↓reduceIte, Nat.reduceLT, Nat.reduceSub, Nat.reduceAdd, Int.reduceAdd, Int.reduceEq, Int.reduceLT, Int.reduceLE, arr_pos, arr_neg, ↓wpJoin, C_spec_UsedBy (r.2.2.getD m []) s.1.length hfm (h4 m hm), C_spec_l2Has (usL (r.2.2.getD m []) s.1.length) x (by omega)]
   refine ⟨fun g => ?_, fun g => dB_congr ⟨fun g2 => .inr ⟨m, by omega, g2⟩, fun g2 => ?_⟩⟩
   ·rw [dB_t]
    rcases dB_iff.1 g with g1 | ⟨a, g1, g2⟩
    ·exact .inl g1
    ·exact .inr ⟨a, by omega, g2⟩
   ·rcases g2 with g1 | ⟨a, g1, g2⟩
    ·exact absurd (dB_t (.inl g1)) g
    ·by_cases e : a = m
     ·rw [← e]; exact g2
     ·exact absurd (dB_t (.inr ⟨a, by omega, g2⟩)) g
  ·rintro b rfl
   rw [← hU]
   have hUl : (upTo (fun x => dB ((x : Int) ∈ usL r.1 s.1.length ∨ ∃ m, m < r.2.2.length ∧ (x : Int) ∈ usL (r.2.2.getD m []) s.1.length)) x).length ≤ x := upTo_len
   obtain ⟨P, hP⟩ : ∃ P : Nat → Bool, P = fun x : Nat => dB ((x : Int) ∈ usL r.1 s.1.length ∨ ∃ m, m < r.2.2.length ∧ (x : Int) ∈ usL (r.2.2.getD m []) s.1.length) := ⟨_, rfl⟩
   have hPx : dB ((x : Int) ∈ usL r.1 s.1.length ∨ ∃ m, m < r.2.2.length ∧ (x : Int) ∈ usL (r.2.2.getD m []) s.1.length) = P x := by rw [hP]
   rw [hPx]
   rw [← hP] at hUl ⊢
   simp (contextual := true) (maxSteps := 1000000) (disch := omega) only [↓Sd, ↓So, ↓Sk, ↓den, ↓denA, Sa, Sb, Sc, Se, O1.d, O2.d, O3.d, cmI, arI, envOf, putN, ↓reduceIte, Nat.reduceLT, Nat.reduceSub, Nat.reduceAdd, Int.reduceAdd, Int.reduceEq, Int.reduceLT, Int.reduceLE, arr_pos, arr_neg, ]
   exact ⟨fun g => (upTo_s (p := P) g).symm, fun g => (upTo_n (p := P) g).symm⟩
 ·rintro o rfl
  simp (contextual := true) (maxSteps := 1000000) (disch := omega) only [↓Sd, ↓So, ↓Sk, ↓den, ↓denA, Sa, Sb, Sc, Se, O1.d, O2.d, O3.d, cmI, arI, envOf, putN, ↓reduceIte, Nat.reduceLT, Nat.reduceSub, Nat.reduceAdd, Int.reduceAdd, Int.reduceEq, Int.reduceLT, Int.reduceLE, arr_pos, arr_neg, ]
  rfl
theorem C_spec_l26Apart (s : Sy) (i j : Nat) (hs : FewSy s) (h : valid s) (hi : i < s.2.length) (hj : j < s.2.length) (Q : List AV → Prop) : mc.C f_spec_l26Apart [⟨L V3, s.1⟩, ⟨L TR, s.2⟩, ⟨I, (i : Int)⟩, ⟨I, (j : Int)⟩] Q = Q [⟨B, dB (Apr s i j)⟩] := by
 refine Mc.Ends.c (mc.ends F_spec_l26Apart ?_)
 obtain ⟨a1, a2, -, -⟩ := rl_terms h hi
 obtain ⟨b1, b2, -, -⟩ := rl_terms h hj
 have h5 := h.1
 have c1 : (tcS s.1.length (rl s i)).length ≤ s.1.length := upTo_len
 have c2 : (tcS s.1.length (rl s j)).length ≤ s.1.length := upTo_len
 have m1 : Mt2 (rl s i).2.1 (tcS s.1.length (rl s j)) ↔ Mt2 (rl s i).2.1 (tcL s.1.length (rl s j)) := Mt2.congr fun x => tcS_mem
 have m2 : Mt2 (rl s j).2.1 (tcS s.1.length (rl s i)) ↔ Mt2 (rl s j).2.1 (tcL s.1.length (rl s i)) := Mt2.congr fun x => tcS_mem
 generalize hK : dB (Apr s i j) = K
 simp (contextual := true) (maxSteps := 1000000) (disch := omega) only [↓Sd, ↓So, ↓Sk, ↓den, ↓denA, Sa, Sb, Sc, Se, O1.d, O2.d, O3.d, cmI, arI, envOf, putN, ↓reduceIte, Nat.reduceLT, Nat.reduceSub, Nat.reduceAdd, Int.reduceAdd, Int.reduceEq, Int.reduceLT, Int.reduceLE, arr_pos, arr_neg, tr_spec_l26Apart, C_spec_TouchedBy s i hs h hi, C_spec_TouchedBy s j hs h hj, C_spec_l26Meet (rl s i).2.1 (rl s j).2.1 (by omega) (by omega), C_spec_l26Meet (rl s i).2.1 (tcS s.1.length (rl s j)) (by omega) (by omega), C_spec_l26Meet (rl s j).2.1 (tcS s.1.length (rl s i)) (by omega) (by omega)]
 refine ⟨fun g1 => ⟨fun g2 => ?_, fun g2 => ?_⟩, fun g1 => ?_⟩
 ·have n1 : ¬ Mt2 (rl s i).2.1 (rl s j).2.1 := fun g => by
   have g' : ∃ x, x ∈ (rl s i).2.1 ∧ x ∈ (rl s j).2.1 := g
   rw [dB_t g'] at g1; cases g1
  have n2 : ¬ Mt2 (rl s i).2.1 (tcL s.1.length (rl s j)) := fun g => by
   have g' : ∃ x, x ∈ (rl s i).2.1 ∧ x ∈ tcS s.1.length (rl s j) := m1.2 g
   rw [dB_t g'] at g2; cases g2
  by_cases e : Mt2 (rl s j).2.1 (tcL s.1.length (rl s i))
  ·rw [← hK, dB_f (fun g : Apr s i j => g.2.2 e), dB_t (show ∃ x, x ∈ (rl s j).2.1 ∧ x ∈ tcS s.1.length (rl s i) from m2.2 e)]; rfl
  ·rw [← hK, dB_t (show Apr s i j from ⟨n1, n2, e⟩), dB_f (show ¬ ∃ x, x ∈ (rl s j).2.1 ∧ x ∈ tcS s.1.length (rl s i) from fun g => e (m2.1 g))]; rfl
 ·rw [← hK, dB_f fun g => g2 (dB_f fun g' => g.2.1 (m1.1 g'))]
 ·rw [← hK, dB_f fun g => g1 (dB_f g.1)]
theorem C_spec_l26Wakers (s : Sy) (i : Nat) (hs : FewSy s) (h : valid s) (hi : i < s.2.length) (Q : List AV → Prop) : mc.C f_spec_l26Wakers [⟨L V3, s.1⟩, ⟨L TR, s.2⟩, ⟨I, (i : Int)⟩] Q = Q [⟨L I, wkL s i⟩] := by
 refine Mc.Ends.c (mc.ends F_spec_l26Wakers ?_)
 have h5 := h.1
 have h8 := h.2.1
 have c1 : (tcS s.1.length (rl s i)).length ≤ s.1.length := upTo_len
 simp (contextual := true) (maxSteps := 1000000) (disch := omega) only [↓Sd, ↓So, ↓Sk, ↓den, ↓denA, Sa, Sb, Sc, Se, O1.d, O2.d, O3.d, cmI, arI, envOf, putN, ↓reduceIte, Nat.reduceLT, Nat.reduceSub, Nat.reduceAdd, Int.reduceAdd, Int.reduceEq, Int.reduceLT, Int.reduceLE, arr_pos, arr_neg, tr_spec_l26Wakers, C_spec_TouchedBy s i hs h hi]
 refine mc.lp_for (List Int) (fun k o => [⟨I, (i : Int)⟩, ⟨I, (k : Int)⟩, ⟨L V3, s.1⟩, ⟨L TR, s.2⟩, ⟨L I, tcS s.1.length (rl s i)⟩, ⟨L I, o⟩]) (fun k o => o = upTo (wkB s i) k) s.2.length 0 [] _ rfl (Nat.zero_le _) rfl ?_ ?_
 ·rintro k o hk rfl
  obtain ⟨b1, b2, -, -⟩ := rl_terms h hk
  have ek : s.2.getD k ([], [], []) = rl s k := rfl
  have hul := @upTo_len (wkB s i) k
  have m1 : Mt2 (rl s k).2.1 (tcS s.1.length (rl s i)) ↔ Mt2 (rl s k).2.1 (tcL s.1.length (rl s i)) := Mt2.congr fun x => tcS_mem
  simp (contextual := true) (maxSteps := 1000000) (disch := omega) only [↓Sd, ↓So, ↓Sk, ↓den, ↓denA, Sa, Sb, Sc, Se, O1.d, O2.d, O3.d, cmI, arI, envOf, putN, ↓reduceIte, Nat.reduceLT, Nat.reduceSub, Nat.reduceAdd, Int.reduceAdd, Int.reduceEq, Int.reduceLT, Int.reduceLE, arr_pos, arr_neg, ↓wpJoin, ek, C_spec_l26Meet (rl s k).2.1 (tcS s.1.length (rl s i)) (by omega) (by omega)]
  refine ⟨fun g1 => ⟨fun g2 => (upTo_s (p := wkB s i) (dB_t ⟨by omega, m1.1 (dB_iff.1 g2)⟩)).symm, fun g2 => (upTo_n (p := wkB s i) fun g => g2 (dB_t (m1.2 (dB_iff.1 g).2))).symm⟩, fun g1 => (upTo_n (p := wkB s i) fun g => (dB_iff.1 g).1 (by omega)).symm⟩
 ·rintro o rfl
  simp (contextual := true) (maxSteps := 1000000) (disch := omega) only [↓Sd, ↓So, ↓Sk, ↓den, ↓denA, Sa, Sb, Sc, Se, O1.d, O2.d, O3.d, cmI, arI, envOf, putN, ↓reduceIte, Nat.reduceLT, Nat.reduceSub, Nat.reduceAdd, Int.reduceAdd, Int.reduceEq, Int.reduceLT, Int.reduceLE, arr_pos, arr_neg, ]
  rfl
inductive Rc (E : Nat → Nat → Bool) (n r : Nat) : Nat → Prop
 | base : Rc E n r r
 | step {a m : Nat} : Rc E n r a → m < n → E a m = true → Rc E n r m
theorem Rc.to {E E' : Nat → Nat → Bool} {n r : Nat} (h : ∀ a m, m ≠ a → E a m = E' a m) {k : Nat} (hk : Rc E n r k) : Rc E' n r k := by
 induction hk with
 | base => exact .base
 | @step a m _ h1 h2 ih =>
  by_cases e : m = a
  ·rw [e]; exact ih
  ·exact .step ih h1 (by rw [← h a m e]; exact h2)
theorem Rc.lt {E : Nat → Nat → Bool} {n r : Nat} (hr : r < n) {k : Nat} (hk : Rc E n r k) : k < n := by
 cases hk with
 | base => exact hr
 | step _ h _ => exact h
theorem rc_of_closed {E : Nat → Nat → Bool} {n r : Nat} {p : Nat → Bool} (hr : r < n) (h1 : p r = true) (h3 : ∀ k, k < n → p k = true → Rc E n r k) (h4 : ∀ a, a < n → p a = true → ∀ m, m < n → E a m = true → p m = true) : ∀ k, k < n → p k = dB (Rc E n r k) := by
 intro k hk
 have key : ∀ k, Rc E n r k → p k = true := by
  intro k h
  induction h with
  | base => exact h1
  | @step a m ha hm he ih => exact h4 a (ha.lt hr) ih m hm he
 cases hp : p k with
 | false =>
  rw [dB_f]
  intro h
  rw [key k h] at hp; cases hp
 | true => rw [dB_t (h3 k hk hp)]
noncomputable def eI' (ab : Nat → Bool) (A : Nat → Nat → Bool) (W : Nat → List Int) (k m : Nat) : Bool := bif ab k then !A k m else dB ((m : Int) ∈ W k)
structure SI (E : Nat → Nat → Bool) (n r y : Nat) (p : Nat → Bool) (q : List Int) (j : Nat) (s : (Nat → Bool) × List Int) : Prop where
 a1 : ∀ x ∈ s.2, (0 ≤ x ∧ x < n) ∧ s.1 x.toNat = true
 a2 : ∀ k, k < n → p k = true → s.1 k = true
 a3 : ∀ k, k < n → s.1 k = true → Rc E n r k
 a4 : ∀ m, m < j → m < n → E y m = true → s.1 m = true
 a5 : ∀ a : Nat, a < n → s.1 a = true → (a : Int) ∉ s.2 → a ≠ y → ∀ m, m < n → E a m = true → s.1 m = true
 a6 : s.2.length + cntF s.1 n ≤ q.length + cntF p n
 a7 : 2 * cntF s.1 n + s.2.length ≤ 2 * cntF p n + q.length
theorem SI.skip {E : Nat → Nat → Bool} {n r y : Nat} {p : Nat → Bool} {q : List Int} {j : Nat} {s : (Nat → Bool) × List Int} (h : SI E n r y p q j s) (g : E y j = true → s.1 j = true) : SI E n r y p q (j + 1) s :=
 ⟨h.a1, h.a2, h.a3, fun m hm hmn he => by
  by_cases e : m = j
  ·rw [e] at he ⊢; exact g he
  ·exact h.a4 m (by omega) hmn he, h.a5, h.a6, h.a7⟩
theorem SI.put {E : Nat → Nat → Bool} {n r y : Nat} {p : Nat → Bool} {q : List Int} {j : Nat} {p' : Nat → Bool} {q' : List Int} (h : SI E n r y p q j (p', q')) (hj : j < n) (hy : y < n) (hxp : p y = true) (g : E y j = true) (g1 : p' j = false) : SI E n r y p q (j + 1) (fun k => if k = j then true else p' k, q' ++ [(j : Int)]) := by
 have hc := cntF_set g1 hj
 obtain ⟨a1, a2, a3, a4, a5, a6, a7⟩ := h
 simp only at a1 a2 a3 a4 a5 a6 a7
 have hyR := a3 y hy (a2 y hy hxp)
 refine ⟨fun z hz => ?_, fun k hk h => mk_or (a2 k hk h), fun k hk h => ?_, fun m hm hmn he => ?_, fun a ha h1 h2 h3 m hm he => ?_, ?_, ?_⟩
 ·rcases List.mem_append.1 hz with h | h
  ·have := a1 z h; exact ⟨this.1, mk_or this.2⟩
  ·simp only [List.mem_singleton] at h; subst h; exact ⟨by omega, by simp⟩
 ·by_cases hky : k = j
  ·rw [hky]; exact .step hyR hj g
  ·exact a3 k hk (by simpa [hky] using h)
 ·simp only
  split
  ·rfl
  ·exact a4 m (by omega) hmn he
 ·simp only [List.mem_append, List.mem_singleton, not_or] at h2
  have hay : ¬ a = j := fun h => h2.2 (by rw [h])
  simp only
  split
  ·rfl
  ·exact a5 a ha (by simpa [hay] using h1) h2.1 h3 m hm he
 ·simp only [List.length_append, List.length_singleton]; omega
 ·simp only [List.length_append, List.length_singleton]; omega
theorem C_impl_stubborn_from (ab : Nat → Bool) (A : Nat → Nat → Bool) (W : Nat → List Int) (n r : Nat) (hn : n ≤ 8) (hr : r < n) (hW : ∀ k, k < n → (W k).length ≤ 8) (Q : List AV → Prop) :
  mc.C f_impl_stubborn_from [⟨P (L (L B)) (L (L I)), (tab (fun k => tab (A k) n) n, tab W n)⟩, ⟨L B, tab ab n⟩, ⟨I, (r : Int)⟩] Q = Q [⟨L B, tab (fun k => dB (Rc (eI' ab A W) n r k)) n⟩, ⟨P (L (L B)) (L (L I)), (tab (fun k => tab (A k) n) n, tab W n)⟩] := by
 refine Mc.Ends.c (mc.ends F_impl_stubborn_from ?_)
 have hr0 : (List.replicate n false).set r true = tab (fun k => if k = r then true else false) n := by rw [rep_tab, tab_set']
 obtain ⟨AA, hAA⟩ : ∃ AA, tab (fun k => tab (A k) n) n = AA := ⟨_, rfl⟩
 obtain ⟨WW, hWW⟩ : ∃ WW, tab W n = WW := ⟨_, rfl⟩
 have hAl : AA.length = n := by rw [← hAA, tab_len]
 have hWl : WW.length = n := by rw [← hWW, tab_len]
 have hAg : ∀ k, k < n → AA.getD k [] = tab (A k) n := fun k hk => by rw [← hAA, tab_get hk]
 have hWg : ∀ k, k < n → WW.getD k [] = W k := fun k hk => by rw [← hWW, tab_get hk]
 obtain ⟨E, hE⟩ : ∃ E, eI' ab A W = E := ⟨_, rfl⟩
 have hEt : ∀ k m, ab k = true → E k m = !A k m := fun k m h => by rw [← hE, eI', h]; rfl
 have hEf : ∀ k m, ab k = false → E k m = dB ((m : Int) ∈ W k) := fun k m h => by rw [← hE, eI', h]; rfl
 rw [hAA, hWW, hE]
 simp (contextual := true) (maxSteps := 1000000) (disch := omega) only [↓Sd, ↓So, ↓Sk, ↓den, ↓denA, Sa, Sb, Sc, Se, O1.d, O2.d, O3.d, cmI, arI, envOf, putN, ↓reduceIte, Nat.reduceLT, Nat.reduceSub, Nat.reduceAdd, Int.reduceAdd, Int.reduceEq, Int.reduceLT, Int.reduceLE, arr_pos, arr_neg, tr_impl_stubborn_from, tab_len, List.length_replicate, hr0]
 refine mc.lp_inv (fun j us => ∃ (p : Nat → Bool) (q : List Int), us = [⟨L B, tab ab n⟩, ⟨L (L B), AA⟩, ⟨L (L I), WW⟩, ⟨L B, tab p n⟩, ⟨L I, q⟩] ∧ (∀ x ∈ q, (0 ≤ x ∧ x < n) ∧ p x.toNat = true) ∧ p r = true ∧ (∀ k, k < n → p k = true → Rc E n r k) ∧
  (∀ a : Nat, a < n → p a = true → (a : Int) ∉ q → ∀ m, m < n → E a m = true → p m = true) ∧ q.length + cntF p n ≤ 100 ∧ j = 2 * cntF p n + q.length) _ _
  ⟨fun k => if k = r then true else false, [(r : Int)], rfl, ?_, by simp, fun k _ h => ?_, fun a _ h1 h2 => ?_, ?_, rfl⟩ ?_
 ·intro x hx
  rw [List.mem_singleton.1 hx]
  simp only [Int.toNat_natCast, if_true, and_true]
  omega
 ·have : k = r := by simpa using h
  rw [this]; exact .base
 ·have : a = r := by simpa using h1
  rw [this] at h2; simp at h2
 ·have := @cntF_le (fun k => if k = r then true else false) n
  simp only [List.length_singleton]; omega
 rintro j us ⟨p, q, rfl, i1, i2, i3, i4, i5, rfl⟩
 cases q with
 | nil =>
  simp (contextual := true) (maxSteps := 1000000) (disch := omega) only [↓Sd, ↓So, ↓Sk, ↓den, ↓denA, Sa, Sb, Sc, Se, O1.d, O2.d, O3.d, cmI, arI, envOf, putN, ↓reduceIte, Nat.reduceLT, Nat.reduceSub, Nat.reduceAdd, Int.reduceAdd, Int.reduceEq, Int.reduceLT, Int.reduceLE, arr_pos, arr_neg, ]
  exact tab_congr (rc_of_closed hr i2 i3 fun a ha hp m hm he => i4 a ha hp (by simp) m hm he)
 | cons x q =>
  obtain ⟨⟨hx0, hx1⟩, hxp⟩ := i1 x (List.mem_cons_self ..)
  obtain ⟨y, rfl⟩ : ∃ y : Nat, x = y := ⟨x.toNat, by omega⟩
  have hy : y < n := by omega
  rw [Int.toNat_natCast] at hxp
  have hWy := hW y hy
  simp only [List.length_cons] at i5
  simp (contextual := true) (maxSteps := 1000000) (disch := omega) only [↓Sd, ↓So, ↓Sk, ↓den, ↓denA, Sa, Sb, Sc, Se, O1.d, O2.d, O3.d, cmI, arI, envOf, putN, ↓reduceIte, Nat.reduceLT, Nat.reduceSub, Nat.reduceAdd, Int.reduceAdd, Int.reduceEq, Int.reduceLT, Int.reduceLE, arr_pos, arr_neg, tab_len, List.drop_succ_cons, List.drop_zero]
  refine mc.lp_for ((Nat → Bool) × List Int) (fun j s => [⟨L B, tab ab n⟩, ⟨I, (y : Int)⟩, ⟨I, (n : Int)⟩, ⟨I, (j : Int)⟩, ⟨L (L B), AA⟩, ⟨L (L I), WW⟩, ⟨L B, tab s.1 n⟩, ⟨L I, s.2⟩]) (fun j s => SI E n r y p q j s) n 0 (p, q) _ rfl (Nat.zero_le _)
   ⟨fun z hz => i1 z (List.mem_cons_of_mem _ hz), fun _ _ h => h, i3, fun m hm => absurd hm (Nat.not_lt_zero _), fun a h1 h2 h3 h4 => i4 a h1 h2 (by simp only [List.mem_cons, not_or]; exact ⟨by omega, h3⟩), Nat.le_refl _, Nat.le_refl _⟩ ?_ ?_
  ·rintro j ⟨p', q'⟩ hj h
   have hqf : q'.length ≤ 1000 := by have := h.a6; simp only at this; omega
   cases hab : ab y with
   | true =>
    have he := hEt y j hab
    simp (contextual := true) (maxSteps := 1000000) (disch := omega) only [↓Sd, ↓So, ↓Sk, ↓den, ↓denA, Sa, Sb, Sc, Se, O1.d, O2.d, O3.d, cmI, arI, envOf, putN, ↓reduceIte, Nat.reduceLT, Nat.reduceSub, Nat.reduceAdd, Int.reduceAdd, Int.reduceEq, Int.reduceLT, Int.reduceLE, arr_pos, arr_neg, ↓wpJoin, tab_len, tab_get hy, hab, hAl, hAg y hy, tab_get hj, hWl, tab_set']
    refine ⟨fun g => ⟨fun g1 => ⟨_, ⟨rfl, rfl⟩, h.put hj hy hxp (by rw [he, g]; rfl) g1⟩, fun g1 => ⟨_, ⟨rfl, rfl⟩, h.skip fun _ => by simpa using g1⟩⟩, fun g => ⟨_, ⟨rfl, rfl⟩, h.skip fun g1 => ?_⟩⟩
    rw [he] at g1
    exact absurd (by simpa using g1) g
   | false =>
    have he := hEf y j hab
    simp (contextual := true) (maxSteps := 1000000) (disch := omega) only [↓Sd, ↓So, ↓Sk, ↓den, ↓denA, Sa, Sb, Sc, Se, O1.d, O2.d, O3.d, cmI, arI, envOf, putN, ↓reduceIte, Nat.reduceLT, Nat.reduceSub, Nat.reduceAdd, Int.reduceAdd, Int.reduceEq, Int.reduceLT, Int.reduceLE, arr_pos, arr_neg, ↓wpJoin, tab_len, tab_get hy, hab, hWl, hWg y hy, C_slices_Contains_int (W y) j (by omega), tab_get hj, tab_set']
    exact ⟨fun g => ⟨fun g1 => ⟨_, ⟨rfl, rfl⟩, h.put hj hy hxp (by rw [he]; exact g) g1⟩, fun g1 => ⟨_, ⟨rfl, rfl⟩, h.skip fun _ => by simpa using g1⟩⟩, fun g => ⟨_, ⟨rfl, rfl⟩, h.skip fun g1 => absurd (he.symm.trans g1) g⟩⟩
  ·rintro ⟨p', q'⟩ ⟨a1, a2, a3, a4, a5, a6, a7⟩
   have a6' : q'.length + cntF p' n ≤ q.length + cntF p n := a6
   have a7' : 2 * cntF p' n + q'.length ≤ 2 * cntF p n + q.length := a7
   clear a6 a7
   simp (contextual := true) (maxSteps := 1000000) (disch := omega) only [↓Sd, ↓So, ↓Sk, ↓den, ↓denA, Sa, Sb, Sc, Se, O1.d, O2.d, O3.d, cmI, arI, envOf, putN, ↓reduceIte, Nat.reduceLT, Nat.reduceSub, Nat.reduceAdd, Int.reduceAdd, Int.reduceEq, Int.reduceLT, Int.reduceLE, arr_pos, arr_neg, ]
   refine ⟨_, ?_, p', q', ⟨rfl, rfl⟩, a1, a2 r hr i2, a3, fun a ha h1 h2 m hm he => ?_, by omega, rfl⟩
   ·first | omega | (simp only [List.length_cons]; omega)
   ·by_cases hax : a = y
    ·rw [hax] at he; exact a4 m hm hm he
    ·exact a5 a ha h1 h2 hax m hm he
noncomputable def abS (s : Sy) (st : List Int) (k : Nat) : Bool := decide (¬ useM s.1 (rl s k) st = [])
noncomputable def eS (s : Sy) (st : List Int) : Nat → Nat → Bool := eI' (abS s st) (fun k m => dB (Apr s k m)) (wkL s)
noncomputable def frS (s : Sy) (st : List Int) (r k : Nat) : Bool := dB (Rc (eS s st) s.2.length r k)
noncomputable def eT (s : Sy) (st : List Int) (k m : Nat) : Bool := bif abS s st k then (decide (m ≠ k) && !dB (Apr s k m)) else dB ((m : Int) ∈ wkL s k)
theorem eST {s : Sy} {st : List Int} (a m : Nat) (h : m ≠ a) : eS s st a m = eT s st a m := by
 unfold eS eI' eT
 cases abS s st a
 ·rfl
 ·simp [h]
theorem rcST {s : Sy} {st : List Int} {n r k : Nat} : Rc (eS s st) n r k ↔ Rc (eT s st) n r k := ⟨fun h => h.to eST, fun h => h.to fun a m h => (eST a m h).symm⟩
theorem C_impl_stubbornOf (s : Sy) (h : valid s) (Q : List AV → Prop) : mc.C f_impl_stubbornOf [⟨L V3, s.1⟩, ⟨L TR, s.2⟩] Q = Q [⟨P (L (L B)) (L (L I)), (tab (fun k => tab (fun m => dB (Apr s k m)) s.2.length) s.2.length, tab (wkL s) s.2.length)⟩] := by
 refine Mc.Ends.c (mc.ends F_impl_stubbornOf ?_)
 have h8 := h.2.1
 simp (contextual := true) (maxSteps := 1000000) (disch := omega) only [↓Sd, ↓So, ↓Sk, ↓den, ↓denA, Sa, Sb, Sc, Se, O1.d, O2.d, O3.d, cmI, arI, envOf, putN, ↓reduceIte, Nat.reduceLT, Nat.reduceSub, Nat.reduceAdd, Int.reduceAdd, Int.reduceEq, Int.reduceLT, Int.reduceLE, arr_pos, arr_neg, tr_impl_stubbornOf]
 refine mc.lp_for (List (List Bool) × List (List Int)) (fun i o => [⟨I, (s.2.length : Int)⟩, ⟨I, (i : Int)⟩, ⟨L V3, s.1⟩, ⟨L TR, s.2⟩, ⟨L (L B), o.1⟩, ⟨L (L I), o.2⟩]) (fun i o => o.1 = tab (fun k => tab (fun m => dB (Apr s k m)) s.2.length) i ∧ o.2 = tab (wkL s) i) s.2.length 0 ([], []) _ rfl (Nat.zero_le _) ⟨rfl, rfl⟩ ?_ ?_
 ·rintro i ⟨o1, o2⟩ hi ⟨rfl, rfl⟩
  simp (contextual := true) (maxSteps := 1000000) (disch := omega) only [↓Sd, ↓So, ↓Sk, ↓den, ↓denA, Sa, Sb, Sc, Se, O1.d, O2.d, O3.d, cmI, arI, envOf, putN, ↓reduceIte, Nat.reduceLT, Nat.reduceSub, Nat.reduceAdd, Int.reduceAdd, Int.reduceEq, Int.reduceLT, Int.reduceLE, arr_pos, arr_neg, ]
  refine mc.lp_for (List Bool) (fun j o => [⟨I, (i : Int)⟩, ⟨I, (s.2.length : Int)⟩, ⟨I, (i : Int)⟩, ⟨I, (s.2.length : Int)⟩, ⟨I, (j : Int)⟩, ⟨L V3, s.1⟩, ⟨L TR, s.2⟩, ⟨L (L B), tab (fun k => tab (fun m => dB (Apr s k m)) s.2.length) i⟩, ⟨L (L I), tab (wkL s) i⟩, ⟨L B, o⟩]) (fun j o => o = tab (fun m => dB (Apr s i m)) j) s.2.length 0 [] _ rfl (Nat.zero_le _) rfl ?_ ?_
  ·rintro j o hj rfl
   simp (contextual := true) (maxSteps := 1000000) (disch := omega) only [↓Sd, ↓So, ↓Sk, ↓den, ↓denA, Sa, Sb, Sc, Se, O1.d, O2.d, O3.d, cmI, arI, envOf, putN, ↓reduceIte, Nat.reduceLT, Nat.reduceSub, Nat.reduceAdd, Int.reduceAdd, Int.reduceEq, Int.reduceLT, Int.reduceLE, arr_pos, arr_neg, C_impl_rulesApart s i j h hi hj, tab_len]
   exact tab_next (f := fun m => dB (Apr s i m))
  ·rintro o rfl
   simp (contextual := true) (maxSteps := 1000000) (disch := omega) only [↓Sd, ↓So, ↓Sk, ↓den, ↓denA, Sa, Sb, Sc, Se, O1.d, O2.d, O3.d, cmI, arI, envOf, putN, ↓reduceIte, Nat.reduceLT, Nat.reduceSub, Nat.reduceAdd, Int.reduceAdd, Int.reduceEq, Int.reduceLT, Int.reduceLE, arr_pos, arr_neg, C_impl_wakersOf s i h hi, tab_len]
   exact ⟨(_, _), ⟨rfl, rfl⟩, tab_next (f := fun k => tab (fun m => dB (Apr s k m)) s.2.length), tab_next (f := wkL s)⟩
 ·rintro ⟨o1, o2⟩ ⟨rfl, rfl⟩
  simp (contextual := true) (maxSteps := 1000000) (disch := omega) only [↓Sd, ↓So, ↓Sk, ↓den, ↓denA, Sa, Sb, Sc, Se, O1.d, O2.d, O3.d, cmI, arI, envOf, putN, ↓reduceIte, Nat.reduceLT, Nat.reduceSub, Nat.reduceAdd, Int.reduceAdd, Int.reduceEq, Int.reduceLT, Int.reduceLE, arr_pos, arr_neg, ]
structure TI (E : Nat → Nat → Bool) (n r : Nat) (p : Nat → Bool) (i : Nat) (ag : Bool) (q : Nat → Bool) : Prop where
 b0 : q r = true
 b1 : ∀ k, k < n → p k = true → q k = true
 b2 : ∀ k, k < n → q k = true → Rc E n r k
 b3 : ag = false → ∀ k, k < n → q k = p k
 b4 : ag = false → ∀ a, a < i → a < n → p a = true → ∀ m, m < n → E a m = true → p m = true
 b5 : ag = true → cntF q n < cntF p n
structure TJ (E : Nat → Nat → Bool) (n r : Nat) (p : Nat → Bool) (i j : Nat) (ag : Bool) (q : Nat → Bool) : Prop extends TI E n r p i ag q where
 c4 : ag = false → p i = true → ∀ m, m < j → m < n → E i m = true → p m = true
theorem TJ.skip {E : Nat → Nat → Bool} {n r : Nat} {p : Nat → Bool} {i j : Nat} {ag : Bool} {q : Nat → Bool} (h : TJ E n r p i j ag q) (g : E i j = true → q j = true) : TJ E n r p i (j + 1) ag q := by
 refine ⟨h.toTI, fun ha hp m hm hmn he => ?_⟩
 by_cases e : m = j
 ·rw [← h.b3 ha m hmn, e]; exact g (by rw [← e]; exact he)
 ·exact h.c4 ha hp m (by omega) hmn he
theorem TJ.put {E : Nat → Nat → Bool} {n r : Nat} {p : Nat → Bool} {i j : Nat} {ag : Bool} {q : Nat → Bool} (h : TJ E n r p i j ag q) (hi : i < n) (hj : j < n) (hqi : q i = true) (g : E i j = true) (g1 : q j = false) : TJ E n r p i (j + 1) true (fun k => if k = j then true else q k) := by
 have hc := cntF_set g1 hj
 refine { b0 := mk_or h.b0, b1 := fun k hk hp => mk_or (h.b1 k hk hp), b2 := fun k hk hp => ?_, b3 := (fun h => by cases h), b4 := (fun h => by cases h), b5 := fun _ => ?_, c4 := (fun h => by cases h) }
 ·by_cases e : k = j
  ·rw [e]; exact .step (h.b2 i hi hqi) hj g
  ·exact h.b2 k hk (by simpa [e] using hp)
 ·cases ag with
  | true => have := h.b5 rfl; omega
  | false => have := cntF_congr (h.b3 rfl); omega
theorem TJ.next {E : Nat → Nat → Bool} {n r : Nat} {p : Nat → Bool} {i j : Nat} {ag : Bool} {q : Nat → Bool} (h : TJ E n r p i j ag q) (hi : i < n) (hj : q i = false ∨ n ≤ j) : TI E n r p (i + 1) ag q := by
 refine ⟨h.b0, h.b1, h.b2, h.b3, fun ha a h1 h2 hp m hm he => ?_, h.b5⟩
 by_cases e : a = i
 ·rw [e] at hp he
  rcases hj with g | g
  ·have := h.b1 i hi hp
   rw [this] at g; cases g
  ·exact h.c4 ha hp m (by omega) hm he
 ·exact h.b4 ha a (by omega) h2 hp m hm he
theorem C_spec_l26From (s : Sy) (st : List Int) (r : Nat) (hs : FewSy s) (h : valid s) (hst : inR s.1 st) (hr : r < s.2.length) (Q : List AV → Prop) : mc.C f_spec_l26From [⟨L V3, s.1⟩, ⟨L TR, s.2⟩, ⟨L I, st⟩, ⟨I, (r : Int)⟩] Q = Q [⟨L I, upTo (frS s st r) s.2.length⟩] := by
 refine Mc.Ends.c (mc.ends F_spec_l26From ?_)
 have h8 := h.2.1
 obtain ⟨n, hn⟩ : ∃ n, s.2.length = n := ⟨_, rfl⟩
 have hr0 : (List.replicate s.2.length false).set r true = tab (fun k => if k = r then true else false) s.2.length := by rw [rep_tab, tab_set']
 obtain ⟨E, hE⟩ : ∃ E, eT s st = E := ⟨_, rfl⟩
 have hres : ∀ k, frS s st r k = dB (Rc E n r k) := fun k => by rw [frS, hn, ← hE]; exact dB_congr rcST
 simp (contextual := true) (maxSteps := 1000000) (disch := omega) only [↓Sd, ↓So, ↓Sk, ↓den, ↓denA, Sa, Sb, Sc, Se, O1.d, O2.d, O3.d, cmI, arI, envOf, putN, ↓reduceIte, Nat.reduceLT, Nat.reduceSub, Nat.reduceAdd, Int.reduceAdd, Int.reduceEq, Int.reduceLT, Int.reduceLE, arr_pos, arr_neg, tr_spec_l26From, List.length_replicate, hr0]
 refine mc.lp_inv (fun j us => ∃ (ag : Bool) (p : Nat → Bool), us = [⟨L I, st⟩, ⟨B, ag⟩, ⟨L V3, s.1⟩, ⟨L TR, s.2⟩, ⟨L B, tab p n⟩] ∧ p r = true ∧ (∀ k, k < n → p k = true → Rc E n r k) ∧ (ag = false → ∀ a, a < n → p a = true → ∀ m, m < n → E a m = true → p m = true) ∧ j = 2 * cntF p n + (if ag = true then 1 else 0)) _ _
  ⟨true, fun k => if k = r then true else false, by rw [hn], by simp, fun k _ h => ?_, (fun h => by cases h), rfl⟩ ?_
 ·have : k = r := by simpa using h
  rw [this]; exact .base
 rintro j us ⟨ag, p, rfl, i1, i2, i3, rfl⟩
 cases ag with
 | false =>
  have hp := rc_of_closed (by omega) i1 i2 (i3 rfl)
  simp (contextual := true) (maxSteps := 1000000) (disch := omega) only [↓Sd, ↓So, ↓Sk, ↓den, ↓denA, Sa, Sb, Sc, Se, O1.d, O2.d, O3.d, cmI, arI, envOf, putN, ↓reduceIte, Nat.reduceLT, Nat.reduceSub, Nat.reduceAdd, Int.reduceAdd, Int.reduceEq, Int.reduceLT, Int.reduceLE, arr_pos, arr_neg, C_spec_l4List_tab p n (by omega)]
  rw [hn]
  exact upTo_congr fun k hk => by rw [hp k hk, hres]
 | true =>
  simp (contextual := true) (maxSteps := 1000000) (disch := omega) only [↓Sd, ↓So, ↓Sk, ↓den, ↓denA, Sa, Sb, Sc, Se, O1.d, O2.d, O3.d, cmI, arI, envOf, putN, ↓reduceIte, Nat.reduceLT, Nat.reduceSub, Nat.reduceAdd, Int.reduceAdd, Int.reduceEq, Int.reduceLT, Int.reduceLE, arr_pos, arr_neg, ]
  refine mc.lp_for (Bool × (Nat → Bool)) (fun i q => [⟨L I, st⟩, ⟨B, q.1⟩, ⟨I, (i : Int)⟩, ⟨L V3, s.1⟩, ⟨L TR, s.2⟩, ⟨L B, tab q.2 n⟩]) (fun i q => TI E n r p i q.1 q.2) n 0 (false, p) _ rfl (Nat.zero_le _) ⟨i1, fun _ _ h => h, i2, fun _ _ _ => rfl, fun _ a ha => absurd ha (Nat.not_lt_zero _), (fun h => by cases h)⟩ ?_ ?_
  ·rintro i ⟨ag, q⟩ hi hq
   have hi' : i < s.2.length := by omega
   have hwl := @wkL_len s i h
   have hab : decide (((useM s.1 (rl s i) st).length : Int) > 0) = abS s st i := by
    unfold abS
    refine decide_eq_decide.2 ?_
    rw [← List.length_eq_zero_iff]; omega
   have erl : s.2.getD i ([], [], []) = rl s i := rfl
   have hEi : ∀ m, E i m = bif abS s st i then (decide (m ≠ i) && !dB (Apr s i m)) else dB ((m : Int) ∈ wkL s i) := fun m => by rw [← hE]; rfl
   simp (contextual := true) (maxSteps := 1000000) (disch := omega) only [↓Sd, ↓So, ↓Sk, ↓den, ↓denA, Sa, Sb, Sc, Se, O1.d, O2.d, O3.d, cmI, arI, envOf, putN, ↓reduceIte, Nat.reduceLT, Nat.reduceSub, Nat.reduceAdd, Int.reduceAdd, Int.reduceEq, Int.reduceLT, Int.reduceLE, arr_pos, arr_neg, ↓wpJoin, C_spec_l2Use s st i h hst hi', erl, hab]
   refine mc.lp_for (Bool × (Nat → Bool)) (fun j q => [⟨L I, st⟩, ⟨B, q.1⟩, ⟨I, (i : Int)⟩, ⟨B, abS s st i⟩, ⟨I, (j : Int)⟩, ⟨L V3, s.1⟩, ⟨L TR, s.2⟩, ⟨L B, tab q.2 n⟩]) (fun j q => TJ E n r p i j q.1 q.2) n 0 (ag, q) _ rfl (Nat.zero_le _) { hq with c4 := fun _ _ m hm => absurd hm (Nat.not_lt_zero _) } ?_ ?_
   ·rintro j ⟨ag, q⟩ hj hq
    have hj' : j < s.2.length := by omega
    have hEj := hEi j
    cases hab : abS s st i with
    | true =>
     rw [hab] at hEj
     simp (contextual := true) (maxSteps := 1000000) (disch := omega) only [↓Sd, ↓So, ↓Sk, ↓den, ↓denA, Sa, Sb, Sc, Se, O1.d, O2.d, O3.d, cmI, arI, envOf, putN, ↓reduceIte, Nat.reduceLT, Nat.reduceSub, Nat.reduceAdd, Int.reduceAdd, Int.reduceEq, Int.reduceLT, Int.reduceLE, arr_pos, arr_neg, ↓wpJoin, tab_len, tab_get hi, tab_get hj, tab_set', C_spec_l26Apart s i j hs h hi' hj']
     refine ⟨fun gi => ⟨fun gj => ⟨fun ga => ⟨fun gq => ⟨(_, _), ⟨rfl, rfl⟩, hq.put hi hj gi ?_ gq⟩, fun gq => ⟨(_, _), ⟨rfl, rfl⟩, hq.skip fun _ => by simpa using gq⟩⟩, fun ga => ⟨(_, _), ⟨rfl, rfl⟩, hq.skip fun ge => ?_⟩⟩, fun gj => ⟨(_, _), ⟨rfl, rfl⟩, hq.skip fun ge => ?_⟩⟩, fun gi => ⟨(_, _), ⟨rfl, rfl⟩, hq.next hi (.inl (by simpa using gi))⟩⟩
     ·rw [hEj, ga]
      simp only [cond_true, Bool.not_false, Bool.and_true, decide_eq_true_eq]
      omega
     ·rw [hEj] at ge
      simp only [cond_true, Bool.and_eq_true, Bool.not_eq_true'] at ge
      exact absurd ge.2 ga
     ·rw [hEj] at ge
      simp only [cond_true, Bool.and_eq_true, decide_eq_true_eq] at ge
      omega
    | false =>
     rw [hab] at hEj
     simp (contextual := true) (maxSteps := 1000000) (disch := omega) only [↓Sd, ↓So, ↓Sk, ↓den, ↓denA, Sa, Sb, Sc, Se, O1.d, O2.d, O3.d, cmI, arI, envOf, putN, ↓reduceIte, Nat.reduceLT, Nat.reduceSub, Nat.reduceAdd, Int.reduceAdd, Int.reduceEq, Int.reduceLT, Int.reduceLE, arr_pos, arr_neg, ↓wpJoin, tab_len, tab_get hi, tab_get hj, tab_set', C_spec_l26Wakers s i hs h hi', C_spec_l2Has (wkL s i) j (by omega)]
     exact ⟨fun gi => ⟨fun ga => ⟨fun gq => ⟨(_, _), ⟨rfl, rfl⟩, hq.put hi hj gi (hEj.trans ga) gq⟩, fun gq => ⟨(_, _), ⟨rfl, rfl⟩, hq.skip fun _ => by simpa using gq⟩⟩, fun ga => ⟨(_, _), ⟨rfl, rfl⟩, hq.skip fun ge => absurd (hEj.symm.trans ge) ga⟩⟩, fun gi => ⟨(_, _), ⟨rfl, rfl⟩, hq.next hi (.inl (by simpa using gi))⟩⟩
   ·rintro ⟨ag, q⟩ hq
    simp (contextual := true) (maxSteps := 1000000) (disch := omega) only [↓Sd, ↓So, ↓Sk, ↓den, ↓denA, Sa, Sb, Sc, Se, O1.d, O2.d, O3.d, cmI, arI, envOf, putN, ↓reduceIte, Nat.reduceLT, Nat.reduceSub, Nat.reduceAdd, Int.reduceAdd, Int.reduceEq, Int.reduceLT, Int.reduceLE, arr_pos, arr_neg, hn]
    exact ⟨(ag, q), ⟨rfl, rfl⟩, hq.next hi (.inr (Nat.le_refl _))⟩
  ·rintro ⟨ag, q⟩ hq
   simp (contextual := true) (maxSteps := 1000000) (disch := omega) only [↓Sd, ↓So, ↓Sk, ↓den, ↓denA, Sa, Sb, Sc, Se, O1.d, O2.d, O3.d, cmI, arI, envOf, putN, ↓reduceIte, Nat.reduceLT, Nat.reduceSub, Nat.reduceAdd, Int.reduceAdd, Int.reduceEq, Int.reduceLT, Int.reduceLE, arr_pos, arr_neg, hn]
   refine ⟨2 * cntF q n + (if ag = true then 1 else 0), ?_, ag, q, ⟨rfl, rfl⟩, hq.b0, hq.b2, fun ha a h1 h2 m hm he => ?_, rfl⟩
   ·cases ag with
    | true => have := hq.b5 rfl; simp only at this ⊢; simp only [if_true]; omega
    | false => have := cntF_congr (hq.b3 rfl); simp only at this ⊢; simp only [Bool.false_eq_true, if_false]; omega
   ·have := hq.b4 ha a h1 h1 (by rw [← hq.b3 ha a h1]; exact h2) m hm he
    rw [← hq.b3 ha m hm] at this; exact this
theorem usb_abS {s : Sy} {st : List Int} : usb s st = upTo (abS s st) s.2.length := rfl
noncomputable def sbP (s : Sy) (st : List Int) (r k : Nat) : Bool := frS s st r k && abS s st k
noncomputable def sbL (s : Sy) (st : List Int) (r : Nat) : List Int := upTo (sbP s st r) s.2.length
noncomputable def fldS (s : Sy) (st : List Int) (b : List Int) (x : Int) : List Int := if b = [] ∨ (sbL s st x.toNat).length < b.length then sbL s st x.toNat else b
noncomputable def fld (s : Sy) (st : List Int) (l : List Int) : List Int := l.foldl (fldS s st) []
theorem fld_snoc {s : Sy} {st l : List Int} {x : Int} : fld s st (l ++ [x]) = fldS s st (fld s st l) x := by simp [fld]
noncomputable def bsL (s : Sy) (st : List Int) : List Int := fld s st (upTo (abS s st) s.2.length)
theorem sbL_mem {s : Sy} {st : List Int} {r : Nat} (hr : r < s.2.length) (ha : abS s st r = true) : ¬ sbL s st r = [] := by
 intro h
 have : (r : Int) ∈ sbL s st r := upTo_mem.2 ⟨r, hr, rfl, by rw [sbP, ha, frS, dB_t .base]; rfl⟩
 rw [h] at this; cases this
theorem sbL_len {s : Sy} {st : List Int} {r : Nat} : (sbL s st r).length ≤ s.2.length := upTo_len
theorem fld_len {s : Sy} {st : List Int} : ∀ {l b : List Int}, b.length ≤ s.2.length → (l.foldl (fldS s st) b).length ≤ s.2.length
 | [], b, h => h
 | x :: l, b, h => fld_len (l := l) (by
  unfold fldS
  split
  ·exact sbL_len
  ·exact h)
theorem bsL_len {s : Sy} {st : List Int} : (bsL s st).length ≤ s.2.length := fld_len (Nat.zero_le _)
theorem upTo_filt2 {p q : Nat → Bool} : ∀ {n : Nat}, (upTo p n).filter (fun x => q x.toNat) = upTo (fun k => p k && q k) n
 | 0 => rfl
 | n + 1 => by
  by_cases hp : p n = true
  ·rw [upTo_s hp, List.filter_append, upTo_filt2 (n := n)]
   by_cases hq : q n = true
   ·rw [upTo_s (p := fun k => p k && q k) (by simp [hp, hq])]
    simp [hq]
   ·rw [upTo_n (p := fun k => p k && q k) (by simp [hq])]
    simp [hq]
  ·rw [upTo_n hp, upTo_n (p := fun k => p k && q k) (by simp [hp])]
   exact upTo_filt2 (n := n)
theorem C_spec_l26Usable (s : Sy) (st : List Int) (r : Nat) (h : valid s) (hst : inR s.1 st) (Q : List AV → Prop) : mc.C f_spec_l26Usable [⟨L V3, s.1⟩, ⟨L TR, s.2⟩, ⟨L I, st⟩, ⟨L I, upTo (frS s st r) s.2.length⟩] Q = Q [⟨L I, sbL s st r⟩] := by
 refine Mc.Ends.c (mc.ends F_spec_l26Usable ?_)
 have h8 := h.2.1
 have hul := @upTo_len (frS s st r) s.2.length
 simp (contextual := true) (maxSteps := 1000000) (disch := omega) only [↓Sd, ↓So, ↓Sk, ↓den, ↓denA, Sa, Sb, Sc, Se, O1.d, O2.d, O3.d, cmI, arI, envOf, putN, ↓reduceIte, Nat.reduceLT, Nat.reduceSub, Nat.reduceAdd, Int.reduceAdd, Int.reduceEq, Int.reduceLT, Int.reduceLE, arr_pos, arr_neg, tr_spec_l26Usable]
 refine mc.lp_for (List Int) (fun i o => [⟨L I, st⟩, ⟨L I, upTo (frS s st r) s.2.length⟩, ⟨I, (i : Int)⟩, ⟨L V3, s.1⟩, ⟨L TR, s.2⟩, ⟨L I, o⟩]) (fun i o => o = ((upTo (frS s st r) s.2.length).take i).filter (fun x => abS s st x.toNat)) (upTo (frS s st r) s.2.length).length 0 [] _ rfl (Nat.zero_le _) rfl ?_ ?_
 ·rintro i o hi rfl
  obtain ⟨k, hk, hx, _⟩ := upTo_mem.1 (getD_mem (d := 0) hi)
  have hfl := List.length_filter_le (fun x : Int => abS s st x.toNat) ((upTo (frS s st r) s.2.length).take i)
  rw [List.length_take] at hfl
  have erl : s.2.getD k ([], [], []) = rl s k := rfl
  have hab : ((useM s.1 (rl s k) st).length > 0) ↔ abS s st k = true := by
   unfold abS
   rw [decide_eq_true_eq, ← List.length_eq_zero_iff]; omega
  have hnx : ((upTo (frS s st r) s.2.length).take (i + 1)).filter (fun x => abS s st x.toNat) = ((upTo (frS s st r) s.2.length).take i).filter (fun x => abS s st x.toNat) ++ (if abS s st k = true then [(k : Int)] else []) := by
   rw [List.take_succ_eq_append_getElem hi, List.filter_append, ← getD_lt (d := 0) hi, hx]
   congr 1
   simp [List.filter_cons]
  obtain ⟨F, hF⟩ : ∃ F, ((upTo (frS s st r) s.2.length).take i).filter (fun x => abS s st x.toNat) = F := ⟨_, rfl⟩
  rw [hnx]
  rw [hF] at hfl ⊢
  simp (contextual := true) (maxSteps := 1000000) (disch := omega) only [↓Sd, ↓So, ↓Sk, ↓den, ↓denA, Sa, Sb, Sc, Se, O1.d, O2.d, O3.d, cmI, arI, envOf, putN, ↓reduceIte, Nat.reduceLT, Nat.reduceSub, Nat.reduceAdd, Int.reduceAdd, Int.reduceEq, Int.reduceLT, Int.reduceLE, arr_pos, arr_neg, ↓wpJoin, hx, C_spec_l2Use s st k h hst hk, erl]
  exact ⟨fun g => by rw [if_pos (hab.1 (by omega))], fun g => by rw [if_neg (fun h => g (by have := hab.2 h; omega)), List.append_nil]⟩
 ·rintro o rfl
  rw [List.take_length]
  simp (contextual := true) (maxSteps := 1000000) (disch := omega) only [↓Sd, ↓So, ↓Sk, ↓den, ↓denA, Sa, Sb, Sc, Se, O1.d, O2.d, O3.d, cmI, arI, envOf, putN, ↓reduceIte, Nat.reduceLT, Nat.reduceSub, Nat.reduceAdd, Int.reduceAdd, Int.reduceEq, Int.reduceLT, Int.reduceLE, arr_pos, arr_neg, ]
  exact upTo_filt2
theorem C_spec_l26Best (s : Sy) (st : List Int) (hs : FewSy s) (h : valid s) (hst : inR s.1 st) (Q : List AV → Prop) : mc.C f_spec_l26Best [⟨L V3, s.1⟩, ⟨L TR, s.2⟩, ⟨L I, st⟩] Q = Q [⟨L I, bsL s st⟩] := by
 refine Mc.Ends.c (mc.ends F_spec_l26Best ?_)
 have h8 := h.2.1
 simp (contextual := true) (maxSteps := 1000000) (disch := omega) only [↓Sd, ↓So, ↓Sk, ↓den, ↓denA, Sa, Sb, Sc, Se, O1.d, O2.d, O3.d, cmI, arI, envOf, putN, ↓reduceIte, Nat.reduceLT, Nat.reduceSub, Nat.reduceAdd, Int.reduceAdd, Int.reduceEq, Int.reduceLT, Int.reduceLE, arr_pos, arr_neg, tr_spec_l26Best]
 refine mc.lp_for (List Int) (fun i o => [⟨L I, st⟩, ⟨I, (i : Int)⟩, ⟨L V3, s.1⟩, ⟨L TR, s.2⟩, ⟨L I, o⟩]) (fun i o => o = fld s st (upTo (abS s st) i)) s.2.length 0 [] _ rfl (Nat.zero_le _) rfl ?_ ?_
 ·rintro i o hi rfl
  have erl : s.2.getD i ([], [], []) = rl s i := rfl
  have hab : ((useM s.1 (rl s i) st).length > 0) ↔ abS s st i = true := by
   unfold abS
   rw [decide_eq_true_eq, ← List.length_eq_zero_iff]; omega
  obtain ⟨F, hF⟩ : ∃ F, fld s st (upTo (abS s st) i) = F := ⟨_, rfl⟩
  rw [hF]
  simp (contextual := true) (maxSteps := 1000000) (disch := omega) only [↓Sd, ↓So, ↓Sk, ↓den, ↓denA, Sa, Sb, Sc, Se, O1.d, O2.d, O3.d, cmI, arI, envOf, putN, ↓reduceIte, Nat.reduceLT, Nat.reduceSub, Nat.reduceAdd, Int.reduceAdd, Int.reduceEq, Int.reduceLT, Int.reduceLE, arr_pos, arr_neg, ↓wpJoin, C_spec_l2Use s st i h hst hi, erl, C_spec_l26From s st i hs h hst hi, C_spec_l26Usable s st i h hst]
  refine ⟨fun g => ?_, fun g => ?_⟩
  ·have ha : abS s st i = true := hab.1 (by omega)
   rw [upTo_s (p := abS s st) ha, fld_snoc, hF, fldS, Int.toNat_natCast]
   refine ⟨fun g1 => by rw [if_pos (.inl (List.eq_nil_of_length_eq_zero (by omega)))], fun g1 => ⟨fun g2 => by rw [if_pos (.inr (by omega))], fun g2 => ?_⟩⟩
   rw [if_neg]
   rintro (h1 | h1)
   ·exact g1 (by rw [h1]; rfl)
   ·omega
  ·rw [upTo_n (p := abS s st) fun h => g (by have := hab.2 h; omega), hF]
 ·rintro o rfl
  simp (contextual := true) (maxSteps := 1000000) (disch := omega) only [↓Sd, ↓So, ↓Sk, ↓den, ↓denA, Sa, Sb, Sc, Se, O1.d, O2.d, O3.d, cmI, arI, envOf, putN, ↓reduceIte, Nat.reduceLT, Nat.reduceSub, Nat.reduceAdd, Int.reduceAdd, Int.reduceEq, Int.reduceLT, Int.reduceLE, arr_pos, arr_neg, ]
  rfl
end Go.Proofs.YthapopegchnhlabGreat
namespace Go.Proofs.YthapopegchnhlabGreat
open Go Go.Sm Go.Sm.Q
set_option linter.unusedSimpArgs false
set_option linter.unusedVariables false
theorem C_impl_stubborn_in (s : Sy) (st : List Int) (h : valid s) (hst : inR s.1 st) (Q : List AV → Prop) :
  mc.C f_impl_stubborn_in [⟨P (L (L B)) (L (L I)), (tab (fun k => tab (fun m => dB (Apr s k m)) s.2.length) s.2.length, tab (wkL s) s.2.length)⟩, ⟨L V3, s.1⟩, ⟨L TR, s.2⟩, ⟨L I, st⟩] Q = Q [⟨L I, bsL s st⟩, ⟨P (L (L B)) (L (L I)), (tab (fun k => tab (fun m => dB (Apr s k m)) s.2.length) s.2.length, tab (wkL s) s.2.length)⟩] := by
 refine Mc.Ends.c (mc.ends F_impl_stubborn_in ?_)
 have h8 := h.2.1
 have hul := @upTo_len (abS s st) s.2.length
 have hmk : tab (fun k => dB ((k : Int) ∈ upTo (abS s st) s.2.length)) s.2.length = tab (abS s st) s.2.length := tab_congr fun k hk => by rw [dB_upTo]; simp [hk]
 have hfrm := fun m (hm : m < s.2.length) => C_impl_stubborn_from (abS s st) (fun k m => dB (Apr s k m)) (wkL s) s.2.length m h8 hm (fun k _ => wkL_len h)
 have hres : ∀ m, (fun k => dB (Rc (eI' (abS s st) (fun k m => dB (Apr s k m)) (wkL s)) s.2.length m k)) = frS s st m := fun m => rfl
 simp only [hres] at hfrm
 obtain ⟨AA, hAA⟩ : ∃ AA, tab (fun k => tab (fun m => dB (Apr s k m)) s.2.length) s.2.length = AA := ⟨_, rfl⟩
 obtain ⟨WW, hWW⟩ : ∃ WW, tab (wkL s) s.2.length = WW := ⟨_, rfl⟩
 have hbl := @bsL_len s st
 rw [hAA, hWW] at hfrm ⊢
 simp (contextual := true) (maxSteps := 1000000) (disch := omega) only [↓Sd, ↓So, ↓Sk, ↓den, ↓denA, Sa, Sb, Sc, Se, O1.d, O2.d, O3.d, cmI, arI, envOf, putN, ↓reduceIte, Nat.reduceLT, Nat.reduceSub, Nat.reduceAdd, Int.reduceAdd, Int.reduceEq, Int.reduceLT, Int.reduceLE, arr_pos, arr_neg, tr_impl_stubborn_in, C_impl_usableIn s st h hst, usb_abS, C_impl_marks (upTo (abS s st) s.2.length) s.2.length (by omega) (by omega) (fun x hx => by obtain ⟨a, h1, rfl, _⟩ := upTo_mem.1 hx; omega), hmk]
 obtain ⟨n, hn⟩ : ∃ n, s.2.length = n := ⟨_, rfl⟩
 rw [hn] at h8 hul hfrm ⊢
 refine mc.lp_for (List Int) (fun i o => [⟨N I, o⟩, ⟨I, ((upTo (abS s st) n).length : Int)⟩, ⟨I, (i : Int)⟩, ⟨L (L B), AA⟩, ⟨L (L I), WW⟩, ⟨L B, tab (abS s st) n⟩, ⟨L I, upTo (abS s st) n⟩]) (fun i o => o = fld s st ((upTo (abS s st) n).take i)) (upTo (abS s st) n).length 0 [] _ rfl (Nat.zero_le _) rfl ?_ ?_
 ·rintro i o hi rfl
  obtain ⟨k, hk, hx, hka⟩ := upTo_mem.1 (getD_mem (d := 0) hi)
  have hnx : fld s st ((upTo (abS s st) n).take (i + 1)) = fldS s st (fld s st ((upTo (abS s st) n).take i)) (k : Int) := by
   rw [List.take_succ_eq_append_getElem hi, ← getD_lt (d := 0) hi, hx, fld_snoc]
  have hFl : (fld s st ((upTo (abS s st) n).take i)).length ≤ s.2.length := fld_len (Nat.zero_le _)
  obtain ⟨F, hF⟩ : ∃ F, fld s st ((upTo (abS s st) n).take i) = F := ⟨_, rfl⟩
  rw [hnx]
  rw [hF] at hFl ⊢
  simp (contextual := true) (maxSteps := 1000000) (disch := omega) only [↓Sd, ↓So, ↓Sk, ↓den, ↓denA, Sa, Sb, Sc, Se, O1.d, O2.d, O3.d, cmI, arI, envOf, putN, ↓reduceIte, Nat.reduceLT, Nat.reduceSub, Nat.reduceAdd, Int.reduceAdd, Int.reduceEq, Int.reduceLT, Int.reduceLE, arr_pos, arr_neg, ↓wpJoin, hx, hfrm k hk, tab_len]
  refine mc.lp_for Unit (fun j _ => [⟨N I, F⟩, ⟨I, ((upTo (abS s st) n).length : Int)⟩, ⟨I, (i : Int)⟩, ⟨I, (n : Int)⟩, ⟨I, (j : Int)⟩, ⟨L (L B), AA⟩, ⟨L (L I), WW⟩, ⟨L B, tab (abS s st) n⟩, ⟨L B, tab (fun m => if m < j then sbP s st k m else frS s st k m) n⟩, ⟨L I, upTo (abS s st) n⟩]) (fun _ _ => True) n 0 () _ (by simp) (Nat.zero_le _) trivial ?_ ?_
  ·rintro j - hj -
   simp (contextual := true) (maxSteps := 1000000) (disch := omega) only [↓Sd, ↓So, ↓Sk, ↓den, ↓denA, Sa, Sb, Sc, Se, O1.d, O2.d, O3.d, cmI, arI, envOf, putN, ↓reduceIte, Nat.reduceLT, Nat.reduceSub, Nat.reduceAdd, Int.reduceAdd, Int.reduceEq, Int.reduceLT, Int.reduceLE, arr_pos, arr_neg, ↓wpJoin, tab_len, tab_get hj, tab_set']
   rw [if_neg (Nat.lt_irrefl j)]
   refine ⟨fun g => tab_congr fun m hm => ?_, fun g => tab_congr fun m hm => ?_⟩
   ·by_cases e : m = j
    ·subst e; rw [if_pos rfl, if_pos (Nat.lt_succ_self _), sbP, g]; rfl
    ·rw [if_neg e]
     by_cases e2 : m < j
     ·rw [if_pos e2, if_pos (by omega)]
     ·rw [if_neg e2, if_neg (by omega)]
   ·by_cases e : m = j
    ·subst e
     have g' : frS s st k m = false := by simpa using g
     rw [if_pos rfl, if_pos (Nat.lt_succ_self _), sbP, g']; rfl
    ·rw [if_neg e]
     by_cases e2 : m < j
     ·rw [if_pos e2, if_pos (by omega)]
     ·rw [if_neg e2, if_neg (by omega)]
  ·rintro - -
   have e1 : upTo (fun m => if m < n then sbP s st k m else frS s st k m) n = sbL s st k := by rw [sbL, hn]; exact upTo_congr fun m hm => if_pos hm
   have hne := sbL_mem (st := st) (by rw [hn]; exact hk) hka
   have hne' : (sbL s st k).isEmpty = false := by simpa using hne
   simp (contextual := true) (maxSteps := 1000000) (disch := omega) only [↓Sd, ↓So, ↓Sk, ↓den, ↓denA, Sa, Sb, Sc, Se, O1.d, O2.d, O3.d, cmI, arI, envOf, putN, ↓reduceIte, Nat.reduceLT, Nat.reduceSub, Nat.reduceAdd, Int.reduceAdd, Int.reduceEq, Int.reduceLT, Int.reduceLE, arr_pos, arr_neg, C_impl_listOf_tab _ n (by omega : n ≤ 1048576), e1, hne']
   rw [fldS, Int.toNat_natCast]
   refine ⟨fun g => by rw [if_pos (.inl (by simpa using g))], fun g => ⟨fun g2 => by rw [if_pos (.inr (by omega))], fun g2 => ?_⟩⟩
   rw [if_neg]
   rintro (h1 | h1)
   ·exact g (by rw [h1]; rfl)
   ·omega
 ·rintro o rfl
  rw [List.take_length]
  have e1 : fld s st (upTo (abS s st) n) = bsL s st := by rw [bsL, hn]
  rw [e1]
  simp (contextual := true) (maxSteps := 1000000) (disch := omega) only [↓Sd, ↓So, ↓Sk, ↓den, ↓denA, Sa, Sb, Sc, Se, O1.d, O2.d, O3.d, cmI, arI, envOf, putN, ↓reduceIte, Nat.reduceLT, Nat.reduceSub, Nat.reduceAdd, Int.reduceAdd, Int.reduceEq, Int.reduceLT, Int.reduceLE, arr_pos, arr_neg, C_impl_clone_int (bsL s st) (by omega)]
theorem fld_mem {s : Sy} {st : List Int} : ∀ {l b : List Int}, (∀ x ∈ b, ∃ k : Nat, k < s.2.length ∧ x = k ∧ abS s st k = true) → ∀ x ∈ l.foldl (fldS s st) b, ∃ k : Nat, k < s.2.length ∧ x = k ∧ abS s st k = true
 | [], b, h => h
 | y :: l, b, h => fld_mem (l := l) fun x hx => by
  unfold fldS at hx
  split at hx
  ·obtain ⟨k, h1, h2, h3⟩ := upTo_mem.1 hx
   rw [sbP, Bool.and_eq_true] at h3
   exact ⟨k, h1, h2, h3.2⟩
  ·exact h x hx
theorem bsL_mem {s : Sy} {st : List Int} : ∀ x ∈ bsL s st, ∃ k : Nat, k < s.2.length ∧ x = k ∧ abS s st k = true := fld_mem fun x hx => by cases hx
noncomputable def rwN (s : Sy) (st : List Int) (x : Int) : Int := num s.1 (useM s.1 (rl s x.toNat) st)
noncomputable def rwR (s : Sy) (i : Nat) : List Int := (bsL s (stAt s.1 i)).map (rwN s (stAt s.1 i))
noncomputable def rwT (s : Sy) (i : Nat) : List Int := cptZ (srtZ (rwR s i))
noncomputable def rwS (s : Sy) (i : Nat) : List Int := upTo (fun k => dB ((k : Int) ∈ rwR s i)) 400
theorem rwR_in {s : Sy} (h : valid s) {i : Nat} (hi : inR s.1 (stAt s.1 i)) : ∀ x ∈ rwR s i, 0 ≤ x ∧ x < (szn s.1 : Int) := by
 intro x hx
 obtain ⟨y, h1, rfl⟩ := List.mem_map.1 hx
 obtain ⟨k, h2, rfl, h3⟩ := bsL_mem y h1
 have hz := szn_eq h
 have h4 : ¬ useM s.1 (rl s k) (stAt s.1 i) = [] := of_decide_eq_true h3
 have := num_bd h.2.2.1 (useM_in h4)
 rw [rwN, Int.toNat_natCast]
 omega
theorem rwR_len {s : Sy} {i : Nat} : (rwR s i).length ≤ s.2.length := by unfold rwR; rw [List.length_map]; exact bsL_len
theorem rwT_mem {s : Sy} {i : Nat} {x : Int} : x ∈ rwT s i ↔ x ∈ rwR s i := by rw [rwT, cptZ_mem, srtZ_mem]
theorem rwS_mem {s : Sy} (h : valid s) {i : Nat} (hi : inR s.1 (stAt s.1 i)) {x : Int} : x ∈ rwS s i ↔ x ∈ rwR s i := by
 have hz := szn_eq h
 rw [rwS, upTo_mem]
 constructor
 ·rintro ⟨k, _, rfl, h3⟩; exact dB_iff.1 h3
 ·intro h1
  have h2 := rwR_in h hi x h1
  have e : ((x.toNat : Nat) : Int) = x := by omega
  exact ⟨x.toNat, by omega, e.symm, dB_t (by rw [e]; exact h1)⟩
noncomputable def rdT (s : Sy) : List (List Int) := tab (rwT s) (szn s.1)
noncomputable def rdS (s : Sy) : List (List Int) := tab (rwS s) (szn s.1)
theorem rd_tbl {s : Sy} (h : valid s) {f : Nat → List Int} (hf : ∀ i, i < szn s.1 → ∀ x ∈ f i, 0 ≤ x ∧ x < (szn s.1 : Int)) (hl : ∀ i, i < szn s.1 → (f i).length ≤ 1048576) : Tbl (tab f (szn s.1)) (szn s.1) := by
 refine ⟨tab_len, fun r hr => ?_⟩
 simp only [tab, List.mem_map, List.mem_range] at hr
 obtain ⟨i, hi, rfl⟩ := hr
 exact ⟨hl i hi, hf i hi⟩
theorem rdT_tbl {s : Sy} (h : valid s) : Tbl (rdT s) (szn s.1) := rd_tbl h (fun i hi x hx => rwR_in h (stN_in h hi) x (rwT_mem.1 hx)) fun i hi => by
 have h1 := @cptZ_len (srtZ (rwR s i))
 rw [srtZ_len] at h1
 have h2 := @rwR_len s i
 have h3 := h.2.1
 unfold rwT
 omega
theorem rdS_tbl {s : Sy} (h : valid s) : Tbl (rdS s) (szn s.1) := rd_tbl h (fun i hi x hx => rwR_in h (stN_in h hi) x ((rwS_mem h (stN_in h hi)).1 hx)) fun i hi => by
 have h1 := @upTo_len (fun k => dB ((k : Int) ∈ rwR s i)) 400
 unfold rwS
 omega
theorem rd_rch {s : Sy} (h : valid s) {F : List Int} {k : Nat} : Rch (rdT s) F k ↔ Rch (rdS s) F k := by
 have key : ∀ a b : Nat, a < szn s.1 → ((b : Int) ∈ (rdT s).getD a [] ↔ (b : Int) ∈ (rdS s).getD a []) := fun a b ha => by
  rw [rdT, rdS, tab_get ha, tab_get ha, rwT_mem, rwS_mem h (stN_in h ha)]
 exact ⟨rch_to (rdT_tbl h) fun a b ha _ => (key a b ha).1, rch_to (rdS_tbl h) fun a b ha _ => (key a b ha).2⟩
noncomputable def rdL (s : Sy) : List Int := if valid s then upTo (fun k => dB (Rch (rdT s) [num s.1 (fst0 s.1)] k)) (szn s.1) else []
theorem rdL_len {s : Sy} : (rdL s).length ≤ 400 := by
 unfold rdL
 split
 ·rename_i h
  exact Nat.le_trans upTo_len (szn_eq h).2.2
 ·simp
theorem C_spec_l26Steps (s : Sy) (hs : FewSy s) (h : valid s) (Q : List AV → Prop) : mc.C f_spec_l26Steps [⟨L V3, s.1⟩, ⟨L TR, s.2⟩] Q = Q [⟨L (L I), rdS s⟩] := by
 refine Mc.Ends.c (mc.ends F_spec_l26Steps ?_)
 have hz := szn_eq h
 have h8 := h.2.1
 obtain ⟨N, hN⟩ : ∃ N : Nat, N = 400 := ⟨400, rfl⟩
 simp (contextual := true) (maxSteps := 1000000) (disch := omega) only [↓Sd, ↓So, ↓Sk, ↓den, ↓denA, Sa, Sb, Sc, Se, O1.d, O2.d, O3.d, cmI, arI, envOf, putN, ↓reduceIte, Nat.reduceLT, Nat.reduceSub, Nat.reduceAdd, Int.reduceAdd, Int.reduceEq, Int.reduceLT, Int.reduceLE, arr_pos, arr_neg, tr_spec_l26Steps]
 refine mc.lp_for (List (List Int)) (fun i o => [⟨I, (i : Int)⟩, ⟨L V3, s.1⟩, ⟨L TR, s.2⟩, ⟨L (L I), o⟩]) (fun i o => o = tab (rwS s) i) (szn s.1) 0 [] _ rfl (Nat.zero_le _) rfl ?_ ?_
 ·rintro i o hi rfl
  have hin := stN_in h hi
  have hbl := @bsL_len s (stAt s.1 i)
  have hmem := @bsL_mem s (stAt s.1 i)
  have hrl := @rwR_len s i
  have hri := rwR_in h hin
  simp (contextual := true) (maxSteps := 1000000) (disch := omega) only [↓Sd, ↓So, ↓Sk, ↓den, ↓denA, Sa, Sb, Sc, Se, O1.d, O2.d, O3.d, cmI, arI, envOf, putN, ↓reduceIte, Nat.reduceLT, Nat.reduceSub, Nat.reduceAdd, Int.reduceAdd, Int.reduceEq, Int.reduceLT, Int.reduceLE, arr_pos, arr_neg, C_spec_SizeOf s hs, if_pos h, ← hz.1, C_spec_l4State s i hs h (by omega), C_spec_l26Best s (stAt s.1 i) hs h hin]
  refine mc.lp_for (List Int) (fun j o => [⟨I, (i : Int)⟩, ⟨I, (j : Int)⟩, ⟨L V3, s.1⟩, ⟨L TR, s.2⟩, ⟨L (L I), tab (rwS s) i⟩, ⟨L I, stAt s.1 i⟩, ⟨L I, bsL s (stAt s.1 i)⟩, ⟨L I, o⟩]) (fun j o => o = ((bsL s (stAt s.1 i)).take j).map (rwN s (stAt s.1 i))) (bsL s (stAt s.1 i)).length 0 [] _ rfl (Nat.zero_le _) rfl ?_ ?_
  ·rintro j o hj rfl
   obtain ⟨k, hk, hx, hka⟩ := hmem _ (getD_mem (d := 0) hj)
   have erl : s.2.getD k ([], [], []) = rl s k := rfl
   have hu : ¬ useM s.1 (rl s k) (stAt s.1 i) = [] := of_decide_eq_true hka
   have hnx : ((bsL s (stAt s.1 i)).take (j + 1)).map (rwN s (stAt s.1 i)) = ((bsL s (stAt s.1 i)).take j).map (rwN s (stAt s.1 i)) ++ [num s.1 (useM s.1 (rl s k) (stAt s.1 i))] := by
    rw [List.take_succ_eq_append_getElem hj, List.map_append, ← getD_lt (d := 0) hj, hx]
    simp [rwN]
   have hml : (((bsL s (stAt s.1 i)).take j).map (rwN s (stAt s.1 i))).length ≤ 8 := by rw [List.length_map, List.length_take]; omega
   rw [hnx]
   simp (contextual := true) (maxSteps := 1000000) (disch := omega) only [↓Sd, ↓So, ↓Sk, ↓den, ↓denA, Sa, Sb, Sc, Se, O1.d, O2.d, O3.d, cmI, arI, envOf, putN, ↓reduceIte, Nat.reduceLT, Nat.reduceSub, Nat.reduceAdd, Int.reduceAdd, Int.reduceEq, Int.reduceLT, Int.reduceLE, arr_pos, arr_neg, hx, C_spec_l2Use s (stAt s.1 i) k h hin hk, erl, C_spec_l4Number s (useM s.1 (rl s k) (stAt s.1 i)) h.1.2 h.2.2.1 (useM_in hu)]
  ·rintro o rfl
   rw [List.take_length]
   have e : (bsL s (stAt s.1 i)).map (rwN s (stAt s.1 i)) = rwR s i := rfl
   rw [e]
   simp (contextual := true) (maxSteps := 1000000) (disch := omega) only [↓Sd, ↓So, ↓Sk, ↓den, ↓denA, Sa, Sb, Sc, Se, O1.d, O2.d, O3.d, cmI, arI, envOf, putN, ↓reduceIte, Nat.reduceLT, Nat.reduceSub, Nat.reduceAdd, Int.reduceAdd, Int.reduceEq, Int.reduceLT, Int.reduceLE, arr_pos, arr_neg, C_spec_l17Ordered (rwR s i) N hN (by omega) (fun x hx => by have := hri x hx; omega), tab_len]
   rw [hN]
   exact tab_next (f := rwS s)
 ·rintro o rfl
  simp (contextual := true) (maxSteps := 1000000) (disch := omega) only [↓Sd, ↓So, ↓Sk, ↓den, ↓denA, Sa, Sb, Sc, Se, O1.d, O2.d, O3.d, cmI, arI, envOf, putN, ↓reduceIte, Nat.reduceLT, Nat.reduceSub, Nat.reduceAdd, Int.reduceAdd, Int.reduceEq, Int.reduceLT, Int.reduceLE, arr_pos, arr_neg, C_spec_SizeOf s hs, if_pos h, ← hz.1]
  rfl
theorem C_impl_reducedNexts (s : Sy) (h : valid s) (Q : List AV → Prop) : mc.C f_impl_reducedNexts [⟨L V3, s.1⟩, ⟨L TR, s.2⟩] Q = Q [⟨L (L I), rdT s⟩] := by
 refine Mc.Ends.c (mc.ends F_impl_reducedNexts ?_)
 have hz := szn_eq h
 have h8 := h.2.1
 have hr0 : List.replicate (szn s.1) ([] : List Int) = tab (fun k => if k < 0 then rwT s k else []) (szn s.1) := by rw [rep_tab]; exact tab_congr fun k _ => by rw [if_neg (Nat.not_lt_zero k)]
 have hin2 := fun (st : List Int) (hst : inR s.1 st) => C_impl_stubborn_in s st h hst
 obtain ⟨AA, hAA⟩ : ∃ AA, tab (fun k => tab (fun m => dB (Apr s k m)) s.2.length) s.2.length = AA := ⟨_, rfl⟩
 obtain ⟨WW, hWW⟩ : ∃ WW, tab (wkL s) s.2.length = WW := ⟨_, rfl⟩
 rw [hAA, hWW] at hin2
 obtain ⟨n, hn⟩ : ∃ n, szn s.1 = n := ⟨_, rfl⟩
 rw [hn] at hz hr0
 simp (contextual := true) (maxSteps := 1000000) (disch := omega) only [↓Sd, ↓So, ↓Sk, ↓den, ↓denA, Sa, Sb, Sc, Se, O1.d, O2.d, O3.d, cmI, arI, envOf, putN, ↓reduceIte, Nat.reduceLT, Nat.reduceSub, Nat.reduceAdd, Int.reduceAdd, Int.reduceEq, Int.reduceLT, Int.reduceLE, arr_pos, arr_neg, tr_impl_reducedNexts, C_impl_stubbornOf s h, hAA, hWW, C_impl_size s.1 h.1.2 h.2.2.1, ← hz.1, List.length_replicate, hr0]
 refine mc.lp_for (List (List Int)) (fun i o => [⟨I, (n : Int)⟩, ⟨I, (i : Int)⟩, ⟨L V3, s.1⟩, ⟨L TR, s.2⟩, ⟨L (L B), AA⟩, ⟨L (L I), WW⟩, ⟨L (L I), o⟩]) (fun i o => o = tab (fun k => if k < i then rwT s k else []) n) n 0 (tab (fun k => if k < 0 then rwT s k else []) n) _ (by rw [tab_len]; rfl) (Nat.zero_le _) rfl ?_ ?_
 ·rintro i o hi rfl
  have hin := stN_in h (n := i) (by omega)
  have hbl := @bsL_len s (stAt s.1 i)
  have hmem := @bsL_mem s (stAt s.1 i)
  have hrl := @rwR_len s i
  simp (contextual := true) (maxSteps := 1000000) (disch := omega) only [↓Sd, ↓So, ↓Sk, ↓den, ↓denA, Sa, Sb, Sc, Se, O1.d, O2.d, O3.d, cmI, arI, envOf, putN, ↓reduceIte, Nat.reduceLT, Nat.reduceSub, Nat.reduceAdd, Int.reduceAdd, Int.reduceEq, Int.reduceLT, Int.reduceLE, arr_pos, arr_neg, C_impl_stateAt s i h.1.2 h.2.2.1 (by omega), hin2 (stAt s.1 i) hin]
  refine mc.lp_for Unit (fun j _ => [⟨I, (i : Int)⟩, ⟨I, (n : Int)⟩, ⟨I, (i : Int)⟩, ⟨I, ((bsL s (stAt s.1 i)).length : Int)⟩, ⟨I, (j : Int)⟩, ⟨L V3, s.1⟩, ⟨L TR, s.2⟩, ⟨L (L B), AA⟩, ⟨L (L I), WW⟩, ⟨L (L I), tab (fun k => if k = i then ((bsL s (stAt s.1 i)).take j).map (rwN s (stAt s.1 i)) else if k < i then rwT s k else []) n⟩, ⟨L I, stAt s.1 i⟩, ⟨L I, bsL s (stAt s.1 i)⟩]) (fun _ _ => True) (bsL s (stAt s.1 i)).length 0 () _ ?_ (Nat.zero_le _) trivial ?_ ?_
  ·have : tab (fun k => if k < i then rwT s k else []) n = tab (fun k => if k = i then ((bsL s (stAt s.1 i)).take 0).map (rwN s (stAt s.1 i)) else if k < i then rwT s k else []) n := tab_congr fun k _ => by
    by_cases e : k = i
    ·rw [if_pos e, if_neg (by omega)]; rfl
    ·rw [if_neg e]
   rw [this]; rfl
  ·rintro j - hj -
   obtain ⟨k, hk, hx, hka⟩ := hmem _ (getD_mem (d := 0) hj)
   have erl : s.2.getD k ([], [], []) = rl s k := rfl
   have hu : ¬ useM s.1 (rl s k) (stAt s.1 i) = [] := of_decide_eq_true hka
   have hnx : ((bsL s (stAt s.1 i)).take (j + 1)).map (rwN s (stAt s.1 i)) = ((bsL s (stAt s.1 i)).take j).map (rwN s (stAt s.1 i)) ++ [num s.1 (useM s.1 (rl s k) (stAt s.1 i))] := by
    rw [List.take_succ_eq_append_getElem hj, List.map_append, ← getD_lt (d := 0) hj, hx]
    simp [rwN]
   have hml : (((bsL s (stAt s.1 i)).take j).map (rwN s (stAt s.1 i))).length ≤ 8 := by rw [List.length_map, List.length_take]; omega
   simp (contextual := true) (maxSteps := 1000000) (disch := omega) only [↓Sd, ↓So, ↓Sk, ↓den, ↓denA, Sa, Sb, Sc, Se, O1.d, O2.d, O3.d, cmI, arI, envOf, putN, ↓reduceIte, Nat.reduceLT, Nat.reduceSub, Nat.reduceAdd, Int.reduceAdd, Int.reduceEq, Int.reduceLT, Int.reduceLE, arr_pos, arr_neg, hx, C_impl_use s (stAt s.1 i) k h hin hk, erl, tab_len, tab_get hi, tab_set', C_impl_number s (useM s.1 (rl s k) (stAt s.1 i)) h.1.2 h.2.2.1 (useM_in hu)]
   rw [hnx]
  ·rintro - -
   have e0 : ∀ l, hndZ 0 l = srtZ l := fun _ => rfl
   have e1 : ∀ l, hndZ 1 l = cptZ l := fun _ => rfl
   have e : (bsL s (stAt s.1 i)).map (rwN s (stAt s.1 i)) = rwR s i := rfl
   rw [List.take_length, e]
   simp (contextual := true) (maxSteps := 1000000) (disch := omega) only [↓Sd, ↓So, ↓Sk, ↓den, ↓denA, Sa, Sb, Sc, Se, O1.d, O2.d, O3.d, cmI, arI, envOf, putN, ↓reduceIte, Nat.reduceLT, Nat.reduceSub, Nat.reduceAdd, Int.reduceAdd, Int.reduceEq, Int.reduceLT, Int.reduceLE, arr_pos, arr_neg, tab_len, tab_get hi, tab_set', e0, e1, srtZ_len]
   refine tab_congr fun k _ => ?_
   by_cases e : k = i
   ·rw [if_pos e, if_pos (by omega), e]; rfl
   ·rw [if_neg e]
    by_cases e2 : k < i
    ·rw [if_pos e2, if_pos (by omega)]
    ·rw [if_neg e2, if_neg (by omega)]
 ·rintro o rfl
  simp (contextual := true) (maxSteps := 1000000) (disch := omega) only [↓Sd, ↓So, ↓Sk, ↓den, ↓denA, Sa, Sb, Sc, Se, O1.d, O2.d, O3.d, cmI, arI, envOf, putN, ↓reduceIte, Nat.reduceLT, Nat.reduceSub, Nat.reduceAdd, Int.reduceAdd, Int.reduceEq, Int.reduceLT, Int.reduceLE, arr_pos, arr_neg, ]
  rw [rdT, hn]
  exact tab_congr fun k hk => if_pos hk
theorem C_spec_ReducedReach (s : Sy) (hs : FewSy s) (Q : List AV → Prop) : mc.C f_spec_ReducedReach [⟨L V3, s.1⟩, ⟨L TR, s.2⟩] Q = Q [⟨L I, rdL s⟩] := by
 refine Mc.Ends.c (mc.ends F_spec_ReducedReach ?_)
 by_cases hv : valid s
 ·have hz := szn_eq hv
  have hfl := first_lt hv
  have hbd := num_bd hv.2.2.1 (fst0_in hv.2.2.1)
  have e : rdL s = upTo (fun k => decide (dst (rdS s) [num s.1 (fst0 s.1)] k ≥ 0)) (szn s.1) := by
   rw [rdL, if_pos hv]
   refine upTo_congr fun k _ => ?_
   rw [← dB_eq]
   exact dB_congr ((rd_rch hv).trans dst_rch.symm)
  rw [e]
  simp (contextual := true) (maxSteps := 1000000) (disch := omega) only [↓Sd, ↓So, ↓Sk, ↓den, ↓denA, Sa, Sb, Sc, Se, O1.d, O2.d, O3.d, cmI, arI, envOf, putN, ↓reduceIte, Nat.reduceLT, Nat.reduceSub, Nat.reduceAdd, Int.reduceAdd, Int.reduceEq, Int.reduceLT, Int.reduceLE, arr_pos, arr_neg, tr_spec_ReducedReach, C_spec_SystemValid s hs, decide_eq_true hv, C_spec_l26Steps s hs hv, C_spec_l5First s hs hv, C_spec_l5Steps (rdS s) _ [num s.1 (fst0 s.1)] (szn s.1) (by omega) (rdS_tbl hv) (fun x hx => by simp only [List.mem_singleton] at hx; omega) (fun k _ => dB_iff), C_spec_l5Told _ (szn s.1) (by omega : szn s.1 ≤ 1048576), C_spec_l4List_tab _ (szn s.1) (by omega : szn s.1 ≤ 1048576)]
 ·simp (contextual := true) (maxSteps := 1000000) (disch := omega) only [↓Sd, ↓So, ↓Sk, ↓den, ↓denA, Sa, Sb, Sc, Se, O1.d, O2.d, O3.d, cmI, arI, envOf, putN, ↓reduceIte, Nat.reduceLT, Nat.reduceSub, Nat.reduceAdd, Int.reduceAdd, Int.reduceEq, Int.reduceLT, Int.reduceLE, arr_pos, arr_neg, tr_spec_ReducedReach, C_spec_SystemValid s hs, decide_eq_false hv]
  rw [rdL, if_neg hv]
theorem C_impl_ReducedReach (s : Sy) (hs : FewSy s) (Q : List AV → Prop) : mc.C f_impl_ReducedReach [⟨L V3, s.1⟩, ⟨L TR, s.2⟩] Q = Q [⟨L I, rdL s⟩] := by
 refine Mc.Ends.c (mc.ends F_impl_ReducedReach ?_)
 by_cases hv : valid s
 ·have hz := szn_eq hv
  have hfi := fst0_in hv.2.2.1
  have hbd := num_bd hv.2.2.1 hfi
  simp (contextual := true) (maxSteps := 1000000) (disch := omega) only [↓Sd, ↓So, ↓Sk, ↓den, ↓denA, Sa, Sb, Sc, Se, O1.d, O2.d, O3.d, cmI, arI, envOf, putN, ↓reduceIte, Nat.reduceLT, Nat.reduceSub, Nat.reduceAdd, Int.reduceAdd, Int.reduceEq, Int.reduceLT, Int.reduceLE, arr_pos, arr_neg, tr_impl_ReducedReach, C_impl_SystemValid s hs, decide_eq_true hv, C_impl_reducedNexts s hv, C_impl_first s hv.1.2, C_impl_number s _ hv.1.2 hv.2.2.1 hfi, C_impl_reach_a (rdT s) [num s.1 (fst0 s.1)] (szn s.1) (by omega) (rdT_tbl hv) (fun x hx => by simp only [List.mem_singleton] at hx; omega) (by simp), C_impl_listOf_tab _ (szn s.1) (by omega : szn s.1 ≤ 1048576)]
  rw [rdL, if_pos hv]
 ·simp (contextual := true) (maxSteps := 1000000) (disch := omega) only [↓Sd, ↓So, ↓Sk, ↓den, ↓denA, Sa, Sb, Sc, Se, O1.d, O2.d, O3.d, cmI, arI, envOf, putN, ↓reduceIte, Nat.reduceLT, Nat.reduceSub, Nat.reduceAdd, Int.reduceAdd, Int.reduceEq, Int.reduceLT, Int.reduceLE, arr_pos, arr_neg, tr_impl_ReducedReach, C_impl_SystemValid s hs, decide_eq_false hv]
  rw [rdL, if_neg hv]
theorem law_FnExactReducedReach (s : Sy) (hs : LtSy s) : mc.C f_laws_FnExactReducedReach [⟨L V3, s.1⟩, ⟨L TR, s.2⟩] (· = [⟨B, true⟩]) := by
 refine mc.c_of F_laws_FnExactReducedReach ?_
 simp (contextual := true) (maxSteps := 1000000) (disch := omega) only [↓Sd, ↓So, ↓Sk, ↓den, ↓denA, Sa, Sb, Sc, Se, O1.d, O2.d, O3.d, cmI, arI, envOf, putN, ↓reduceIte, Nat.reduceLT, Nat.reduceSub, Nat.reduceAdd, Int.reduceAdd, Int.reduceEq, Int.reduceLT, Int.reduceLE, arr_pos, arr_neg, tr_laws_FnExactReducedReach]
 refine sz_System s _ (by omega) hs fun j h2 h3 => ?_
 simp (contextual := true) (maxSteps := 1000000) (disch := omega) only [↓Sd, ↓So, ↓Sk, ↓den, ↓denA, Sa, Sb, Sc, Se, O1.d, O2.d, O3.d, cmI, arI, envOf, putN, ↓reduceIte, Nat.reduceLT, Nat.reduceSub, Nat.reduceAdd, Int.reduceAdd, Int.reduceEq, Int.reduceLT, Int.reduceLE, arr_pos, arr_neg, ]
 intro h4
 have hs := h3 (by omega)
 have hr := @rdL_len s
 simp (contextual := true) (maxSteps := 1000000) (disch := omega) only [↓Sd, ↓So, ↓Sk, ↓den, ↓denA, Sa, Sb, Sc, Se, O1.d, O2.d, O3.d, cmI, arI, envOf, putN, ↓reduceIte, Nat.reduceLT, Nat.reduceSub, Nat.reduceAdd, Int.reduceAdd, Int.reduceEq, Int.reduceLT, Int.reduceLE, arr_pos, arr_neg, to_System s hs, C_spec_ReducedReach s hs, C_impl_ReducedReach s hs, eq_IntS (rdL s) (few_i (by omega)), eq_System s hs]
 refine mk_System s 1 (by omega) hs fun k' v r hk' => ?_
 simp (contextual := true) (maxSteps := 1000000) (disch := omega) only [↓Sd, ↓So, ↓Sk, ↓den, ↓denA, Sa, Sb, Sc, Se, O1.d, O2.d, O3.d, cmI, arI, envOf, putN, ↓reduceIte, Nat.reduceLT, Nat.reduceSub, Nat.reduceAdd, Int.reduceAdd, Int.reduceEq, Int.reduceLT, Int.reduceLE, arr_pos, arr_neg, eq_IntS (rdL s) (few_i (by omega)), mk_IntS (rdL s) 1 (by omega) (by omega), held_IntS (rdL s).length 1 (by omega) (by omega), to_System s hs, C_impl_ReducedReach s hs]
end Go.Proofs.YthapopegchnhlabGreat
