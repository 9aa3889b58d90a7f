/- What the trees come to: plain mathematics; no condition. -/
import Derived.Test.YtilmaoicaejbdaaGreatSmMath0
namespace Go.Proofs.YtilmaoicaejbdaaGreat
open Go Go.Sm Go.Sm.Q
set_option linter.unusedSimpArgs false
set_option linter.unusedVariables false
theorem C_math_bits_Mul1 (n : Nat) (h : n ≤ 1048576) (Q : List AV → Prop) : mc.C f_math_bits_Mul [⟨.int .u64, (1 : Int)⟩, ⟨.int .u64, (n : Int)⟩] Q = Q [⟨.int .u64, (0 : Int)⟩, ⟨.int .u64, (n : Int)⟩] := by
 have e1 : mc.C f_math_bits_Mul64 [⟨.int .u64, (1 : Int)⟩, ⟨.int .u64, (n : Int)⟩] = fun Q => Q [⟨.int .u64, (0 : Int)⟩, ⟨.int .u64, (n : Int)⟩] := by
  funext Q
  refine Mc.Ends.c (mc.ends F_math_bits_Mul64 ?_)
  have s1 : shI false .u64 1 32 = 0 := sh64 (n := 1) (by omega)
  have s0 : shI false .u64 0 32 = 0 := sh64 (n := 0) (by omega)
  have sn := sh64 (n := n) (by omega)
  have a1 : IntKind.u64.wrap ((BitVec.ofInt IntKind.u64.bits 1 &&& BitVec.ofInt IntKind.u64.bits 4294967295).toNat : Int) = 1 := and64 (n := 1) (by omega)
  have a0 : IntKind.u64.wrap ((BitVec.ofInt IntKind.u64.bits 0 &&& BitVec.ofInt IntKind.u64.bits 4294967295).toNat : Int) = 0 := and64 (n := 0) (by omega)
  have an := and64 (n := n) (by omega)
  have w := wrap_u64 (n := n) (by omega)
  have w0 : IntKind.u64.wrap 0 = 0 := by decide
  simp (contextual := true) (maxSteps := 1000000) (disch := omega) only [↓Sd, ↓So, ↓Sk, ↓den, ↓denA, Sa, Sb, Sc, Se, O1.d, O2.d, O3.d, cmI, arI, envOf, putN, ↓reduceIte, Nat.reduceLT, Nat.reduceSub, Nat.reduceAdd, Int.reduceAdd, Int.reduceEq, Int.reduceLT, Int.reduceLE, arr_pos, arr_neg, tr_math_bits_Mul64, s1, s0, sn, a1, an, a0, w, w0, Int.zero_mul, Int.mul_zero, Int.one_mul, Int.add_zero, Int.zero_add]
 refine Mc.Ends.c (mc.ends F_math_bits_Mul ?_)
 simp (contextual := true) (maxSteps := 1000000) (disch := omega) only [↓Sd, ↓So, ↓Sk, ↓den, ↓denA, Sa, Sb, Sc, Se, O1.d, O2.d, O3.d, cmI, arI, envOf, putN, ↓reduceIte, Nat.reduceLT, Nat.reduceSub, Nat.reduceAdd, Int.reduceAdd, Int.reduceEq, Int.reduceLT, Int.reduceLE, arr_pos, arr_neg, tr_math_bits_Mul, e1]
def reps (k n : Nat) (v : Int) : List Int := List.replicate k v ++ List.replicate (n - k) 0
theorem reps_len {k n : Nat} {v : Int} (h : k ≤ n) : (reps k n v).length = n := by simp [reps]; omega
theorem reps_over0 {n : Nat} {v : Int} : overL (List.replicate n (0 : Int)) [v] = reps (min 1 n) n v := by
 cases n with
 | zero => simp [overL, reps]
 | succ n =>
  have : min 1 (n + 1) = 1 := by omega
  rw [this]
  simp [overL, reps, List.replicate_succ]
theorem reps_next {k n : Nat} {v : Int} (h : k ≤ n) : (reps k n v).take k ++ overL (((reps k n v).take n).drop k) (((reps k n v).take k).drop 0) ++ (reps k n v).drop n = reps (k + min k (n - k)) n v := by
 have e1 : (reps k n v).take k = List.replicate k v := by simp [reps]
 have e2 : (reps k n v).take n = reps k n v := List.take_of_length_le (by rw [reps_len h]; omega)
 have e3 : (reps k n v).drop n = [] := List.drop_eq_nil_of_le (by rw [reps_len h]; omega)
 have e4 : (reps k n v).drop k = List.replicate (n - k) 0 := by simp [reps]
 rw [e1, e2, e3, e4, List.drop_zero, List.append_nil]
 unfold overL reps
 rw [List.length_replicate, List.length_replicate, List.take_replicate, List.drop_replicate, ← List.append_assoc, List.replicate_append_replicate]
 congr 2
 ·omega
 ·omega
theorem C_slices_Repeat (v : Int) (n : Nat) (h : n ≤ 1048576) (Q : List AV → Prop) : mc.C f_slices_Repeat_Sint_int [⟨L I, [v]⟩, ⟨I, (n : Int)⟩] Q = Q [⟨L I, List.replicate n v⟩] := by
 refine Mc.Ends.c (mc.ends F_slices_Repeat_Sint_int ?_)
 have w1 : IntKind.u64.wrap 1 = 1 := by decide
 have w := wrap_u64 (n := n) (by omega)
 simp (contextual := true) (maxSteps := 1000000) (disch := omega) only [↓Sd, ↓So, ↓Sk, ↓den, ↓denA, Sa, Sb, Sc, Se, O1.d, O2.d, O3.d, cmI, arI, envOf, putN, ↓reduceIte, Nat.reduceLT, Nat.reduceSub, Nat.reduceAdd, Int.reduceAdd, Int.reduceEq, Int.reduceLT, Int.reduceLE, arr_pos, arr_neg, tr_slices_Repeat_Sint_int, w1, w, C_math_bits_Mul1 n h, reps_over0, List.length_replicate]
 refine mc.lp_inv (fun j us => ∃ k : Nat, us = [⟨I, (k : Int)⟩, ⟨L I, reps k n v⟩] ∧ k ≤ n ∧ (n = 0 ∨ 1 ≤ k) ∧ j = n - k) (n - min 1 n) _ ⟨min 1 n, ?_, Nat.min_le_right .., by omega, rfl⟩ ?_
 ·rw [show (if (n : Int) < 1 then (n : Int) else 1) = ((min 1 n : Nat) : Int) by omega]
 rintro j us ⟨k, rfl, i1, i2, rfl⟩
 have hl := reps_len (v := v) i1
 have l1 : (List.drop k (List.take n (reps k n v))).length = n - k := by rw [List.length_drop, List.length_take, hl]; omega
 have l2 : (List.drop 0 (List.take k (reps k n v))).length = k := by rw [List.length_drop, List.length_take, hl]; omega
 simp (contextual := true) (maxSteps := 1000000) (disch := omega) only [↓Sd, ↓So, ↓Sk, ↓den, ↓denA, Sa, Sb, Sc, Se, O1.d, O2.d, O3.d, cmI, arI, envOf, putN, ↓reduceIte, Nat.reduceLT, Nat.reduceSub, Nat.reduceAdd, Int.reduceAdd, Int.reduceEq, Int.reduceLT, Int.reduceLE, arr_pos, arr_neg, ↓wpJoin, hl, l1, l2, reps_next i1]
 refine ⟨fun g => ?_, fun g => ?_⟩
 ·have hkn : k < n := Int.ofNat_lt.1 g
  refine ⟨_, ?_, k + min k (n - k), ⟨?_, rfl⟩, by omega, by omega, rfl⟩
  ·omega
  rw [show (if ((n - k : Nat) : Int) < (k : Int) then ((n - k : Nat) : Int) else (k : Int)) = ((min k (n - k) : Nat) : Int) by omega]
  rw [wrap_id (by omega) (by omega)]
  exact (Int.natCast_add _ _).symm
 ·have hkn : ¬ k < n := fun hh => g (Int.ofNat_lt.2 hh)
  have : k = n := by omega
  subst this
  simp [reps]
def Lay (T : List (List Int)) (F : List Int) : Nat → Nat → Prop
 | 0, k => (k : Int) ∈ F
 | d + 1, k => Lay T F d k ∨ ∃ a, Lay T F d a ∧ (k : Int) ∈ T.getD a []
theorem least {P : Nat → Prop} (h : ∃ d, P d) : ∃ d, P d ∧ ∀ e, e < d → ¬ P e := by
 obtain ⟨d, hd⟩ := h
 induction d using Nat.strongRecOn with
 | ind d ih =>
  by_cases g : ∃ e, e < d ∧ P e
  ·obtain ⟨e, h1, h2⟩ := g; exact ih e h1 h2
  ·exact ⟨d, hd, fun e he hp => g ⟨e, he, hp⟩⟩
open Classical in
noncomputable def dst (T : List (List Int)) (F : List Int) (k : Nat) : Int := if h : ∃ d, Lay T F d k then ((Classical.choose (least h) : Nat) : Int) else -1
theorem Lay.up {T : List (List Int)} {F : List Int} {d e k : Nat} (h : Lay T F d k) (he : d ≤ e) : Lay T F e k := by
 induction e with
 | zero => have : d = 0 := by omega
           subst this; exact h
 | succ e ih =>
  by_cases g : d ≤ e
  ·exact .inl (ih g)
  ·have : d = e + 1 := by omega
   subst this; exact h
theorem Lay.rch {T : List (List Int)} {F : List Int} : ∀ {d k : Nat}, Lay T F d k → Rch T F k
 | 0, k, h => .base h
 | d + 1, k, h => h.elim Lay.rch fun ⟨a, h1, h2⟩ => .step (Lay.rch h1) h2
theorem rch_lay {T : List (List Int)} {F : List Int} {k : Nat} (h : Rch T F k) : ∃ d, Lay T F d k := by
 induction h with
 | base h => exact ⟨0, h⟩
 | step _ h ih => obtain ⟨d, hd⟩ := ih; exact ⟨d + 1, .inr ⟨_, hd, h⟩⟩
structure IsDst (T : List (List Int)) (F : List Int) (n : Nat) (f : Nat → Int) : Prop where
 ge : ∀ k, k < n → -1 ≤ f k
 zero : ∀ k, k < n → (f k = 0 ↔ (k : Int) ∈ F)
 pre : ∀ k, k < n → 0 < f k → ∃ a, a < n ∧ f a + 1 = f k ∧ (k : Int) ∈ T.getD a []
 nxt : ∀ a, a < n → 0 ≤ f a → ∀ k : Nat, (k : Int) ∈ T.getD a [] → 0 ≤ f k ∧ f k ≤ f a + 1
theorem IsDst.eq {T : List (List Int)} {F : List Int} {n : Nat} {f : Nat → Int} (ht : Tbl T n) (hF : ∀ x ∈ F, 0 ≤ x ∧ x < n) (h : IsDst T F n f) : ∀ k, k < n → f k = dst T F k := by
 have a1 : ∀ d k, k < n → f k = (d : Nat) → Lay T F d k := by
  intro d
  induction d with
  | zero => intro k hk h1; exact (h.zero k hk).1 h1
  | succ d ih =>
   intro k hk h1
   obtain ⟨a, b1, b2, b3⟩ := h.pre k hk (by omega)
   exact .inr ⟨a, ih a b1 (by omega), b3⟩
 have a2 : ∀ d k, Lay T F d k → k < n ∧ 0 ≤ f k ∧ f k ≤ (d : Nat) := by
  intro d
  induction d with
  | zero => intro k h1; have := hF _ h1; have hk : k < n := by omega
            have := (h.zero k hk).2 h1; exact ⟨hk, by omega, by omega⟩
  | succ d ih =>
   intro k h1
   rcases h1 with h1 | ⟨a, h1, h2⟩
   ·have := ih k h1; exact ⟨this.1, this.2.1, by omega⟩
   ·obtain ⟨b1, b2, b3⟩ := ih a h1
    have := ht.row _ h2
    have := h.nxt a b1 b2 k h2
    exact ⟨by omega, this.1, by omega⟩
 intro k hk
 unfold dst
 by_cases g : ∃ d, Lay T F d k
 ·rw [dif_pos g]
  obtain ⟨b1, b2⟩ := Classical.choose_spec (least g)
  generalize Classical.choose (least g) = d at b1 b2
  obtain ⟨-, c1, c2⟩ := a2 d k b1
  have c3 := a1 (f k).toNat k hk (by omega)
  have : ¬ (f k).toNat < d := fun hh => b2 _ hh c3
  omega
 ·rw [dif_neg g]
  have := h.ge k hk
  by_cases g2 : 0 ≤ f k
  ·exact absurd ⟨_, a1 (f k).toNat k hk (by omega)⟩ g
  ·omega
theorem dst_rch {T : List (List Int)} {F : List Int} {k : Nat} : 0 ≤ dst T F k ↔ Rch T F k := by
 unfold dst
 constructor
 ·intro h
  by_cases g : ∃ d, Lay T F d k
  ·obtain ⟨d, hd⟩ := g; exact hd.rch
  ·rw [dif_neg g] at h; omega
 ·intro h
  rw [dif_pos (rch_lay h)]; omega
theorem tab_one {n m : Nat} (hm : m < n) : (List.replicate n (-1 : Int)).set m 0 = tab (fun k => if k = m then 0 else -1) n := by
 rw [rep_tab, tab_set']
structure Bfs (T : List (List Int)) (m n : Nat) (f : Nat → Int) (q : List Nat) (ex : Nat → Prop) : Prop where
 ge : ∀ k, k < n → -1 ≤ f k
 zero : ∀ k, k < n → (f k = 0 ↔ k = m)
 pre : ∀ k, k < n → 0 < f k → ∃ a, a < n ∧ f a + 1 = f k ∧ (k : Int) ∈ T.getD a []
 inq : ∀ x ∈ q, x < n ∧ 0 ≤ f x
 sorted : q.Pairwise fun a b => f a ≤ f b
 closed : ∀ a, a < n → 0 ≤ f a → a ∉ q → ¬ ex a → ∀ k : Nat, (k : Int) ∈ T.getD a [] → 0 ≤ f k ∧ f k ≤ f a + 1
 top : ∀ k, k < n → f k + cntF (fun k => decide (0 ≤ f k)) n ≤ n
theorem cntF_congr {p q : Nat → Bool} {n : Nat} (h : ∀ k, k < n → p k = q k) : cntF p n = cntF q n := by
 unfold cntF
 rw [upTo_congr fun k hk => by rw [h k hk]]
theorem Bfs.visit {T : List (List Int)} {m n x y : Nat} {f : Nat → Int} {q : List Nat} (h : Bfs T m n f q (· = x)) (hx : x < n) (hfx : 0 ≤ f x) (hy : y < n) (hfy : f y < 0) (hm : m < n) (hT : (y : Int) ∈ T.getD x []) (hb : ∀ k, k < n → f k ≤ f x + 1) :
  Bfs T m n (fun k => if k = y then f x + 1 else f k) (q ++ [y]) (· = x) ∧ cntF (fun k => decide (0 ≤ (if k = y then f x + 1 else f k))) n + 1 = cntF (fun k => decide (0 ≤ f k)) n := by
 have hxy : ¬ x = y := by rintro rfl; omega
 have hc : cntF (fun k => decide (0 ≤ (if k = y then f x + 1 else f k))) n + 1 = cntF (fun k => decide (0 ≤ f k)) n := by
  have := cntF_set (p := fun k => decide (0 ≤ f k)) (j := y) (by simp; omega) (n := n) hy
  rw [← this]
  congr 1
  refine cntF_congr fun k _ => ?_
  by_cases g : k = y
  ·simp [g]; omega
  ·simp [g]
 refine ⟨⟨fun k hk => ?_, fun k hk => ?_, fun k hk h1 => ?_, fun z hz => ?_, ?_, fun a ha h1 h2 h3 k hk => ?_, fun k hk => ?_⟩, hc⟩
 ·have := h.ge k hk; split <;> omega
 ·have := h.zero k hk
  have := h.zero m hm
  split
  ·rename_i g; subst g
   constructor
   ·intro h1; omega
   ·intro h1; subst h1; omega
  ·assumption
 ·by_cases g : k = y
  ·subst g
   exact ⟨x, hx, by simp [hxy], hT⟩
  ·simp only [g, if_false] at h1 ⊢
   obtain ⟨a, b1, b2, b3⟩ := h.pre k hk h1
   have : ¬ a = y := by rintro rfl; omega
   exact ⟨a, b1, by simp [this, b2], b3⟩
 ·rcases List.mem_append.1 hz with hz | hz
  ·have := h.inq z hz
   refine ⟨this.1, ?_⟩
   split <;> omega
  ·simp only [List.mem_singleton] at hz
   subst hz
   exact ⟨hy, by simp; omega⟩
 ·refine List.pairwise_append.2 ⟨?_, List.pairwise_singleton _ _, ?_⟩
  ·refine h.sorted.imp_of_mem ?_
   intro a b ha hb2 hab
   have h1 := (h.inq a ha).2
   have h2 := (h.inq b hb2).2
   have e1 : ¬ a = y := by rintro rfl; omega
   have e2 : ¬ b = y := by rintro rfl; omega
   simp only [e1, e2, if_false]; exact hab
  ·intro a ha b hb2
   simp only [List.mem_singleton] at hb2
   subst hb2
   have h1 := h.inq a ha
   have e1 : ¬ a = b := by rintro rfl; omega
   simp only [e1, if_false, if_true]
   exact hb a h1.1
 ·simp only [List.mem_append, List.mem_singleton, not_or] at h2
  have e1 : ¬ a = y := h2.2
  simp only [e1, if_false] at h1 ⊢
  have := h.closed a ha h1 h2.1 h3 k hk
  have e2 : ¬ k = y := by rintro rfl; omega
  simp only [e2, if_false]; exact this
 ·have := h.top k hk
  have := h.top x hx
  split <;> omega
theorem C_impl_steps (T : List (List Int)) (m n : Nat) (hm : m < n) (hn : n ≤ 1000) (ht : Tbl T n) (Q : List AV → Prop) : mc.C f_impl_steps [⟨L (L I), T⟩, ⟨I, (m : Int)⟩] Q = Q [⟨L I, tab (dst T [(m : Int)]) n⟩] := by
 have hl := ht.1
 refine Mc.Ends.c (mc.ends F_impl_steps ?_)
 simp (contextual := true) (maxSteps := 1000000) (disch := omega) only [↓Sd, ↓So, ↓Sk, ↓den, ↓denA, Sa, Sb, Sc, Se, O1.d, O2.d, O3.d, cmI, arI, envOf, putN, ↓reduceIte, Nat.reduceLT, Nat.reduceSub, Nat.reduceAdd, Int.reduceAdd, Int.reduceEq, Int.reduceLT, Int.reduceLE, arr_pos, arr_neg, tr_impl_steps, hl, C_slices_Repeat (-1) n (by omega), List.length_replicate, tab_one hm]
 have hc0 : cntF (fun k => decide ((0 : Int) ≤ if k = m then 0 else -1)) n ≤ n := cntF_le
 refine mc.lp_inv (fun j us => ∃ (f : Nat → Int) (q : List Nat), us = [⟨L (L I), T⟩, ⟨L I, tab f n⟩, ⟨L I, q.map Int.ofNat⟩] ∧ Bfs T m n f q (fun _ => False) ∧ (∀ x q', q = x :: q' → ∀ k, k < n → f k ≤ f x + 1) ∧ q.length + cntF (fun k => decide (0 ≤ f k)) n ≤ 2000 ∧
  j = 2 * cntF (fun k => decide (0 ≤ f k)) n + q.length) _ _ ⟨fun k => if k = m then 0 else -1, [m], rfl, ⟨?_, ?_, ?_, ?_, ?_, ?_, ?_⟩, ?_, ?_, rfl⟩ ?_
 ·intro k _; split <;> omega
 ·intro k _; split <;> omega
 ·intro k _ h; split at h <;> omega
 ·intro x hx; simp only [List.mem_singleton] at hx; subst hx; exact ⟨hm, by simp⟩
 ·exact List.pairwise_singleton _ _
 ·intro a ha h1 h2
  simp only [List.mem_singleton] at h2
  simp only [h2, if_false] at h1
  omega
 ·intro k hk
  have hc := cntF_set (p := fun _ => false) (j := m) rfl (n := n) hm
  have : cntF (fun _ => false) n ≤ n := cntF_le
  rw [cntF_congr (q := fun k => if k = m then true else false) fun k _ => by by_cases g : k = m <;> simp [g]]
  split <;> omega
 ·intro x q' hq k hk
  simp only [List.cons.injEq] at hq
  rw [← hq.1]
  simp only [if_true]
  split <;> omega
 ·simp only [List.length_singleton]; omega
 rintro j us ⟨f, q, rfl, i1, i2, i3, rfl⟩
 cases q with
 | nil =>
  simp (contextual := true) (maxSteps := 1000000) (disch := omega) only [↓Sd, ↓So, ↓Sk, ↓den, ↓denA, Sa, Sb, Sc, Se, O1.d, O2.d, O3.d, cmI, arI, envOf, putN, ↓reduceIte, Nat.reduceLT, Nat.reduceSub, Nat.reduceAdd, Int.reduceAdd, Int.reduceEq, Int.reduceLT, Int.reduceLE, arr_pos, arr_neg, List.map_nil]
  refine tab_congr (IsDst.eq ht (by intro x hx; simp only [List.mem_singleton] at hx; omega) ⟨i1.ge, fun k hk => ?_, i1.pre, fun a ha h1 k hk => i1.closed a ha h1 (by simp) (by simp) k hk⟩)
  rw [i1.zero k hk]
  simp only [List.mem_singleton]
  omega
 | cons x q =>
  have hb := i2 x q rfl
  obtain ⟨hx, hfx⟩ := i1.inq x (List.mem_cons_self ..)
  have hso := List.pairwise_cons.1 i1.sorted
  have hrow := ht.row (i := x)
  have hrl : (T.getD x []).length ≤ 1048576 := (ht.2 _ (getD_mem (by omega))).1
  simp only [List.length_cons] at i3
  obtain ⟨row, hr⟩ : ∃ row, T.getD x [] = row := ⟨_, rfl⟩
  rw [hr] at hrow hrl
  have e0 : Int.ofNat x = (x : Int) := rfl
  simp (contextual := true) (maxSteps := 1000000) (disch := omega) only [↓Sd, ↓So, ↓Sk, ↓den, ↓denA, Sa, Sb, Sc, Se, O1.d, O2.d, O3.d, cmI, arI, envOf, putN, ↓reduceIte, Nat.reduceLT, Nat.reduceSub, Nat.reduceAdd, Int.reduceAdd, Int.reduceEq, Int.reduceLT, Int.reduceLE, arr_pos, arr_neg, List.map_cons, hl, e0, Int.toNat_natCast, hr, List.drop_succ_cons, List.drop_zero, List.length_cons]
  refine mc.lp_for ((Nat → Int) × List Nat) (fun j s => [⟨L (L I), T⟩, ⟨I, (x : Int)⟩, ⟨L I, row⟩, ⟨I, (row.length : Int)⟩, ⟨I, (j : Int)⟩, ⟨L I, tab s.1 n⟩, ⟨L I, s.2.map Int.ofNat⟩]) (fun j s => Bfs T m n s.1 s.2 (· = x) ∧ s.1 x = f x ∧ (∀ k, k < n → s.1 k ≤ f x + 1) ∧ (∀ y ∈ s.2, f x ≤ s.1 y) ∧
   (∀ k : Nat, (k : Int) ∈ row.take j → 0 ≤ s.1 k) ∧ s.2.length + cntF (fun k => decide (0 ≤ s.1 k)) n = q.length + cntF (fun k => decide (0 ≤ f k)) n ∧ cntF (fun k => decide (0 ≤ s.1 k)) n ≤ cntF (fun k => decide (0 ≤ f k)) n) row.length 0 (f, q) _ rfl (Nat.zero_le _)
   ⟨⟨i1.ge, i1.zero, i1.pre, fun y hy => i1.inq y (List.mem_cons_of_mem _ hy), hso.2, fun a h1 h2 h3 h4 => i1.closed a h1 h2 (by simp only [List.mem_cons, not_or]; exact ⟨h4, h3⟩) (by simp), i1.top⟩, rfl, hb, hso.1, by simp, rfl, Nat.le_refl _⟩ ?_ ?_
  ·rintro j ⟨f', q'⟩ hj ⟨a1, a2, a3, a4, a5, a6, a7⟩
   simp only at a1 a2 a3 a4 a5 a6 a7
   have hy := hrow _ (getD_mem (d := 0) hj)
   obtain ⟨y, hy2⟩ : ∃ y : Nat, row.getD j 0 = y := ⟨(row.getD j 0).toNat, by omega⟩
   have hyn : y < n := by omega
   have hyT : (y : Int) ∈ T.getD x [] := by rw [hr, ← hy2]; exact getD_mem hj
   have htop := a1.top x hx
   have hwr : IntKind.i64.wrap (f x + 1) = f x + 1 := wrap_id (by omega) (by omega)
   have hql : (q'.map Int.ofNat).length = q'.length := List.length_map ..
   simp (contextual := true) (maxSteps := 1000000) (disch := omega) only [↓Sd, ↓So, ↓Sk, ↓den, ↓denA, Sa, Sb, Sc, Se, O1.d, O2.d, O3.d, cmI, arI, envOf, putN, ↓reduceIte, Nat.reduceLT, Nat.reduceSub, Nat.reduceAdd, Int.reduceAdd, Int.reduceEq, Int.reduceLT, Int.reduceLE, arr_pos, arr_neg, ↓wpJoin, hy2, tab_len, tab_get hyn, tab_get hx, Int.toNat_natCast, tab_set', a2, hwr, hql]
   have hfx' : 0 ≤ f' x := by omega
   refine ⟨fun g => ?_, fun g => ?_⟩
   ·obtain ⟨v1, v2⟩ := a1.visit hx hfx' hyn g hm hyT (by rw [a2]; exact a3)
    rw [a2] at v1 v2
    have hxy : ¬ x = y := by rintro rfl; omega
    refine ⟨(fun k => if k = y then f x + 1 else f' k, q' ++ [y]), ⟨rfl, by simp⟩, v1, by simp [hxy, a2], ?_, ?_, ?_, ?_, ?_⟩
    ·intro k hk
     have := a3 k hk
     simp only []
     split <;> omega
    ·intro z hz
     simp only []
     split
     ·omega
     ·rename_i hzy
      rcases List.mem_append.1 hz with h | h
      ·exact a4 z h
      ·exact absurd (List.mem_singleton.1 h) hzy
    ·intro k hk
     simp only []
     split
     ·omega
     ·rename_i hky
      rcases (mem_take_next hj).1 hk with h | h
      ·exact a5 k h
      ·exact absurd (by omega) hky
    ·simp only [List.length_append, List.length_singleton]; omega
    ·simp only []; omega
   ·refine ⟨(f', q'), ⟨rfl, rfl⟩, a1, a2, a3, a4, fun k hk => ?_, a6, a7⟩
    rcases (mem_take_next hj).1 hk with h | h
    ·exact a5 k h
    ·rw [show k = y by omega]; simp only []; omega
  ·rintro ⟨f', q'⟩ ⟨a1, a2, a3, a4, a5, a6, a7⟩
   rw [List.take_length] at a5
   simp only at a1 a2 a3 a4 a5 a6 a7
   simp (contextual := true) (maxSteps := 1000000) (disch := omega) only [↓Sd, ↓So, ↓Sk, ↓den, ↓denA, Sa, Sb, Sc, Se, O1.d, O2.d, O3.d, cmI, arI, envOf, putN, ↓reduceIte, Nat.reduceLT, Nat.reduceSub, Nat.reduceAdd, Int.reduceAdd, Int.reduceEq, Int.reduceLT, Int.reduceLE, arr_pos, arr_neg, ]
   refine ⟨_, ?_, f', q', ⟨rfl, rfl⟩, ⟨a1.ge, a1.zero, a1.pre, a1.inq, a1.sorted, fun a ha h1 h2 _ k hk => ?_, a1.top⟩, fun z q'' hq k hk => ?_, by omega, rfl⟩
   ·omega
   ·by_cases hax : a = x
    ·subst hax
     rw [hr] at hk
     have h3 := hrow _ hk
     have h4 := a3 k (by omega)
     exact ⟨a5 k hk, by omega⟩
    ·exact a1.closed a ha h1 h2 hax k hk
   ·have h3 := a3 k hk
    have h4 := a4 z (by rw [hq]; exact List.mem_cons_self ..)
    omega
structure Rnd (T : List (List Int)) (p : Nat → Bool) (n : Nat) (d a0 C : Nat) (ag : Bool) (f : Nat → Int) : Prop where
 ge : ∀ k, k < n → -1 ≤ f k
 zero : ∀ k, k < n → (f k = 0 ↔ p k = true)
 pre : ∀ k, k < n → 0 < f k → ∃ a, a < n ∧ f a + 1 = f k ∧ (k : Int) ∈ T.getD a []
 le : ∀ k, k < n → f k ≤ (d : Int) + 1
 closed : ∀ a, a < n → 0 ≤ f a → (f a < d ∨ f a = d ∧ a < a0) → ∀ k : Nat, (k : Int) ∈ T.getD a [] → 0 ≤ f k ∧ f k ≤ f a + 1
 none : ag = false → ∀ k, k < n → f k ≤ d
 cnt : cntF (fun k => decide (0 ≤ f k)) n ≤ C
 less : ag = true → cntF (fun k => decide (0 ≤ f k)) n < C
theorem Rnd.visit {T : List (List Int)} {p : Nat → Bool} {n d a0 C y : Nat} {ag : Bool} {f : Nat → Int} (h : Rnd T p n d a0 C ag f) (ha : a0 < n) (hfa : f a0 = d) (hy : y < n) (hfy : f y < 0) (hT : (y : Int) ∈ T.getD a0 []) :
  Rnd T p n d a0 C true (fun k => if k = y then (d : Int) + 1 else f k) := by
 have hay : ¬ a0 = y := by rintro rfl; omega
 have hc : cntF (fun k => decide (0 ≤ (if k = y then (d : Int) + 1 else f k))) n + 1 = cntF (fun k => decide (0 ≤ f k)) n := by
  have := cntF_set (p := fun k => decide (0 ≤ f k)) (j := y) (by simp; omega) (n := n) hy
  rw [← this]
  congr 1
  refine cntF_congr fun k _ => ?_
  by_cases g : k = y
  ·simp [g]; omega
  ·simp [g]
 have hcn := h.cnt
 refine ⟨fun k hk => ?_, fun k hk => ?_, fun k hk h1 => ?_, fun k hk => ?_, fun a h1 h2 h3 k hk => ?_, fun g => (by cases g), by omega, fun _ => by omega⟩
 ·have := h.ge k hk; split <;> omega
 ·have := h.zero k hk
  split
  ·rename_i g; subst g
   constructor
   ·intro h1; omega
   ·intro h1; have := this.2 h1; omega
  ·exact this
 ·by_cases g : k = y
  ·subst g
   exact ⟨a0, ha, by simp [hay, hfa], hT⟩
  ·simp only [g, if_false] at h1 ⊢
   obtain ⟨a, b1, b2, b3⟩ := h.pre k hk h1
   have : ¬ a = y := by rintro rfl; omega
   exact ⟨a, b1, by simp [this, b2], b3⟩
 ·have := h.le k hk; split <;> omega
 ·by_cases e1 : a = y
  ·simp only [e1, if_true] at h3; omega
  ·simp only [e1, if_false] at h2 h3 ⊢
   have := h.closed a h1 h2 h3 k hk
   have e2 : ¬ k = y := by rintro rfl; omega
   simp only [e2, if_false]; exact this
theorem Rnd.skip {T : List (List Int)} {p : Nat → Bool} {n d a0 C : Nat} {ag : Bool} {f : Nat → Int} (h : Rnd T p n d a0 C ag f) (ht : Tbl T n) (hx : f a0 = d → ∀ k : Nat, (k : Int) ∈ T.getD a0 [] → 0 ≤ f k) : Rnd T p n d (a0 + 1) C ag f := by
 refine ⟨h.ge, h.zero, h.pre, h.le, fun a h1 h2 h3 k hk => ?_, h.none, h.cnt, h.less⟩
 by_cases e : a = a0
 ·subst e
  rcases h3 with h3 | h3
  ·exact h.closed a h1 h2 (.inl h3) k hk
  ·have h4 := ht.row _ hk
   have h5 := h.le k (by omega)
   exact ⟨hx h3.1 k hk, by omega⟩
 ·refine h.closed a h1 h2 (h3.imp_right fun h4 => ⟨h4.1, ?_⟩) k hk
  omega
theorem C_spec_l5Steps (T : List (List Int)) (p : Nat → Bool) (F : List Int) (n : Nat) (hn : n ≤ 1000) (ht : Tbl T n) (hF : ∀ x ∈ F, 0 ≤ x ∧ x < n) (hp : ∀ k, k < n → (p k = true ↔ (k : Int) ∈ F)) (Q : List AV → Prop) :
  mc.C f_spec_l5Steps [⟨L (L I), T⟩, ⟨L B, tab p n⟩] Q = Q [⟨L I, tab (dst T F) n⟩] := by
 have hl := ht.1
 refine Mc.Ends.c (mc.ends F_spec_l5Steps ?_)
 simp (contextual := true) (maxSteps := 1000000) (disch := omega) only [↓Sd, ↓So, ↓Sk, ↓den, ↓denA, Sa, Sb, Sc, Se, O1.d, O2.d, O3.d, cmI, arI, envOf, putN, ↓reduceIte, Nat.reduceLT, Nat.reduceSub, Nat.reduceAdd, Int.reduceAdd, Int.reduceEq, Int.reduceLT, Int.reduceLE, arr_pos, arr_neg, tr_spec_l5Steps]
 refine mc.lp_for (List Int) (fun i o => [⟨L (L I), T⟩, ⟨L B, tab p n⟩, ⟨I, (i : Int)⟩, ⟨L I, o⟩]) (fun i o => o = tab (fun k => if p k = true then 0 else -1) i) n 0 [] _ rfl (Nat.zero_le _) rfl ?_ ?_
 ·rintro i o hi rfl
  simp (contextual := true) (maxSteps := 1000000) (disch := omega) only [↓Sd, ↓So, ↓Sk, ↓den, ↓denA, Sa, Sb, Sc, Se, O1.d, O2.d, O3.d, cmI, arI, envOf, putN, ↓reduceIte, Nat.reduceLT, Nat.reduceSub, Nat.reduceAdd, Int.reduceAdd, Int.reduceEq, Int.reduceLT, Int.reduceLE, arr_pos, arr_neg, ↓wpJoin, hl, tab_len, tab_get hi]
  refine ⟨fun g => ?_, fun g => ?_⟩
  ·rw [← tab_next]; simp [g]
  ·rw [← tab_next]; simp [g]
 rintro o rfl
 obtain ⟨f0, hf0⟩ : ∃ f0 : Nat → Int, (fun k => if p k = true then (0 : Int) else -1) = f0 := ⟨_, rfl⟩
 have h0 : ∀ k, (p k = true → f0 k = 0) ∧ (¬ p k = true → f0 k = -1) := fun k => by rw [← hf0]; exact ⟨fun g => by simp [g], fun g => by simp [g]⟩
 rw [hf0]
 clear hf0
 simp (contextual := true) (maxSteps := 1000000) (disch := omega) only [↓Sd, ↓So, ↓Sk, ↓den, ↓denA, Sa, Sb, Sc, Se, O1.d, O2.d, O3.d, cmI, arI, envOf, putN, ↓reduceIte, Nat.reduceLT, Nat.reduceSub, Nat.reduceAdd, Int.reduceAdd, Int.reduceEq, Int.reduceLT, Int.reduceLE, arr_pos, arr_neg, hl]
 refine mc.lp_inv (fun j us => ∃ (f : Nat → Int) (ag : Bool) (d : Nat), us = [⟨L (L I), T⟩, ⟨B, ag⟩, ⟨I, (d : Int)⟩, ⟨L I, tab f n⟩] ∧ (∀ k, k < n → -1 ≤ f k) ∧ (∀ k, k < n → (f k = 0 ↔ p k = true)) ∧ (∀ k, k < n → 0 < f k → ∃ a, a < n ∧ f a + 1 = f k ∧ (k : Int) ∈ T.getD a []) ∧
  (∀ a, a < n → 0 ≤ f a → f a < d → ∀ k : Nat, (k : Int) ∈ T.getD a [] → 0 ≤ f k ∧ f k ≤ f a + 1) ∧ (∀ k, k < n → f k ≤ d) ∧ (ag = false → ∀ k, k < n → f k < d) ∧ (ag = true → d + cntF (fun k => decide (0 ≤ f k)) n ≤ n) ∧
  j = if ag = true then cntF (fun k => decide (0 ≤ f k)) n + 1 else 0) _ _ ⟨f0, true, 0, rfl, fun k _ => ?_, fun k _ => ?_, fun k _ h => ?_, fun a _ h1 h2 => (by omega), fun k _ => ?_, fun g => (by cases g), fun _ => ?_, rfl⟩ ?_
 ·have := h0 k
  by_cases g : p k = true
  ·have := this.1 g; omega
  ·have := this.2 g; omega
 ·have := h0 k
  by_cases g : p k = true
  ·simp [g, this.1 g]
  ·simp [g, this.2 g]
 ·have := h0 k
  by_cases g : p k = true
  ·have := this.1 g; omega
  ·have := this.2 g; omega
 ·have := h0 k
  by_cases g : p k = true
  ·have := this.1 g; omega
  ·have := this.2 g; omega
 ·have : cntF (fun k => decide (0 ≤ f0 k)) n ≤ n := cntF_le
  omega
 rintro j us ⟨f, ag, d, rfl, i1, i2, i3, i4, i5, i6, i7, rfl⟩
 cases ag with
 | false =>
  simp (contextual := true) (maxSteps := 1000000) (disch := omega) only [↓Sd, ↓So, ↓Sk, ↓den, ↓denA, Sa, Sb, Sc, Se, O1.d, O2.d, O3.d, cmI, arI, envOf, putN, ↓reduceIte, Nat.reduceLT, Nat.reduceSub, Nat.reduceAdd, Int.reduceAdd, Int.reduceEq, Int.reduceLT, Int.reduceLE, arr_pos, arr_neg, ]
  exact tab_congr (IsDst.eq ht hF ⟨i1, fun k hk => by rw [i2 k hk, hp k hk], i3, fun a ha h1 k hk => i4 a ha h1 (i6 rfl a ha) k hk⟩)
 | true =>
  have i7 := i7 rfl
  simp (contextual := true) (maxSteps := 1000000) (disch := omega) only [↓Sd, ↓So, ↓Sk, ↓den, ↓denA, Sa, Sb, Sc, Se, O1.d, O2.d, O3.d, cmI, arI, envOf, putN, ↓reduceIte, Nat.reduceLT, Nat.reduceSub, Nat.reduceAdd, Int.reduceAdd, Int.reduceEq, Int.reduceLT, Int.reduceLE, arr_pos, arr_neg, ]
  generalize hC : cntF (fun k => decide (0 ≤ f k)) n = C at *
  refine mc.lp_for ((Nat → Int) × Bool) (fun a s => [⟨L (L I), T⟩, ⟨B, s.2⟩, ⟨I, (d : Int)⟩, ⟨I, (a : Int)⟩, ⟨L I, tab s.1 n⟩]) (fun a s => Rnd T p n d a C s.2 s.1) n 0 (f, false) _ rfl (Nat.zero_le _)
   ⟨i1, i2, i3, fun k hk => Int.le_trans (i5 k hk) (by omega), fun a ha h1 h2 k hk => i4 a ha h1 (h2.elim id fun h => by omega) k hk, fun _ => i5, by rw [hC]; exact Nat.le_refl _, fun g => (by cases g)⟩ ?_ ?_
  ·rintro a0 ⟨f1, ag1⟩ ha0 hR
   simp only at hR
   obtain ⟨row, hr⟩ : ∃ row, T.getD a0 [] = row := ⟨_, rfl⟩
   have hrow := ht.row (i := a0)
   have hrl : (T.getD a0 []).length ≤ 1048576 := (ht.2 _ (getD_mem (by omega))).1
   rw [hr] at hrow hrl
   simp (contextual := true) (maxSteps := 1000000) (disch := omega) only [↓Sd, ↓So, ↓Sk, ↓den, ↓denA, Sa, Sb, Sc, Se, O1.d, O2.d, O3.d, cmI, arI, envOf, putN, ↓reduceIte, Nat.reduceLT, Nat.reduceSub, Nat.reduceAdd, Int.reduceAdd, Int.reduceEq, Int.reduceLT, Int.reduceLE, arr_pos, arr_neg, hl]
   refine mc.lp_for ((Nat → Int) × Bool) (fun i s => [⟨L (L I), T⟩, ⟨B, s.2⟩, ⟨I, (d : Int)⟩, ⟨I, (a0 : Int)⟩, ⟨I, (i : Int)⟩, ⟨L I, tab s.1 n⟩]) (fun i s => Rnd T p n d a0 C s.2 s.1 ∧ ∀ k : Nat, (k : Int) ∈ row.take i → s.1 a0 = d → 0 ≤ s.1 k) row.length 0 (f1, ag1) _ rfl (Nat.zero_le _) ⟨hR, by simp⟩ ?_ ?_
   ·rintro i ⟨f2, ag2⟩ hi ⟨b1, b2⟩
    simp only at b1 b2
    have hy := hrow _ (getD_mem (d := 0) hi)
    obtain ⟨y, hy2⟩ : ∃ y : Nat, row.getD i 0 = y := ⟨(row.getD i 0).toNat, by omega⟩
    have hyn : y < n := by omega
    have hwr : IntKind.i64.wrap ((d : Int) + 1) = (d : Int) + 1 := wrap_id (by omega) (by omega)
    simp (contextual := true) (maxSteps := 1000000) (disch := omega) only [↓Sd, ↓So, ↓Sk, ↓den, ↓denA, Sa, Sb, Sc, Se, O1.d, O2.d, O3.d, cmI, arI, envOf, putN, ↓reduceIte, Nat.reduceLT, Nat.reduceSub, Nat.reduceAdd, Int.reduceAdd, Int.reduceEq, Int.reduceLT, Int.reduceLE, arr_pos, arr_neg, ↓wpJoin, hl, hr, hy2, tab_len, tab_get hyn, tab_get ha0, Int.toNat_natCast, tab_set', hwr]
    refine ⟨fun g => ⟨fun g2 => ?_, fun g2 => ?_⟩, fun g => ?_⟩
    ·have hv := b1.visit ha0 g hyn g2 (by rw [hr, ← hy2]; exact getD_mem hi)
     refine ⟨(fun k => if k = y then (d : Int) + 1 else f2 k, true), ⟨rfl, rfl⟩, hv, fun k hk h3 => ?_⟩
     simp only []
     split
     ·omega
     ·rename_i hky
      rcases (mem_take_next hi).1 hk with h | h
      ·exact b2 k h g
      ·exact absurd (by omega) hky
    ·refine ⟨(f2, ag2), ⟨rfl, rfl⟩, b1, fun k hk h3 => ?_⟩
     rcases (mem_take_next hi).1 hk with h | h
     ·exact b2 k h h3
     ·rw [show k = y by omega]; simp only []; omega
    ·exact ⟨(f2, ag2), ⟨rfl, rfl⟩, b1.skip ht fun h => absurd h g⟩
   ·rintro ⟨f2, ag2⟩ ⟨b1, b2⟩
    rw [List.take_length] at b2
    simp only at b1 b2
    simp (contextual := true) (maxSteps := 1000000) (disch := omega) only [↓Sd, ↓So, ↓Sk, ↓den, ↓denA, Sa, Sb, Sc, Se, O1.d, O2.d, O3.d, cmI, arI, envOf, putN, ↓reduceIte, Nat.reduceLT, Nat.reduceSub, Nat.reduceAdd, Int.reduceAdd, Int.reduceEq, Int.reduceLT, Int.reduceLE, arr_pos, arr_neg, hl, hr]
    exact ⟨(f2, ag2), ⟨rfl, rfl⟩, b1.skip ht fun h k hk => b2 k (by rw [← hr]; exact hk) h⟩
  ·rintro ⟨f1, ag1⟩ hR
   simp only at hR
   have hwr : IntKind.i64.wrap ((d : Int) + 1) = (d : Int) + 1 := wrap_id (by omega) (by omega)
   simp (contextual := true) (maxSteps := 1000000) (disch := omega) only [↓Sd, ↓So, ↓Sk, ↓den, ↓denA, Sa, Sb, Sc, Se, O1.d, O2.d, O3.d, cmI, arI, envOf, putN, ↓reduceIte, Nat.reduceLT, Nat.reduceSub, Nat.reduceAdd, Int.reduceAdd, Int.reduceEq, Int.reduceLT, Int.reduceLE, arr_pos, arr_neg, hl, hwr]
   have hcnt := hR.cnt
   refine ⟨_, ?_, f1, ag1, d + 1, ⟨rfl, by rw [Int.natCast_add]; rfl, rfl⟩, hR.ge, hR.zero, hR.pre, fun a ha h1 h2 k hk => hR.closed a ha h1 ?_ k hk, fun k hk => ?_, fun g k hk => ?_, fun g => ?_, rfl⟩
   ·cases ag1 with
    | true => have := hR.less rfl; simp only [if_true]; omega
    | false => simp
   ·by_cases g : f1 a < d
    ·exact .inl g
    ·exact .inr ⟨by omega, ha⟩
   ·have := hR.le k hk; omega
   ·have := hR.none g k hk; omega
   ·have := hR.less g; omega
theorem dst_le {T : List (List Int)} {F : List Int} {d k : Nat} : Lay T F d k ↔ 0 ≤ dst T F k ∧ dst T F k ≤ d := by
 unfold dst
 constructor
 ·intro h
  have hh : ∃ d, Lay T F d k := ⟨d, h⟩
  rw [dif_pos hh]
  obtain ⟨b1, b2⟩ := Classical.choose_spec (least hh)
  generalize Classical.choose (least hh) = e at b1 b2
  have : ¬ d < e := fun g => b2 d g h
  omega
 ·rintro ⟨h1, h2⟩
  by_cases g : ∃ d, Lay T F d k
  ·rw [dif_pos g] at h1 h2
   obtain ⟨b1, -⟩ := Classical.choose_spec (least g)
   generalize Classical.choose (least g) = e at b1 h1 h2
   exact b1.up (by omega)
  ·rw [dif_neg g] at h1; omega
noncomputable def ecc (s : Sy) : List Int := tab (dst (steps s) [num s.1 (fst0 s.1)]) (szn s.1)
abbrev RD : Ty := P (L U) I
def Byt (b : List Int) : Prop := ∀ x ∈ b, 0 ≤ x ∧ x ≤ 255
def Rdy (b : List Int) : Prop := Byt b ∧ b.length ≤ 2000
theorem Byt.get {b : List Int} (h : Byt b) (i : Nat) : 0 ≤ b.getD i 0 ∧ b.getD i 0 ≤ 255 := by
 by_cases hi : i < b.length
 ·exact h _ (getD_mem hi)
 ·rw [List.getD_eq_getElem?_getD, List.getElem?_eq_none (by omega)]; simp
theorem xor_bd {x y : Int} (hx : 0 ≤ x ∧ x < 1099511627776) (hy : 0 ≤ y ∧ y < 1099511627776) : 0 ≤ IntKind.i64.wrap ((BitVec.ofInt IntKind.i64.bits x ^^^ BitVec.ofInt IntKind.i64.bits y).toNat : Int) := by
 have e : ∀ z : Int, 0 ≤ z ∧ z < 1099511627776 → (BitVec.ofInt IntKind.i64.bits z).toNat < 2 ^ 40 := by
  intro z hz
  rw [BitVec.toNat_ofInt]
  show Int.toNat (z % (2 : Int) ^ 64) < 2 ^ 40
  omega
 have h : (BitVec.ofInt IntKind.i64.bits x ^^^ BitVec.ofInt IntKind.i64.bits y).toNat < 2 ^ 40 := by
  rw [BitVec.toNat_xor]
  exact Nat.xor_lt_two_pow (e x hx) (e y hy)
 rw [wrap_id (by omega) (by omega)]
 omega
theorem D_pick (b : List Int) (p n : Int) (hb : Rdy b) (hp : 0 ≤ p ∧ p ≤ 1000000000) {Q : List AV → Prop} (h : ∀ v : Int, 0 ≤ v → (1 ≤ n → v < n) → Q [⟨I, v⟩, ⟨RD, (b, p + 1)⟩]) : mc.C f_spec_l40Rd_pick [⟨RD, (b, p)⟩, ⟨I, n⟩] Q := by
 refine mc.c_of F_spec_l40Rd_pick ?_
 have hl := hb.2
 simp (contextual := true) (maxSteps := 1000000) (disch := omega) only [↓Sd, ↓So, ↓Sk, ↓den, ↓denA, Sa, Sb, Sc, Se, O1.d, O2.d, O3.d, cmI, arI, envOf, putN, ↓reduceIte, Nat.reduceLT, Nat.reduceSub, Nat.reduceAdd, Int.reduceAdd, Int.reduceEq, Int.reduceLT, Int.reduceLE, arr_pos, arr_neg, tr_spec_l40Rd_pick]
 refine ⟨fun g => h 0 (by omega) (by omega), fun g => ⟨fun g2 => h 0 (by omega) (by omega), fun g2 => ?_⟩⟩
 have hn : 1 ≤ n := by omega
 have hlb : 0 < (b.length : Int) := by omega
 refine ⟨fun g3 => ?_, fun g3 => ?_⟩
 ·have h1 := hb.1.get p.toNat
  rw [wrap_id (by omega) (by omega), Int.tmod_eq_emod_of_nonneg h1.1]
  exact h _ (Int.emod_nonneg _ (by omega)) fun _ => Int.emod_lt_of_pos _ (by omega)
 ·have a1 := Int.emod_nonneg p (show (b.length : Int) ≠ 0 by omega)
  have a2 := Int.emod_lt_of_pos p hlb
  have a3 := Int.emod_nonneg (p * 7 + 3) (show (b.length : Int) ≠ 0 by omega)
  have a4 := Int.emod_lt_of_pos (p * 7 + 3) hlb
  have a5 := Int.ediv_nonneg hp.1 (Int.le_of_lt hlb)
  have a6 := Int.ediv_le_self (b.length : Int) hp.1
  have h1 := hb.1.get (p % (b.length : Int)).toNat
  have h2 := hb.1.get ((p * 7 + 3) % (b.length : Int)).toNat
  refine ⟨a1, a2, a3, a4, ?_⟩
  generalize b.getD (p % (b.length : Int)).toNat 0 = x1 at *
  generalize b.getD ((p * 7 + 3) % (b.length : Int)).toNat 0 = x2 at *
  generalize p / (b.length : Int) = x3 at *
  rw [wrap_id (x := x1) (by omega) (by omega), wrap_id (x := x2) (by omega) (by omega), wrap_id (x := x3) (by omega) (by omega), wrap_id (x := x1 * 131) (by omega) (by omega), wrap_id (x := x2 * 1117) (by omega) (by omega), wrap_id (x := x1 * 131 + x2 * 1117) (by omega) (by omega), wrap_id (x := x1 * 131 + x2 * 1117 + p * 29) (by omega) (by omega), wrap_id (x := x3 * 53) (by omega) (by omega), wrap_id (x := x1 * 131 + x2 * 1117 + p * 29 + x3 * 53) (by omega) (by omega)]
  obtain ⟨y, hy⟩ : ∃ y, x1 * 131 + x2 * 1117 + p * 29 + x3 * 53 = y := ⟨_, rfl⟩
  have hyb : 0 ≤ y ∧ y < 1099511627776 := by omega
  rw [hy, Int.tdiv_eq_ediv_of_nonneg hyb.1, wrap_id (x := y / 64) (by omega) (by omega)]
  have h4 := xor_bd hyb (y := y / 64) (by omega)
  rw [Int.tmod_eq_emod_of_nonneg h4]
  exact h _ (Int.emod_nonneg _ (by omega)) fun _ => Int.emod_lt_of_pos _ (by omega)
theorem D_pick1 (b : List Int) (p n : Int) (hb : Rdy b) (hp : 0 ≤ p ∧ p ≤ 1000000000) (hn : 1 ≤ n) {Q : List AV → Prop} (h : ∀ v : Int, 0 ≤ v → v < n → Q [⟨I, v⟩, ⟨RD, (b, p + 1)⟩]) : mc.C f_spec_l40Rd_pick [⟨RD, (b, p)⟩, ⟨I, n⟩] Q := D_pick b p n hb hp fun v h0 h1 => h v h0 (h1 hn)
theorem D_num (b : List Int) (p : Int) (l : List Int) (hb : Rdy b) (hp : 0 ≤ p ∧ p ≤ 1000000000) (hl : l ≠ []) (hl2 : l.length ≤ 1048576) {Q : List AV → Prop} (h : ∀ v : Int, v ∈ l → Q [⟨I, v⟩, ⟨RD, (b, p + 1)⟩]) : mc.C f_spec_l40Rd_num [⟨RD, (b, p)⟩, ⟨L I, l⟩] Q := by
 have hl1 : 0 < l.length := List.length_pos_iff.2 hl
 refine mc.c_of F_spec_l40Rd_num ?_
 simp (contextual := true) (maxSteps := 1000000) (disch := omega) only [↓Sd, ↓So, ↓Sk, ↓den, ↓denA, Sa, Sb, Sc, Se, O1.d, O2.d, O3.d, cmI, arI, envOf, putN, ↓reduceIte, Nat.reduceLT, Nat.reduceSub, Nat.reduceAdd, Int.reduceAdd, Int.reduceEq, Int.reduceLT, Int.reduceLE, arr_pos, arr_neg, tr_spec_l40Rd_num]
 refine D_pick1 b p _ hb hp (by omega) fun v h0 h1 => ?_
 simp (contextual := true) (maxSteps := 1000000) (disch := omega) only [↓Sd, ↓So, ↓Sk, ↓den, ↓denA, Sa, Sb, Sc, Se, O1.d, O2.d, O3.d, cmI, arI, envOf, putN, ↓reduceIte, Nat.reduceLT, Nat.reduceSub, Nat.reduceAdd, Int.reduceAdd, Int.reduceEq, Int.reduceLT, Int.reduceLE, arr_pos, arr_neg, ]
 exact h _ (getD_mem (by omega))
theorem D_open (b : List Int) (hb : Byt b) (hl : Lt63 b) {Q : List AV → Prop} (h : ∀ b', Rdy b' → Q [⟨RD, (b', 0)⟩]) : mc.C f_spec_l40Open [⟨L U, b⟩] Q := by
 unfold Lt63 at hl
 refine mc.c_of F_spec_l40Open ?_
 simp (contextual := true) (maxSteps := 1000000) (disch := omega) only [↓Sd, ↓So, ↓Sk, ↓den, ↓denA, Sa, Sb, Sc, Se, O1.d, O2.d, O3.d, cmI, arI, envOf, putN, ↓reduceIte, Nat.reduceLT, Nat.reduceSub, Nat.reduceAdd, Int.reduceAdd, Int.reduceEq, Int.reduceLT, Int.reduceLE, arr_pos, arr_neg, ↓wpJoin, tr_spec_l40Open]
 refine ⟨fun g => ?_, fun g => h b ⟨hb, by omega⟩⟩
 refine h _ ⟨fun x hx => hb x ?_, ?_⟩
 ·exact List.mem_of_mem_take hx
 ·rw [List.length_take]; omega
theorem D_l1Number (b : List Int) (p : Int) (hb : Rdy b) (hp : 0 ≤ p ∧ p ≤ 900000000) {Q : List AV → Prop} (h : ∀ v p' : Int, p ≤ p' ∧ p' ≤ p + 6 → Q [⟨I, v⟩, ⟨RD, (b, p')⟩]) : mc.C f_spec_l1Number [⟨RD, (b, p)⟩] Q := by
 refine mc.c_of F_spec_l1Number ?_
 simp (contextual := true) (maxSteps := 1000000) (disch := omega) only [↓Sd, ↓So, ↓Sk, ↓den, ↓denA, Sa, Sb, Sc, Se, O1.d, O2.d, O3.d, cmI, arI, envOf, putN, ↓reduceIte, Nat.reduceLT, Nat.reduceSub, Nat.reduceAdd, Int.reduceAdd, Int.reduceEq, Int.reduceLT, Int.reduceLE, arr_pos, arr_neg, tr_spec_l1Number]
 refine D_pick1 _ _ _ hb (by omega) (by omega) fun v1 v10 v11 => ?_; simp (contextual := true) (maxSteps := 1000000) (disch := omega) only [↓Sd, ↓So, ↓Sk, ↓den, ↓denA, Sa, Sb, Sc, Se, O1.d, O2.d, O3.d, cmI, arI, envOf, putN, ↓reduceIte, Nat.reduceLT, Nat.reduceSub, Nat.reduceAdd, Int.reduceAdd, Int.reduceEq, Int.reduceLT, Int.reduceLE, arr_pos, arr_neg, ]
 refine D_pick1 _ _ _ hb (by omega) (by omega) fun v2 v20 v21 => ?_; simp (contextual := true) (maxSteps := 1000000) (disch := omega) only [↓Sd, ↓So, ↓Sk, ↓den, ↓denA, Sa, Sb, Sc, Se, O1.d, O2.d, O3.d, cmI, arI, envOf, putN, ↓reduceIte, Nat.reduceLT, Nat.reduceSub, Nat.reduceAdd, Int.reduceAdd, Int.reduceEq, Int.reduceLT, Int.reduceLE, arr_pos, arr_neg, ]
 refine D_pick1 _ _ _ hb (by omega) (by omega) fun v3 v30 v31 => ?_; simp (contextual := true) (maxSteps := 1000000) (disch := omega) only [↓Sd, ↓So, ↓Sk, ↓den, ↓denA, Sa, Sb, Sc, Se, O1.d, O2.d, O3.d, cmI, arI, envOf, putN, ↓reduceIte, Nat.reduceLT, Nat.reduceSub, Nat.reduceAdd, Int.reduceAdd, Int.reduceEq, Int.reduceLT, Int.reduceLE, arr_pos, arr_neg, ]
 refine D_pick1 _ _ _ hb (by omega) (by omega) fun v4 v40 v41 => ?_; simp (contextual := true) (maxSteps := 1000000) (disch := omega) only [↓Sd, ↓So, ↓Sk, ↓den, ↓denA, Sa, Sb, Sc, Se, O1.d, O2.d, O3.d, cmI, arI, envOf, putN, ↓reduceIte, Nat.reduceLT, Nat.reduceSub, Nat.reduceAdd, Int.reduceAdd, Int.reduceEq, Int.reduceLT, Int.reduceLE, arr_pos, arr_neg, ]
 refine D_pick1 _ _ _ hb (by omega) (by omega) fun v5 v50 v51 => ?_; simp (contextual := true) (maxSteps := 1000000) (disch := omega) only [↓Sd, ↓So, ↓Sk, ↓den, ↓denA, Sa, Sb, Sc, Se, O1.d, O2.d, O3.d, cmI, arI, envOf, putN, ↓reduceIte, Nat.reduceLT, Nat.reduceSub, Nat.reduceAdd, Int.reduceAdd, Int.reduceEq, Int.reduceLT, Int.reduceLE, arr_pos, arr_neg, ]
 refine D_num _ _ _ hb (by omega) (by simp) (by simp) fun v v0 => ?_; simp (contextual := true) (maxSteps := 1000000) (disch := omega) only [↓Sd, ↓So, ↓Sk, ↓den, ↓denA, Sa, Sb, Sc, Se, O1.d, O2.d, O3.d, cmI, arI, envOf, putN, ↓reduceIte, Nat.reduceLT, Nat.reduceSub, Nat.reduceAdd, Int.reduceAdd, Int.reduceEq, Int.reduceLT, Int.reduceLE, arr_pos, arr_neg, ]
 exact h v _ (by omega)
theorem D_l1Pick (b : List Int) (p : Int) (ks : List Int) (kind : Int) (hb : Rdy b) (hp : 0 ≤ p ∧ p ≤ 900000000) (hk : 0 < ks.length) (hk2 : ks.length ≤ 1000) {Q : List AV → Prop} (h : ∀ v : Int, -1 ≤ v ∧ v < ks.length → Q [⟨I, v⟩, ⟨RD, (b, p + 1)⟩]) : mc.C f_spec_l1Pick [⟨RD, (b, p)⟩, ⟨L I, ks⟩, ⟨I, kind⟩] Q := by
 refine mc.c_of F_spec_l1Pick ?_
 simp (contextual := true) (maxSteps := 1000000) (disch := omega) only [↓Sd, ↓So, ↓Sk, ↓den, ↓denA, Sa, Sb, Sc, Se, O1.d, O2.d, O3.d, cmI, arI, envOf, putN, ↓reduceIte, Nat.reduceLT, Nat.reduceSub, Nat.reduceAdd, Int.reduceAdd, Int.reduceEq, Int.reduceLT, Int.reduceLE, arr_pos, arr_neg, tr_spec_l1Pick]
 refine D_pick1 _ _ _ hb (by omega) (by omega) fun a a0 a1 => ?_; simp (contextual := true) (maxSteps := 1000000) (disch := omega) only [↓Sd, ↓So, ↓Sk, ↓den, ↓denA, Sa, Sb, Sc, Se, O1.d, O2.d, O3.d, cmI, arI, envOf, putN, ↓reduceIte, Nat.reduceLT, Nat.reduceSub, Nat.reduceAdd, Int.reduceAdd, Int.reduceEq, Int.reduceLT, Int.reduceLE, arr_pos, arr_neg, ]
 refine mc.lp_for Unit (fun i _ => [⟨L I, ks⟩, ⟨I, kind⟩, ⟨I, a⟩, ⟨I, (i : Int)⟩, ⟨L U, b⟩, ⟨I, p + 1⟩]) (fun _ _ => True) ks.length 0 () _ rfl (Nat.zero_le _) trivial ?_ ?_
 ·rintro i - hi -
  have a1 := Int.emod_nonneg (a + (i : Int)) (show (ks.length : Int) ≠ 0 by omega)
  have a2 := Int.emod_lt_of_pos (a + (i : Int)) (show 0 < (ks.length : Int) by omega)
  simp (contextual := true) (maxSteps := 1000000) (disch := omega) only [↓Sd, ↓So, ↓Sk, ↓den, ↓denA, Sa, Sb, Sc, Se, O1.d, O2.d, O3.d, cmI, arI, envOf, putN, ↓reduceIte, Nat.reduceLT, Nat.reduceSub, Nat.reduceAdd, Int.reduceAdd, Int.reduceEq, Int.reduceLT, Int.reduceLE, arr_pos, arr_neg, ]
  exact fun _ => h _ (by omega)
 ·rintro - -
  simp (contextual := true) (maxSteps := 1000000) (disch := omega) only [↓Sd, ↓So, ↓Sk, ↓den, ↓denA, Sa, Sb, Sc, Se, O1.d, O2.d, O3.d, cmI, arI, envOf, putN, ↓reduceIte, Nat.reduceLT, Nat.reduceSub, Nat.reduceAdd, Int.reduceAdd, Int.reduceEq, Int.reduceLT, Int.reduceLE, arr_pos, arr_neg, ]
  exact h _ (by omega)
theorem C_spec_l2VarOf (n : Int) (Q : List AV → Prop) : mc.C f_spec_l2VarOf [⟨I, n⟩] Q = Q [⟨I, 1⟩, ⟨I, n⟩, ⟨I, 0⟩, ⟨I, 0⟩] := Mc.Ends.c (mc.ends F_spec_l2VarOf (by simp (contextual := true) (maxSteps := 1000000) (disch := omega) only [↓Sd, ↓So, ↓Sk, ↓den, ↓denA, Sa, Sb, Sc, Se, O1.d, O2.d, O3.d, cmI, arI, envOf, putN, ↓reduceIte, Nat.reduceLT, Nat.reduceSub, Nat.reduceAdd, Int.reduceAdd, Int.reduceEq, Int.reduceLT, Int.reduceLE, arr_pos, arr_neg, tr_spec_l2VarOf]))
theorem C_spec_l2Const (n : Int) (Q : List AV → Prop) : mc.C f_spec_l2Const [⟨I, n⟩] Q = Q [⟨I, 0⟩, ⟨I, n⟩, ⟨I, 0⟩, ⟨I, 0⟩] := Mc.Ends.c (mc.ends F_spec_l2Const (by simp (contextual := true) (maxSteps := 1000000) (disch := omega) only [↓Sd, ↓So, ↓Sk, ↓den, ↓denA, Sa, Sb, Sc, Se, O1.d, O2.d, O3.d, cmI, arI, envOf, putN, ↓reduceIte, Nat.reduceLT, Nat.reduceSub, Nat.reduceAdd, Int.reduceAdd, Int.reduceEq, Int.reduceLT, Int.reduceLE, arr_pos, arr_neg, tr_spec_l2Const]))
theorem D_l2Cond (b : List Int) (p : Int) (v : Vr) (at_ : Int) (hb : Rdy b) (hp : 0 ≤ p ∧ p ≤ 900000000) {Q : List AV → Prop} (h : ∀ (l : List Tm) (p' : Int), p ≤ p' ∧ p' ≤ p + 3 → l.length ≤ 4 → Q [⟨L T4, l⟩, ⟨RD, (b, p')⟩]) : mc.C f_spec_l2Cond [⟨RD, (b, p)⟩, ⟨I, v.1⟩, ⟨I, v.2.1⟩, ⟨I, v.2.2⟩, ⟨I, at_⟩] Q := by
 refine mc.c_of F_spec_l2Cond ?_
 simp (contextual := true) (maxSteps := 1000000) (disch := omega) only [↓Sd, ↓So, ↓Sk, ↓den, ↓denA, Sa, Sb, Sc, Se, O1.d, O2.d, O3.d, cmI, arI, envOf, putN, ↓reduceIte, Nat.reduceLT, Nat.reduceSub, Nat.reduceAdd, Int.reduceAdd, Int.reduceEq, Int.reduceLT, Int.reduceLE, arr_pos, arr_neg, tr_spec_l2Cond]
 refine D_pick _ _ _ hb (by omega) fun n _ _ => ?_
 simp (contextual := true) (maxSteps := 1000000) (disch := omega) only [↓Sd, ↓So, ↓Sk, ↓den, ↓denA, Sa, Sb, Sc, Se, O1.d, O2.d, O3.d, cmI, arI, envOf, putN, ↓reduceIte, Nat.reduceLT, Nat.reduceSub, Nat.reduceAdd, Int.reduceAdd, Int.reduceEq, Int.reduceLT, Int.reduceLE, arr_pos, arr_neg, ↓wpJoin, ]
 refine D_num _ _ _ hb (by omega) (by simp) (by simp) fun o o0 => ?_; simp (contextual := true) (maxSteps := 1000000) (disch := omega) only [↓Sd, ↓So, ↓Sk, ↓den, ↓denA, Sa, Sb, Sc, Se, O1.d, O2.d, O3.d, cmI, arI, envOf, putN, ↓reduceIte, Nat.reduceLT, Nat.reduceSub, Nat.reduceAdd, Int.reduceAdd, Int.reduceEq, Int.reduceLT, Int.reduceLE, arr_pos, arr_neg, ]
 simp (contextual := true) (maxSteps := 1000000) (disch := omega) only [↓Sd, ↓So, ↓Sk, ↓den, ↓denA, Sa, Sb, Sc, Se, O1.d, O2.d, O3.d, cmI, arI, envOf, putN, ↓reduceIte, Nat.reduceLT, Nat.reduceSub, Nat.reduceAdd, Int.reduceAdd, Int.reduceEq, Int.reduceLT, Int.reduceLE, arr_pos, arr_neg, ↓wpJoin, C_spec_l2VarOf, C_spec_l2Const]
 refine D_pick1 _ _ _ hb (by omega) (by omega) fun k k0 k1 => ?_; simp (contextual := true) (maxSteps := 1000000) (disch := omega) only [↓Sd, ↓So, ↓Sk, ↓den, ↓denA, Sa, Sb, Sc, Se, O1.d, O2.d, O3.d, cmI, arI, envOf, putN, ↓reduceIte, Nat.reduceLT, Nat.reduceSub, Nat.reduceAdd, Int.reduceAdd, Int.reduceEq, Int.reduceLT, Int.reduceLE, arr_pos, arr_neg, ]
 exact ⟨fun _ => h _ _ (by omega) (by simp), fun _ => h _ _ (by omega) (by simp)⟩
def mvT (t : Tm) (n : Int) : Tm := if 2 ≤ t.1 then (t.1, 0, IntKind.i64.wrap (t.2.2.1 + n), IntKind.i64.wrap (t.2.2.2 + n)) else t
theorem C_spec_l1Moved (t : Tm) (n : Int) (Q : List AV → Prop) : mc.C f_spec_l1Moved [⟨I, t.1⟩, ⟨I, t.2.1⟩, ⟨I, t.2.2.1⟩, ⟨I, t.2.2.2⟩, ⟨I, n⟩] Q = Q [⟨I, (mvT t n).1⟩, ⟨I, (mvT t n).2.1⟩, ⟨I, (mvT t n).2.2.1⟩, ⟨I, (mvT t n).2.2.2⟩] := by
 refine Mc.Ends.c (mc.ends F_spec_l1Moved ?_)
 unfold mvT
 by_cases g : 2 ≤ t.1
 ·rw [if_pos g]
  simp (contextual := true) (maxSteps := 1000000) (disch := omega) only [↓Sd, ↓So, ↓Sk, ↓den, ↓denA, Sa, Sb, Sc, Se, O1.d, O2.d, O3.d, cmI, arI, envOf, putN, ↓reduceIte, Nat.reduceLT, Nat.reduceSub, Nat.reduceAdd, Int.reduceAdd, Int.reduceEq, Int.reduceLT, Int.reduceLE, arr_pos, arr_neg, tr_spec_l1Moved]
 ·rw [if_neg g]
  simp (contextual := true) (maxSteps := 1000000) (disch := omega) only [↓Sd, ↓So, ↓Sk, ↓den, ↓denA, Sa, Sb, Sc, Se, O1.d, O2.d, O3.d, cmI, arI, envOf, putN, ↓reduceIte, Nat.reduceLT, Nat.reduceSub, Nat.reduceAdd, Int.reduceAdd, Int.reduceEq, Int.reduceLT, Int.reduceLE, arr_pos, arr_neg, tr_spec_l1Moved]
theorem C_spec_TermsValid (l : List Tm) (vars : Int) (hl : Few l) (Q : List AV → Prop) : mc.C f_spec_TermsValid [⟨L T4, l⟩, ⟨I, vars⟩] Q = Q [⟨B, decide (((kdsOf l vars).length : Int) > 0)⟩] := by
 refine Mc.Ends.c (mc.ends F_spec_TermsValid ?_)
 simp (contextual := true) (maxSteps := 1000000) (disch := omega) only [↓Sd, ↓So, ↓Sk, ↓den, ↓denA, Sa, Sb, Sc, Se, O1.d, O2.d, O3.d, cmI, arI, envOf, putN, ↓reduceIte, Nat.reduceLT, Nat.reduceSub, Nat.reduceAdd, Int.reduceAdd, Int.reduceEq, Int.reduceLT, Int.reduceLE, arr_pos, arr_neg, tr_spec_TermsValid, C_spec_KindsOf l vars hl]
theorem D_Joined (o : Int) (l m : List Tm) (vars : Int) (hl : l.length ≤ 1000) (hm : m.length ≤ 1000) {Q : List AV → Prop} (h : ∀ (r : List Tm), r.length ≤ l.length + m.length + 1 → Q [⟨L T4, r⟩]) : mc.C f_spec_Joined [⟨I, o⟩, ⟨L T4, l⟩, ⟨L T4, m⟩, ⟨I, vars⟩] Q := by
 have h1 : Few l := by unfold Few; omega
 have h2 : Few m := by unfold Few; omega
 refine mc.c_of F_spec_Joined ?_
 simp (contextual := true) (maxSteps := 1000000) (disch := omega) only [↓Sd, ↓So, ↓Sk, ↓den, ↓denA, Sa, Sb, Sc, Se, O1.d, O2.d, O3.d, cmI, arI, envOf, putN, ↓reduceIte, Nat.reduceLT, Nat.reduceSub, Nat.reduceAdd, Int.reduceAdd, Int.reduceEq, Int.reduceLT, Int.reduceLE, arr_pos, arr_neg, tr_spec_Joined, C_spec_TermsValid l vars h1, C_spec_TermsValid m vars h2]
 refine ⟨fun _ => h _ (by simp), fun _ => ⟨fun _ => h _ (by simp), fun _ => ?_⟩⟩
 refine mc.lp_for (List Tm) (fun i s => [⟨I, o⟩, ⟨L T4, l⟩, ⟨L T4, m⟩, ⟨I, vars⟩, ⟨I, (i : Int)⟩, ⟨L T4, s⟩]) (fun i s => s.length = i) l.length 0 [] _ rfl (Nat.zero_le _) rfl ?_ ?_
 ·rintro i s hi hs
  simp (contextual := true) (maxSteps := 1000000) (disch := omega) only [↓Sd, ↓So, ↓Sk, ↓den, ↓denA, Sa, Sb, Sc, Se, O1.d, O2.d, O3.d, cmI, arI, envOf, putN, ↓reduceIte, Nat.reduceLT, Nat.reduceSub, Nat.reduceAdd, Int.reduceAdd, Int.reduceEq, Int.reduceLT, Int.reduceLE, arr_pos, arr_neg, ]
  omega
 rintro s hs
 simp (contextual := true) (maxSteps := 1000000) (disch := omega) only [↓Sd, ↓So, ↓Sk, ↓den, ↓denA, Sa, Sb, Sc, Se, O1.d, O2.d, O3.d, cmI, arI, envOf, putN, ↓reduceIte, Nat.reduceLT, Nat.reduceSub, Nat.reduceAdd, Int.reduceAdd, Int.reduceEq, Int.reduceLT, Int.reduceLE, arr_pos, arr_neg, ↓wpJoin, ]
 refine mc.lp_for (List Tm) (fun i s => [⟨I, o⟩, ⟨L T4, l⟩, ⟨L T4, m⟩, ⟨I, vars⟩, ⟨I, (i : Int)⟩, ⟨L T4, s⟩]) (fun i s => s.length ≤ l.length + i) m.length 0 s _ rfl (Nat.zero_le _) (by omega) ?_ ?_
 ·rintro i s hi hs
  simp (contextual := true) (maxSteps := 1000000) (disch := omega) only [↓Sd, ↓So, ↓Sk, ↓den, ↓denA, Sa, Sb, Sc, Se, O1.d, O2.d, O3.d, cmI, arI, envOf, putN, ↓reduceIte, Nat.reduceLT, Nat.reduceSub, Nat.reduceAdd, Int.reduceAdd, Int.reduceEq, Int.reduceLT, Int.reduceLE, arr_pos, arr_neg, C_spec_l1One, C_spec_l1Moved]
  refine ⟨fun _ => by omega, fun g => ?_⟩
  have hf : Few (s ++ [((7 : Int), (0 : Int), (l.length : Int) - 1, (s.length : Int) - 1)]) := by unfold Few; simp only [List.length_append, List.length_singleton]; omega
  simp (contextual := true) (maxSteps := 1000000) (disch := omega) only [↓Sd, ↓So, ↓Sk, ↓den, ↓denA, Sa, Sb, Sc, Se, O1.d, O2.d, O3.d, cmI, arI, envOf, putN, ↓reduceIte, Nat.reduceLT, Nat.reduceSub, Nat.reduceAdd, Int.reduceAdd, Int.reduceEq, Int.reduceLT, Int.reduceLE, arr_pos, arr_neg, C_spec_TermsValid _ vars hf]
  exact ⟨fun _ => h _ (by simp), fun _ => h _ (by simp only [List.length_append, List.length_singleton]; omega)⟩
 ·rintro s hs
  simp (contextual := true) (maxSteps := 1000000) (disch := omega) only [↓Sd, ↓So, ↓Sk, ↓den, ↓denA, Sa, Sb, Sc, Se, O1.d, O2.d, O3.d, cmI, arI, envOf, putN, ↓reduceIte, Nat.reduceLT, Nat.reduceSub, Nat.reduceAdd, Int.reduceAdd, Int.reduceEq, Int.reduceLT, Int.reduceLE, arr_pos, arr_neg, ]
  refine ⟨fun _ => h _ (by simp), fun _ => ?_⟩
  have hf : Few (s ++ [(o, (0 : Int), (l.length : Int) - 1, (s.length : Int) - 1)]) := by unfold Few; simp only [List.length_append, List.length_singleton]; omega
  simp (contextual := true) (maxSteps := 1000000) (disch := omega) only [↓Sd, ↓So, ↓Sk, ↓den, ↓denA, Sa, Sb, Sc, Se, O1.d, O2.d, O3.d, cmI, arI, envOf, putN, ↓reduceIte, Nat.reduceLT, Nat.reduceSub, Nat.reduceAdd, Int.reduceAdd, Int.reduceEq, Int.reduceLT, Int.reduceLE, arr_pos, arr_neg, C_spec_TermsValid _ vars hf]
  exact ⟨fun _ => h _ (by simp), fun _ => h _ (by simp only [List.length_append, List.length_singleton]; omega)⟩
theorem D_l2When (b : List Int) (p : Int) (vs : List Vr) (hb : Rdy b) (hp : 0 ≤ p ∧ p ≤ 800000000) (hv : 1 ≤ vs.length) (hv2 : vs.length ≤ 1000) {Q : List AV → Prop} (h : ∀ (l : List Tm) (p' : Int), p ≤ p' ∧ p' ≤ p + 10 → l.length ≤ 9 → Q [⟨L T4, l⟩, ⟨RD, (b, p')⟩]) : mc.C f_spec_l2When [⟨RD, (b, p)⟩, ⟨L V3, vs⟩] Q := by
 refine mc.c_of F_spec_l2When ?_
 simp (contextual := true) (maxSteps := 1000000) (disch := omega) only [↓Sd, ↓So, ↓Sk, ↓den, ↓denA, Sa, Sb, Sc, Se, O1.d, O2.d, O3.d, cmI, arI, envOf, putN, ↓reduceIte, Nat.reduceLT, Nat.reduceSub, Nat.reduceAdd, Int.reduceAdd, Int.reduceEq, Int.reduceLT, Int.reduceLE, arr_pos, arr_neg, tr_spec_l2When]
 refine D_pick1 _ _ _ hb (by omega) (by omega) fun i i0 i1 => ?_; simp (contextual := true) (maxSteps := 1000000) (disch := omega) only [↓Sd, ↓So, ↓Sk, ↓den, ↓denA, Sa, Sb, Sc, Se, O1.d, O2.d, O3.d, cmI, arI, envOf, putN, ↓reduceIte, Nat.reduceLT, Nat.reduceSub, Nat.reduceAdd, Int.reduceAdd, Int.reduceEq, Int.reduceLT, Int.reduceLE, arr_pos, arr_neg, ]
 refine D_l2Cond _ _ (vs.getD i.toNat (0, 0, 0)) _ hb (by omega) fun l p1 hp1 hl => ?_
 simp (contextual := true) (maxSteps := 1000000) (disch := omega) only [↓Sd, ↓So, ↓Sk, ↓den, ↓denA, Sa, Sb, Sc, Se, O1.d, O2.d, O3.d, cmI, arI, envOf, putN, ↓reduceIte, Nat.reduceLT, Nat.reduceSub, Nat.reduceAdd, Int.reduceAdd, Int.reduceEq, Int.reduceLT, Int.reduceLE, arr_pos, arr_neg, ↓wpJoin, ]
 refine D_pick1 _ _ _ hb (by omega) (by omega) fun k k0 k1 => ?_; simp (contextual := true) (maxSteps := 1000000) (disch := omega) only [↓Sd, ↓So, ↓Sk, ↓den, ↓denA, Sa, Sb, Sc, Se, O1.d, O2.d, O3.d, cmI, arI, envOf, putN, ↓reduceIte, Nat.reduceLT, Nat.reduceSub, Nat.reduceAdd, Int.reduceAdd, Int.reduceEq, Int.reduceLT, Int.reduceLE, arr_pos, arr_neg, ]
 refine ⟨fun _ => ?_, fun _ => h _ _ (by omega) (by omega)⟩
 refine D_pick1 _ _ _ hb (by omega) (by omega) fun j j0 j1 => ?_; simp (contextual := true) (maxSteps := 1000000) (disch := omega) only [↓Sd, ↓So, ↓Sk, ↓den, ↓denA, Sa, Sb, Sc, Se, O1.d, O2.d, O3.d, cmI, arI, envOf, putN, ↓reduceIte, Nat.reduceLT, Nat.reduceSub, Nat.reduceAdd, Int.reduceAdd, Int.reduceEq, Int.reduceLT, Int.reduceLE, arr_pos, arr_neg, ]
 refine D_num _ _ _ hb (by omega) (by simp) (by simp) fun o o0 => ?_; simp (contextual := true) (maxSteps := 1000000) (disch := omega) only [↓Sd, ↓So, ↓Sk, ↓den, ↓denA, Sa, Sb, Sc, Se, O1.d, O2.d, O3.d, cmI, arI, envOf, putN, ↓reduceIte, Nat.reduceLT, Nat.reduceSub, Nat.reduceAdd, Int.reduceAdd, Int.reduceEq, Int.reduceLT, Int.reduceLE, arr_pos, arr_neg, ]
 refine D_l2Cond _ _ (vs.getD j.toNat (0, 0, 0)) _ hb (by omega) fun m p2 hp2 hm => ?_
 simp (contextual := true) (maxSteps := 1000000) (disch := omega) only [↓Sd, ↓So, ↓Sk, ↓den, ↓denA, Sa, Sb, Sc, Se, O1.d, O2.d, O3.d, cmI, arI, envOf, putN, ↓reduceIte, Nat.reduceLT, Nat.reduceSub, Nat.reduceAdd, Int.reduceAdd, Int.reduceEq, Int.reduceLT, Int.reduceLE, arr_pos, arr_neg, ]
 refine D_Joined _ _ _ _ (by omega) (by omega) fun r hr => ?_
 simp (contextual := true) (maxSteps := 1000000) (disch := omega) only [↓Sd, ↓So, ↓Sk, ↓den, ↓denA, Sa, Sb, Sc, Se, O1.d, O2.d, O3.d, cmI, arI, envOf, putN, ↓reduceIte, Nat.reduceLT, Nat.reduceSub, Nat.reduceAdd, Int.reduceAdd, Int.reduceEq, Int.reduceLT, Int.reduceLE, arr_pos, arr_neg, ↓wpJoin, ]
 exact h _ _ (by omega) (by omega)
theorem D_l1Terms (b : List Int) (p vars kind most : Int) (hb : Rdy b) (hp : 0 ≤ p ∧ p ≤ 800000000) (hv : 0 ≤ vars ∧ vars ≤ 5) (hm : 1 ≤ most ∧ most ≤ 12) {Q : List AV → Prop} (h : ∀ (l : List Tm) (p' : Int), p ≤ p' ∧ p' ≤ p + 400 → 1 ≤ l.length → l.length ≤ 16 → Q [⟨L T4, l⟩, ⟨RD, (b, p')⟩]) : mc.C f_spec_l1Terms [⟨RD, (b, p)⟩, ⟨I, vars⟩, ⟨I, kind⟩, ⟨I, most⟩] Q := by
 refine mc.c_of F_spec_l1Terms ?_
 simp (contextual := true) (maxSteps := 1000000) (disch := omega) only [↓Sd, ↓So, ↓Sk, ↓den, ↓denA, Sa, Sb, Sc, Se, O1.d, O2.d, O3.d, cmI, arI, envOf, putN, ↓reduceIte, Nat.reduceLT, Nat.reduceSub, Nat.reduceAdd, Int.reduceAdd, Int.reduceEq, Int.reduceLT, Int.reduceLE, arr_pos, arr_neg, tr_spec_l1Terms]
 refine D_pick1 _ _ _ hb (by omega) (by omega) fun n n0 n1 => ?_; simp (contextual := true) (maxSteps := 1000000) (disch := omega) only [↓Sd, ↓So, ↓Sk, ↓den, ↓denA, Sa, Sb, Sc, Se, O1.d, O2.d, O3.d, cmI, arI, envOf, putN, ↓reduceIte, Nat.reduceLT, Nat.reduceSub, Nat.reduceAdd, Int.reduceAdd, Int.reduceEq, Int.reduceLT, Int.reduceLE, arr_pos, arr_neg, ]
 obtain ⟨N, hN⟩ : ∃ N : Nat, n = N := ⟨n.toNat, by omega⟩
 subst hN
 refine mc.lp_inv (fun k us => ∃ (p1 : Int) (l : List Tm) (ks : List Int), us = [⟨I, vars⟩, ⟨I, kind⟩, ⟨I, (k : Int)⟩, ⟨L U, b⟩, ⟨I, p1⟩, ⟨L T4, l⟩, ⟨L I, ks⟩] ∧ l.length = ks.length ∧ l.length + k ≤ 2 + N ∧ p ≤ p1 ∧ p1 + 20 * k ≤ p + 1 + 20 * (2 + N)) (2 + N) _ ⟨p + 1, [], [], by simp, rfl, by simp, by omega, by omega⟩ ?_
 rintro k us ⟨p1, l, ks, rfl, i1, i2, i3, i4⟩
 cases k with
 | zero =>
  simp (contextual := true) (maxSteps := 1000000) (disch := omega) only [↓Sd, ↓So, ↓Sk, ↓den, ↓denA, Sa, Sb, Sc, Se, O1.d, O2.d, O3.d, cmI, arI, envOf, putN, ↓reduceIte, Nat.reduceLT, Nat.reduceSub, Nat.reduceAdd, Int.reduceAdd, Int.reduceEq, Int.reduceLT, Int.reduceLE, arr_pos, arr_neg, ]
  refine mc.wp_join (fun us => ∃ (l : List Tm) (ks : List Int), us = [⟨I, kind⟩, ⟨L U, b⟩, ⟨I, p1⟩, ⟨L T4, l⟩, ⟨L I, ks⟩] ∧ l.length = ks.length ∧ 1 ≤ l.length ∧ l.length ≤ 14) ?_ ?_
  ·simp (contextual := true) (maxSteps := 1000000) (disch := omega) only [↓Sd, ↓So, ↓Sk, ↓den, ↓denA, Sa, Sb, Sc, Se, O1.d, O2.d, O3.d, cmI, arI, envOf, putN, ↓reduceIte, Nat.reduceLT, Nat.reduceSub, Nat.reduceAdd, Int.reduceAdd, Int.reduceEq, Int.reduceLT, Int.reduceLE, arr_pos, arr_neg, ]
   refine ⟨fun g => ⟨_, _, ⟨rfl, rfl⟩, by simp [i1], by simp, ?_⟩, fun g => ⟨l, ks, ⟨rfl, rfl⟩, i1, by omega, by omega⟩⟩
   simp only [List.length_append, List.length_singleton]; omega
  ·rintro us ⟨l, ks, rfl, a1, a2, a3⟩
   refine mc.wp_join (fun us => ∃ (p2 : Int) (l : List Tm), us = [⟨L U, b⟩, ⟨I, p2⟩, ⟨L T4, l⟩] ∧ p ≤ p2 ∧ p2 ≤ p + 390 ∧ 1 ≤ l.length ∧ l.length ≤ 16) ?_ ?_
   ·have ln1 : ∀ x : Tm, 1 ≤ (l ++ [x]).length ∧ (l ++ [x]).length ≤ 16 := fun x => by simp only [List.length_append, List.length_singleton]; omega
    simp (contextual := true) (maxSteps := 1000000) (disch := omega) only [↓Sd, ↓So, ↓Sk, ↓den, ↓denA, Sa, Sb, Sc, Se, O1.d, O2.d, O3.d, cmI, arI, envOf, putN, ↓reduceIte, Nat.reduceLT, Nat.reduceSub, Nat.reduceAdd, Int.reduceAdd, Int.reduceEq, Int.reduceLT, Int.reduceLE, arr_pos, arr_neg, ]
    refine ⟨fun _ => ⟨fun _ => ?_, fun _ => ⟨_, _, ⟨rfl, rfl⟩, by omega, by omega, by omega, by omega⟩⟩, fun _ => ⟨fun _ => ⟨fun _ => ?_, fun _ => ⟨_, _, ⟨rfl, rfl⟩, by omega, by omega, by omega, by omega⟩⟩, fun _ => ⟨_, _, ⟨rfl, rfl⟩, by omega, by omega, by omega, by omega⟩⟩⟩
    ·refine D_num _ _ _ hb (by omega) (by simp) (by simp) fun o o0 => ?_; simp (contextual := true) (maxSteps := 1000000) (disch := omega) only [↓Sd, ↓So, ↓Sk, ↓den, ↓denA, Sa, Sb, Sc, Se, O1.d, O2.d, O3.d, cmI, arI, envOf, putN, ↓reduceIte, Nat.reduceLT, Nat.reduceSub, Nat.reduceAdd, Int.reduceAdd, Int.reduceEq, Int.reduceLT, Int.reduceLE, arr_pos, arr_neg, ]
     refine D_l1Pick _ _ _ _ hb (by omega) (by omega) (by omega) fun x hx => ?_
     simp (contextual := true) (maxSteps := 1000000) (disch := omega) only [↓Sd, ↓So, ↓Sk, ↓den, ↓denA, Sa, Sb, Sc, Se, O1.d, O2.d, O3.d, cmI, arI, envOf, putN, ↓reduceIte, Nat.reduceLT, Nat.reduceSub, Nat.reduceAdd, Int.reduceAdd, Int.reduceEq, Int.reduceLT, Int.reduceLE, arr_pos, arr_neg, ]
     exact ⟨_, _, ⟨rfl, rfl⟩, by omega, by omega, (ln1 _).1, (ln1 _).2⟩
    ·refine D_l1Pick _ _ _ _ hb (by omega) (by omega) (by omega) fun x hx => ?_
     simp (contextual := true) (maxSteps := 1000000) (disch := omega) only [↓Sd, ↓So, ↓Sk, ↓den, ↓denA, Sa, Sb, Sc, Se, O1.d, O2.d, O3.d, cmI, arI, envOf, putN, ↓reduceIte, Nat.reduceLT, Nat.reduceSub, Nat.reduceAdd, Int.reduceAdd, Int.reduceEq, Int.reduceLT, Int.reduceLE, arr_pos, arr_neg, ]
     refine D_num _ _ _ hb (by omega) (by simp) (by simp) fun o o0 => ?_; simp (contextual := true) (maxSteps := 1000000) (disch := omega) only [↓Sd, ↓So, ↓Sk, ↓den, ↓denA, Sa, Sb, Sc, Se, O1.d, O2.d, O3.d, cmI, arI, envOf, putN, ↓reduceIte, Nat.reduceLT, Nat.reduceSub, Nat.reduceAdd, Int.reduceAdd, Int.reduceEq, Int.reduceLT, Int.reduceLE, arr_pos, arr_neg, ]
     refine D_l1Pick _ _ _ _ hb (by omega) (by omega) (by omega) fun y hy => ?_
     simp (contextual := true) (maxSteps := 1000000) (disch := omega) only [↓Sd, ↓So, ↓Sk, ↓den, ↓denA, Sa, Sb, Sc, Se, O1.d, O2.d, O3.d, cmI, arI, envOf, putN, ↓reduceIte, Nat.reduceLT, Nat.reduceSub, Nat.reduceAdd, Int.reduceAdd, Int.reduceEq, Int.reduceLT, Int.reduceLE, arr_pos, arr_neg, ]
     exact ⟨_, _, ⟨rfl, rfl⟩, by omega, by omega, (ln1 _).1, (ln1 _).2⟩
   ·rintro us ⟨p2, l, rfl, c1, c2, c3, c4⟩
    simp (contextual := true) (maxSteps := 1000000) (disch := omega) only [↓Sd, ↓So, ↓Sk, ↓den, ↓denA, Sa, Sb, Sc, Se, O1.d, O2.d, O3.d, cmI, arI, envOf, putN, ↓reduceIte, Nat.reduceLT, Nat.reduceSub, Nat.reduceAdd, Int.reduceAdd, Int.reduceEq, Int.reduceLT, Int.reduceLE, arr_pos, arr_neg, ]
    exact h _ _ (by omega) (by omega) (by omega)
 | succ k =>
  simp (contextual := true) (maxSteps := 1000000) (disch := omega) only [↓Sd, ↓So, ↓Sk, ↓den, ↓denA, Sa, Sb, Sc, Se, O1.d, O2.d, O3.d, cmI, arI, envOf, putN, ↓reduceIte, Nat.reduceLT, Nat.reduceSub, Nat.reduceAdd, Int.reduceAdd, Int.reduceEq, Int.reduceLT, Int.reduceLE, arr_pos, arr_neg, ]
  refine mc.wp_join (fun us => ∃ (p2 : Int) (l : List Tm) (ks : List Int), us = [⟨I, vars⟩, ⟨I, kind⟩, ⟨I, (k : Int) + 1⟩, ⟨L U, b⟩, ⟨I, p2⟩, ⟨L T4, l⟩, ⟨L I, ks⟩] ∧ l.length = ks.length ∧ l.length + k ≤ 2 + N ∧ p ≤ p2 ∧ p2 + 20 * k ≤ p + 1 + 20 * (2 + N)) ?_ ?_
  ·simp (contextual := true) (maxSteps := 1000000) (disch := omega) only [↓Sd, ↓So, ↓Sk, ↓den, ↓denA, Sa, Sb, Sc, Se, O1.d, O2.d, O3.d, cmI, arI, envOf, putN, ↓reduceIte, Nat.reduceLT, Nat.reduceSub, Nat.reduceAdd, Int.reduceAdd, Int.reduceEq, Int.reduceLT, Int.reduceLE, arr_pos, arr_neg, ]
   refine D_num _ _ _ hb (by omega) (by simp) (by simp) fun o o0 => ?_; simp (contextual := true) (maxSteps := 1000000) (disch := omega) only [↓Sd, ↓So, ↓Sk, ↓den, ↓denA, Sa, Sb, Sc, Se, O1.d, O2.d, O3.d, cmI, arI, envOf, putN, ↓reduceIte, Nat.reduceLT, Nat.reduceSub, Nat.reduceAdd, Int.reduceAdd, Int.reduceEq, Int.reduceLT, Int.reduceLE, arr_pos, arr_neg, ]
   refine mc.wp_join (fun us => ∃ (p2 : Int) (t : Tm), us = [⟨I, vars⟩, ⟨I, kind⟩, ⟨I, (k : Int) + 1⟩, ⟨L U, b⟩, ⟨I, p2⟩, ⟨L T4, l⟩, ⟨L I, ks⟩, ⟨I, t.1⟩, ⟨I, t.2.1⟩, ⟨I, t.2.2.1⟩, ⟨I, t.2.2.2⟩] ∧ p ≤ p2 ∧ p2 ≤ p1 + 10) ?_ ?_
   ·simp (contextual := true) (maxSteps := 1000000) (disch := omega) only [↓Sd, ↓So, ↓Sk, ↓den, ↓denA, Sa, Sb, Sc, Se, O1.d, O2.d, O3.d, cmI, arI, envOf, putN, ↓reduceIte, Nat.reduceLT, Nat.reduceSub, Nat.reduceAdd, Int.reduceAdd, Int.reduceEq, Int.reduceLT, Int.reduceLE, arr_pos, arr_neg, ]
    refine ⟨fun g => ?_, fun g => ⟨fun g2 => ?_, fun g2 => ?_⟩⟩
    ·refine D_l1Number _ _ hb (by omega) fun x p2 hp2 => ?_
     simp (contextual := true) (maxSteps := 1000000) (disch := omega) only [↓Sd, ↓So, ↓Sk, ↓den, ↓denA, Sa, Sb, Sc, Se, O1.d, O2.d, O3.d, cmI, arI, envOf, putN, ↓reduceIte, Nat.reduceLT, Nat.reduceSub, Nat.reduceAdd, Int.reduceAdd, Int.reduceEq, Int.reduceLT, Int.reduceLE, arr_pos, arr_neg, ]
     refine ⟨fun _ => ⟨fun _ => ?_, fun _ => ⟨_, ((0 : Int), x, (0 : Int), (0 : Int)), ⟨rfl, rfl, rfl, rfl, rfl⟩, by omega, by omega⟩⟩, fun _ => ⟨_, ((0 : Int), x, (0 : Int), (0 : Int)), ⟨rfl, rfl, rfl, rfl, rfl⟩, by omega, by omega⟩⟩
     refine D_pick1 _ _ _ hb (by omega) (by omega) fun y y0 y1 => ?_; simp (contextual := true) (maxSteps := 1000000) (disch := omega) only [↓Sd, ↓So, ↓Sk, ↓den, ↓denA, Sa, Sb, Sc, Se, O1.d, O2.d, O3.d, cmI, arI, envOf, putN, ↓reduceIte, Nat.reduceLT, Nat.reduceSub, Nat.reduceAdd, Int.reduceAdd, Int.reduceEq, Int.reduceLT, Int.reduceLE, arr_pos, arr_neg, ]
     exact ⟨_, ((1 : Int), y, (0 : Int), (0 : Int)), ⟨rfl, rfl, rfl, rfl, rfl⟩, by omega, by omega⟩
    ·refine D_l1Number _ _ hb (by omega) fun x p2 hp2 => ?_
     simp (contextual := true) (maxSteps := 1000000) (disch := omega) only [↓Sd, ↓So, ↓Sk, ↓den, ↓denA, Sa, Sb, Sc, Se, O1.d, O2.d, O3.d, cmI, arI, envOf, putN, ↓reduceIte, Nat.reduceLT, Nat.reduceSub, Nat.reduceAdd, Int.reduceAdd, Int.reduceEq, Int.reduceLT, Int.reduceLE, arr_pos, arr_neg, ]
     refine ⟨fun _ => ⟨fun _ => ?_, fun _ => ⟨_, ((0 : Int), x, (0 : Int), (0 : Int)), ⟨rfl, rfl, rfl, rfl, rfl⟩, by omega, by omega⟩⟩, fun _ => ⟨_, ((0 : Int), x, (0 : Int), (0 : Int)), ⟨rfl, rfl, rfl, rfl, rfl⟩, by omega, by omega⟩⟩
     refine D_pick1 _ _ _ hb (by omega) (by omega) fun y y0 y1 => ?_; simp (contextual := true) (maxSteps := 1000000) (disch := omega) only [↓Sd, ↓So, ↓Sk, ↓den, ↓denA, Sa, Sb, Sc, Se, O1.d, O2.d, O3.d, cmI, arI, envOf, putN, ↓reduceIte, Nat.reduceLT, Nat.reduceSub, Nat.reduceAdd, Int.reduceAdd, Int.reduceEq, Int.reduceLT, Int.reduceLE, arr_pos, arr_neg, ]
     exact ⟨_, ((1 : Int), y, (0 : Int), (0 : Int)), ⟨rfl, rfl, rfl, rfl, rfl⟩, by omega, by omega⟩
    ·refine mc.wp_join (fun us => ∃ w : Int, us = [⟨I, vars⟩, ⟨I, kind⟩, ⟨I, (k : Int) + 1⟩, ⟨I, o⟩, ⟨I, w⟩, ⟨L U, b⟩, ⟨I, p1 + 1⟩, ⟨L T4, l⟩, ⟨L I, ks⟩, ⟨I, o⟩, ⟨I, (0 : Int)⟩, ⟨I, (0 : Int)⟩, ⟨I, (0 : Int)⟩]) ?_ ?_
     ·simp (contextual := true) (maxSteps := 1000000) (disch := omega) only [↓Sd, ↓So, ↓Sk, ↓den, ↓denA, Sa, Sb, Sc, Se, O1.d, O2.d, O3.d, cmI, arI, envOf, putN, ↓reduceIte, Nat.reduceLT, Nat.reduceSub, Nat.reduceAdd, Int.reduceAdd, Int.reduceEq, Int.reduceLT, Int.reduceLE, arr_pos, arr_neg, ]
      exact ⟨fun _ => ⟨2, rfl⟩, fun _ => ⟨1, rfl⟩⟩
     ·rintro us ⟨w, rfl⟩
      simp (contextual := true) (maxSteps := 1000000) (disch := omega) only [↓Sd, ↓So, ↓Sk, ↓den, ↓denA, Sa, Sb, Sc, Se, O1.d, O2.d, O3.d, cmI, arI, envOf, putN, ↓reduceIte, Nat.reduceLT, Nat.reduceSub, Nat.reduceAdd, Int.reduceAdd, Int.reduceEq, Int.reduceLT, Int.reduceLE, arr_pos, arr_neg, ]
      refine D_l1Pick _ _ _ _ hb (by omega) (by omega) (by omega) fun x hx => ?_
      simp (contextual := true) (maxSteps := 1000000) (disch := omega) only [↓Sd, ↓So, ↓Sk, ↓den, ↓denA, Sa, Sb, Sc, Se, O1.d, O2.d, O3.d, cmI, arI, envOf, putN, ↓reduceIte, Nat.reduceLT, Nat.reduceSub, Nat.reduceAdd, Int.reduceAdd, Int.reduceEq, Int.reduceLT, Int.reduceLE, arr_pos, arr_neg, ]
      refine D_l1Pick _ _ _ _ hb (by omega) (by omega) (by omega) fun y hy => ?_
      simp (contextual := true) (maxSteps := 1000000) (disch := omega) only [↓Sd, ↓So, ↓Sk, ↓den, ↓denA, Sa, Sb, Sc, Se, O1.d, O2.d, O3.d, cmI, arI, envOf, putN, ↓reduceIte, Nat.reduceLT, Nat.reduceSub, Nat.reduceAdd, Int.reduceAdd, Int.reduceEq, Int.reduceLT, Int.reduceLE, arr_pos, arr_neg, C_spec_l1One]
      exact ⟨fun _ => ⟨_, ((7 : Int), (0 : Int), x, x), ⟨rfl, rfl, rfl, rfl, rfl⟩, by omega, by omega⟩, fun _ => ⟨_, (o, (0 : Int), x, y), ⟨rfl, rfl, rfl, rfl, rfl⟩, by omega, by omega⟩⟩
   ·rintro us ⟨p2, t, rfl, c1, c2⟩
    simp (contextual := true) (maxSteps := 1000000) (disch := omega) only [↓Sd, ↓So, ↓Sk, ↓den, ↓denA, Sa, Sb, Sc, Se, O1.d, O2.d, O3.d, cmI, arI, envOf, putN, ↓reduceIte, Nat.reduceLT, Nat.reduceSub, Nat.reduceAdd, Int.reduceAdd, Int.reduceEq, Int.reduceLT, Int.reduceLE, arr_pos, arr_neg, C_spec_l1Kind t ks vars hv (by omega)]
    refine ⟨fun _ => ⟨_, _, _, ⟨rfl, rfl, rfl⟩, ?_, ?_, by omega, by omega⟩, fun _ => ⟨_, _, _, ⟨rfl, rfl, rfl⟩, i1, by omega, by omega, by omega⟩⟩
    ·simp only [List.length_append, List.length_singleton]; omega
    ·simp only [List.length_append, List.length_singleton]; omega
  ·rintro us ⟨p2, l, ks, rfl, a1, a2, a3, a4⟩
   simp (contextual := true) (maxSteps := 1000000) (disch := omega) only [↓Sd, ↓So, ↓Sk, ↓den, ↓denA, Sa, Sb, Sc, Se, O1.d, O2.d, O3.d, cmI, arI, envOf, putN, ↓reduceIte, Nat.reduceLT, Nat.reduceSub, Nat.reduceAdd, Int.reduceAdd, Int.reduceEq, Int.reduceLT, Int.reduceLE, arr_pos, arr_neg, ]
   exact ⟨k, by omega, p2, l, ks, ⟨rfl, rfl, rfl, rfl⟩, a1, a2, a3, a4⟩
theorem D_l2Value (b : List Int) (p : Int) (vs : List Vr) (k : Int) (i : Nat) (hk : k = i) (hb : Rdy b) (hp : 0 ≤ p ∧ p ≤ 700000000) (hv : vs.length ≤ 5) (hi : i < vs.length) {Q : List AV → Prop} (h : ∀ (l : List Tm) (p' : Int), p ≤ p' ∧ p' ≤ p + 500 → l.length ≤ 16 → Q [⟨L T4, l⟩, ⟨RD, (b, p')⟩]) : mc.C f_spec_l2Value [⟨RD, (b, p)⟩, ⟨L V3, vs⟩, ⟨I, k⟩] Q := by
 subst hk
 refine mc.c_of F_spec_l2Value ?_
 simp (contextual := true) (maxSteps := 1000000) (disch := omega) only [↓Sd, ↓So, ↓Sk, ↓den, ↓denA, Sa, Sb, Sc, Se, O1.d, O2.d, O3.d, cmI, arI, envOf, putN, ↓reduceIte, Nat.reduceLT, Nat.reduceSub, Nat.reduceAdd, Int.reduceAdd, Int.reduceEq, Int.reduceLT, Int.reduceLE, arr_pos, arr_neg, tr_spec_l2Value]
 refine D_pick1 _ _ _ hb (by omega) (by omega) fun k k0 k1 => ?_; simp (contextual := true) (maxSteps := 1000000) (disch := omega) only [↓Sd, ↓So, ↓Sk, ↓den, ↓denA, Sa, Sb, Sc, Se, O1.d, O2.d, O3.d, cmI, arI, envOf, putN, ↓reduceIte, Nat.reduceLT, Nat.reduceSub, Nat.reduceAdd, Int.reduceAdd, Int.reduceEq, Int.reduceLT, Int.reduceLE, arr_pos, arr_neg, ]
 refine ⟨fun _ => ?_, fun _ => ⟨fun _ => ?_, fun _ => ⟨fun _ => ?_, fun _ => ?_⟩⟩⟩
 ·simp (contextual := true) (maxSteps := 1000000) (disch := omega) only [↓Sd, ↓So, ↓Sk, ↓den, ↓denA, Sa, Sb, Sc, Se, O1.d, O2.d, O3.d, cmI, arI, envOf, putN, ↓reduceIte, Nat.reduceLT, Nat.reduceSub, Nat.reduceAdd, Int.reduceAdd, Int.reduceEq, Int.reduceLT, Int.reduceLE, arr_pos, arr_neg, C_spec_l2VarOf, C_spec_l2Const]
  refine D_num _ _ _ hb (by omega) (by simp) (by simp) fun o o0 => ?_; simp (contextual := true) (maxSteps := 1000000) (disch := omega) only [↓Sd, ↓So, ↓Sk, ↓den, ↓denA, Sa, Sb, Sc, Se, O1.d, O2.d, O3.d, cmI, arI, envOf, putN, ↓reduceIte, Nat.reduceLT, Nat.reduceSub, Nat.reduceAdd, Int.reduceAdd, Int.reduceEq, Int.reduceLT, Int.reduceLE, arr_pos, arr_neg, ]
  exact h _ _ (by omega) (by simp)
 ·refine D_pick _ _ _ hb (by omega) fun n _ _ => ?_
  simp (contextual := true) (maxSteps := 1000000) (disch := omega) only [↓Sd, ↓So, ↓Sk, ↓den, ↓denA, Sa, Sb, Sc, Se, O1.d, O2.d, O3.d, cmI, arI, envOf, putN, ↓reduceIte, Nat.reduceLT, Nat.reduceSub, Nat.reduceAdd, Int.reduceAdd, Int.reduceEq, Int.reduceLT, Int.reduceLE, arr_pos, arr_neg, ↓wpJoin, C_spec_l2Const]
  exact h _ _ (by omega) (by simp)
 ·refine D_pick1 _ _ _ hb (by omega) (by omega) fun n n0 n1 => ?_; simp (contextual := true) (maxSteps := 1000000) (disch := omega) only [↓Sd, ↓So, ↓Sk, ↓den, ↓denA, Sa, Sb, Sc, Se, O1.d, O2.d, O3.d, cmI, arI, envOf, putN, ↓reduceIte, Nat.reduceLT, Nat.reduceSub, Nat.reduceAdd, Int.reduceAdd, Int.reduceEq, Int.reduceLT, Int.reduceLE, arr_pos, arr_neg, ]
  simp (contextual := true) (maxSteps := 1000000) (disch := omega) only [↓Sd, ↓So, ↓Sk, ↓den, ↓denA, Sa, Sb, Sc, Se, O1.d, O2.d, O3.d, cmI, arI, envOf, putN, ↓reduceIte, Nat.reduceLT, Nat.reduceSub, Nat.reduceAdd, Int.reduceAdd, Int.reduceEq, Int.reduceLT, Int.reduceLE, arr_pos, arr_neg, C_spec_l2VarOf]
  exact h _ _ (by omega) (by simp)
 ·refine D_l1Terms _ _ _ _ _ hb (by omega) (by omega) (by omega) fun l p2 h1 h2 h3 => ?_
  simp (contextual := true) (maxSteps := 1000000) (disch := omega) only [↓Sd, ↓So, ↓Sk, ↓den, ↓denA, Sa, Sb, Sc, Se, O1.d, O2.d, O3.d, cmI, arI, envOf, putN, ↓reduceIte, Nat.reduceLT, Nat.reduceSub, Nat.reduceAdd, Int.reduceAdd, Int.reduceEq, Int.reduceLT, Int.reduceLE, arr_pos, arr_neg, ]
  exact h _ _ (by omega) (by omega)
def SmRu (r : Ru) : Prop := r.1.length ≤ 100 ∧ r.2.1.length ≤ 100 ∧ r.2.2.length ≤ 100 ∧ ∀ x ∈ r.2.2, x.length ≤ 100
def SmR5 (r : Ru) : Prop := r.1.length ≤ 50 ∧ r.2.1.length ≤ 50 ∧ r.2.2.length ≤ 50 ∧ ∀ x ∈ r.2.2, x.length ≤ 50
theorem SmR5.sm {r : Ru} (h : SmR5 r) : SmRu r := ⟨by have := h.1; omega, by have := h.2.1; omega, by have := h.2.2.1; omega, fun x hx => by have := h.2.2.2 x hx; omega⟩
def SmSy (s : Sy) : Prop := s.1.length ≤ 3 ∧ s.2.length ≤ 9 ∧ ∀ r ∈ s.2, SmRu r
theorem SmSy.few {s : Sy} (h : SmSy s) : FewSy s := by
 refine ⟨by have := h.1; unfold Few; omega, by have := h.2.1; unfold Few; omega, fun r hr => ?_⟩
 have h1 := h.2.2 r hr
 exact ⟨by have := h1.1; unfold Few; omega, by have := h1.2.1; unfold Few; omega, by have := h1.2.2.1; unfold Few; omega, fun x hx => by have := h1.2.2.2 x hx; unfold Few; omega⟩
theorem D_l2Rules (b : List Int) (p : Int) (vs : List Vr) (many : Nat) (hb : Rdy b) (hp : 0 ≤ p ∧ p ≤ 600000000) (hv1 : 1 ≤ vs.length) (hv : vs.length ≤ 3) (hm : many ≤ 9) {Q : List AV → Prop} (h : ∀ (l : List Ru) (p' : Int), p ≤ p' ∧ p' ≤ p + 20000 → l.length ≤ many → (∀ r ∈ l, SmR5 r) → Q [⟨L TR, l⟩, ⟨RD, (b, p')⟩]) : mc.C f_spec_l2Rules [⟨RD, (b, p)⟩, ⟨L V3, vs⟩, ⟨I, (many : Int)⟩] Q := by
 refine mc.c_of F_spec_l2Rules ?_
 simp (contextual := true) (maxSteps := 1000000) (disch := omega) only [↓Sd, ↓So, ↓Sk, ↓den, ↓denA, Sa, Sb, Sc, Se, O1.d, O2.d, O3.d, cmI, arI, envOf, putN, ↓reduceIte, Nat.reduceLT, Nat.reduceSub, Nat.reduceAdd, Int.reduceAdd, Int.reduceEq, Int.reduceLT, Int.reduceLE, arr_pos, arr_neg, tr_spec_l2Rules]
 refine mc.lp_for (Int × List Ru) (fun i s => [⟨L V3, vs⟩, ⟨I, (many : Int)⟩, ⟨I, (i : Int)⟩, ⟨L U, b⟩, ⟨I, s.1⟩, ⟨L TR, s.2⟩]) (fun i s => p ≤ s.1 ∧ s.1 ≤ p + 2000 * i ∧ s.2.length = i ∧ ∀ r ∈ s.2, SmR5 r) many 0 (p, []) _ rfl (Nat.zero_le _) ⟨by simp, by simp, rfl, by simp⟩ ?_ ?_
 ·rintro i ⟨p1, l⟩ hi ⟨a1, a2, a3, a4⟩
  simp only at a1 a2 a3 a4
  simp (contextual := true) (maxSteps := 1000000) (disch := omega) only [↓Sd, ↓So, ↓Sk, ↓den, ↓denA, Sa, Sb, Sc, Se, O1.d, O2.d, O3.d, cmI, arI, envOf, putN, ↓reduceIte, Nat.reduceLT, Nat.reduceSub, Nat.reduceAdd, Int.reduceAdd, Int.reduceEq, Int.reduceLT, Int.reduceLE, arr_pos, arr_neg, ]
  refine D_l2When _ _ _ hb (by omega) hv1 (by omega) fun w p2 hp2 hw => ?_
  simp (contextual := true) (maxSteps := 1000000) (disch := omega) only [↓Sd, ↓So, ↓Sk, ↓den, ↓denA, Sa, Sb, Sc, Se, O1.d, O2.d, O3.d, cmI, arI, envOf, putN, ↓reduceIte, Nat.reduceLT, Nat.reduceSub, Nat.reduceAdd, Int.reduceAdd, Int.reduceEq, Int.reduceLT, Int.reduceLE, arr_pos, arr_neg, ]
  refine mc.lp_for (Int × List Int × List (List Tm)) (fun j s => [⟨L V3, vs⟩, ⟨I, (many : Int)⟩, ⟨I, (i : Int)⟩, ⟨I, (j : Int)⟩, ⟨L U, b⟩, ⟨I, s.1⟩, ⟨L TR, l⟩, ⟨L T4, w⟩, ⟨L I, s.2.1⟩, ⟨L (L T4), s.2.2⟩]) (fun j s => p2 ≤ s.1 ∧ s.1 ≤ p2 + 510 * j ∧ s.2.1.length ≤ j ∧ s.2.2.length ≤ j ∧ ∀ x ∈ s.2.2, x.length ≤ 16) vs.length 0 (p2, [], []) _ rfl (Nat.zero_le _) ⟨by simp, by simp, by simp, by simp, by simp⟩ ?_ ?_
  ·rintro j ⟨p3, ss, ts⟩ hj ⟨c1, c2, c3, c4, c5⟩
   simp only at c1 c2 c3 c4 c5
   have app : ∀ (x : List Tm), x.length ≤ 16 → ∀ y ∈ ts ++ [x], y.length ≤ 16 := fun x hx y hy => (List.mem_append.1 hy).elim (c5 y) fun hy => by rw [List.mem_singleton.1 hy]; exact hx
   have l1 : ∀ x, (ss ++ [x]).length = ss.length + 1 := fun x => by simp
   have l2 : ∀ x, (ts ++ [x]).length = ts.length + 1 := fun x => by simp
   simp (contextual := true) (maxSteps := 1000000) (disch := omega) only [↓Sd, ↓So, ↓Sk, ↓den, ↓denA, Sa, Sb, Sc, Se, O1.d, O2.d, O3.d, cmI, arI, envOf, putN, ↓reduceIte, Nat.reduceLT, Nat.reduceSub, Nat.reduceAdd, Int.reduceAdd, Int.reduceEq, Int.reduceLT, Int.reduceLE, arr_pos, arr_neg, ↓wpJoin, ]
   refine D_pick1 _ _ _ hb (by omega) (by omega) fun a a0 a1 => ?_; simp (contextual := true) (maxSteps := 1000000) (disch := omega) only [↓Sd, ↓So, ↓Sk, ↓den, ↓denA, Sa, Sb, Sc, Se, O1.d, O2.d, O3.d, cmI, arI, envOf, putN, ↓reduceIte, Nat.reduceLT, Nat.reduceSub, Nat.reduceAdd, Int.reduceAdd, Int.reduceEq, Int.reduceLT, Int.reduceLE, arr_pos, arr_neg, ]
   refine ⟨fun _ => ?_, fun _ => ⟨fun _ => ⟨fun _ => ?_, fun _ => ?_⟩, fun _ => ?_⟩⟩
   ·refine D_l2Value _ _ _ _ j (by omega) hb (by omega) (by omega) hj fun x p4 hp4 hx => ?_
    simp (contextual := true) (maxSteps := 1000000) (disch := omega) only [↓Sd, ↓So, ↓Sk, ↓den, ↓denA, Sa, Sb, Sc, Se, O1.d, O2.d, O3.d, cmI, arI, envOf, putN, ↓reduceIte, Nat.reduceLT, Nat.reduceSub, Nat.reduceAdd, Int.reduceAdd, Int.reduceEq, Int.reduceLT, Int.reduceLE, arr_pos, arr_neg, ↓wpJoin, ]
    exact ⟨(_, _, _), ⟨rfl, rfl, rfl⟩, by dsimp only; omega, by dsimp only; omega, by dsimp only; rw [l1]; omega, by dsimp only; rw [l2]; omega, app x hx⟩
   ·refine D_pick1 _ _ _ hb (by omega) (by omega) fun c c0 c1 => ?_; simp (contextual := true) (maxSteps := 1000000) (disch := omega) only [↓Sd, ↓So, ↓Sk, ↓den, ↓denA, Sa, Sb, Sc, Se, O1.d, O2.d, O3.d, cmI, arI, envOf, putN, ↓reduceIte, Nat.reduceLT, Nat.reduceSub, Nat.reduceAdd, Int.reduceAdd, Int.reduceEq, Int.reduceLT, Int.reduceLE, arr_pos, arr_neg, ]
    refine ⟨fun _ => ?_, fun _ => ?_⟩
    ·refine D_l2Value _ _ _ _ j (by omega) hb (by omega) (by omega) hj fun x p4 hp4 hx => ?_
     simp (contextual := true) (maxSteps := 1000000) (disch := omega) only [↓Sd, ↓So, ↓Sk, ↓den, ↓denA, Sa, Sb, Sc, Se, O1.d, O2.d, O3.d, cmI, arI, envOf, putN, ↓reduceIte, Nat.reduceLT, Nat.reduceSub, Nat.reduceAdd, Int.reduceAdd, Int.reduceEq, Int.reduceLT, Int.reduceLE, arr_pos, arr_neg, ↓wpJoin, ]
     exact ⟨(_, _, _), ⟨rfl, rfl, rfl⟩, by dsimp only; omega, by dsimp only; omega, by dsimp only; rw [l1]; omega, by dsimp only; rw [l2]; omega, app x hx⟩
    ·exact ⟨(_, _, _), ⟨rfl, rfl, rfl⟩, by dsimp only; omega, by dsimp only; omega, by dsimp only; omega, by dsimp only; omega, c5⟩
   ·exact ⟨(_, _, _), ⟨rfl, rfl, rfl⟩, by dsimp only; omega, by dsimp only; omega, by dsimp only; omega, by dsimp only; omega, c5⟩
   ·exact ⟨(_, _, _), ⟨rfl, rfl, rfl⟩, by dsimp only; omega, by dsimp only; omega, by dsimp only; omega, by dsimp only; omega, c5⟩
  ·rintro ⟨p3, ss, ts⟩ ⟨c1, c2, c3, c4, c5⟩
   simp only at c1 c2 c3 c4 c5
   simp (contextual := true) (maxSteps := 1000000) (disch := omega) only [↓Sd, ↓So, ↓Sk, ↓den, ↓denA, Sa, Sb, Sc, Se, O1.d, O2.d, O3.d, cmI, arI, envOf, putN, ↓reduceIte, Nat.reduceLT, Nat.reduceSub, Nat.reduceAdd, Int.reduceAdd, Int.reduceEq, Int.reduceLT, Int.reduceLE, arr_pos, arr_neg, ]
   refine ⟨(_, _), ⟨rfl, rfl⟩, by dsimp only; omega, by dsimp only; omega, by dsimp only; simp [a3], fun r hr => ?_⟩
   rcases List.mem_append.1 hr with hr | hr
   ·exact a4 r hr
   ·rw [List.mem_singleton.1 hr]
    exact ⟨by dsimp only; omega, by dsimp only; omega, by dsimp only; omega, fun x hx => by have := c5 x hx; omega⟩
 ·rintro ⟨p1, l⟩ ⟨a1, a2, a3, a4⟩
  simp only at a1 a2 a3 a4
  simp (contextual := true) (maxSteps := 1000000) (disch := omega) only [↓Sd, ↓So, ↓Sk, ↓den, ↓denA, Sa, Sb, Sc, Se, O1.d, O2.d, O3.d, cmI, arI, envOf, putN, ↓reduceIte, Nat.reduceLT, Nat.reduceSub, Nat.reduceAdd, Int.reduceAdd, Int.reduceEq, Int.reduceLT, Int.reduceLE, arr_pos, arr_neg, ]
  exact h _ _ (by omega) (by omega) a4
theorem D_l2System (b : List Int) (p most : Int) (hb : Rdy b) (hp : 0 ≤ p ∧ p ≤ 500000000) {Q : List AV → Prop} (h : ∀ (s : Sy) (p' : Int), p ≤ p' ∧ p' ≤ p + 30000 → SmSy s → 1 ≤ s.1.length → s.2.length ≤ 4 → (∀ r ∈ s.2, SmR5 r) → Q [⟨L V3, s.1⟩, ⟨L TR, s.2⟩, ⟨RD, (b, p')⟩]) : mc.C f_spec_l2System [⟨RD, (b, p)⟩, ⟨I, most⟩] Q := by
 refine mc.c_of F_spec_l2System ?_
 simp (contextual := true) (maxSteps := 1000000) (disch := omega) only [↓Sd, ↓So, ↓Sk, ↓den, ↓denA, Sa, Sb, Sc, Se, O1.d, O2.d, O3.d, cmI, arI, envOf, putN, ↓reduceIte, Nat.reduceLT, Nat.reduceSub, Nat.reduceAdd, Int.reduceAdd, Int.reduceEq, Int.reduceLT, Int.reduceLE, arr_pos, arr_neg, tr_spec_l2System]
 refine D_pick1 _ _ _ hb (by omega) (by omega) fun n n0 n1 => ?_; simp (contextual := true) (maxSteps := 1000000) (disch := omega) only [↓Sd, ↓So, ↓Sk, ↓den, ↓denA, Sa, Sb, Sc, Se, O1.d, O2.d, O3.d, cmI, arI, envOf, putN, ↓reduceIte, Nat.reduceLT, Nat.reduceSub, Nat.reduceAdd, Int.reduceAdd, Int.reduceEq, Int.reduceLT, Int.reduceLE, arr_pos, arr_neg, ]
 obtain ⟨N, hN⟩ : ∃ N : Nat, n = N := ⟨n.toNat, by omega⟩
 subst hN
 refine mc.lp_inv (fun k us => ∃ (p1 m : Int) (l : List Vr), us = [⟨I, most⟩, ⟨I, m⟩, ⟨I, (k : Int)⟩, ⟨L U, b⟩, ⟨I, p1⟩, ⟨L V3, l⟩] ∧ l.length + k ≤ 1 + N ∧ p ≤ p1 ∧ p1 + 3 * k ≤ p + 1 + 3 * (1 + N)) (1 + N) _ ⟨p + 1, 1, [], by simp, by simp, by omega, by omega⟩ ?_
 rintro k us ⟨p1, m, l, rfl, i1, i2, i3⟩
 cases k with
 | zero =>
  simp (contextual := true) (maxSteps := 1000000) (disch := omega) only [↓Sd, ↓So, ↓Sk, ↓den, ↓denA, Sa, Sb, Sc, Se, O1.d, O2.d, O3.d, cmI, arI, envOf, putN, ↓reduceIte, Nat.reduceLT, Nat.reduceSub, Nat.reduceAdd, Int.reduceAdd, Int.reduceEq, Int.reduceLT, Int.reduceLE, arr_pos, arr_neg, ]
  refine mc.wp_join (fun us => ∃ (l : List Vr), us = [⟨L U, b⟩, ⟨I, p1⟩, ⟨L V3, l⟩] ∧ 1 ≤ l.length ∧ l.length ≤ 3) ?_ ?_
  ·simp (contextual := true) (maxSteps := 1000000) (disch := omega) only [↓Sd, ↓So, ↓Sk, ↓den, ↓denA, Sa, Sb, Sc, Se, O1.d, O2.d, O3.d, cmI, arI, envOf, putN, ↓reduceIte, Nat.reduceLT, Nat.reduceSub, Nat.reduceAdd, Int.reduceAdd, Int.reduceEq, Int.reduceLT, Int.reduceLE, arr_pos, arr_neg, ]
   exact ⟨fun _ => by omega, fun _ => by omega⟩
  ·rintro us ⟨l, rfl, a1, a2⟩
   simp (contextual := true) (maxSteps := 1000000) (disch := omega) only [↓Sd, ↓So, ↓Sk, ↓den, ↓denA, Sa, Sb, Sc, Se, O1.d, O2.d, O3.d, cmI, arI, envOf, putN, ↓reduceIte, Nat.reduceLT, Nat.reduceSub, Nat.reduceAdd, Int.reduceAdd, Int.reduceEq, Int.reduceLT, Int.reduceLE, arr_pos, arr_neg, ]
   refine D_num _ _ _ hb (by omega) (by simp) (by simp) fun x x0 => ?_; simp (contextual := true) (maxSteps := 1000000) (disch := omega) only [↓Sd, ↓So, ↓Sk, ↓den, ↓denA, Sa, Sb, Sc, Se, O1.d, O2.d, O3.d, cmI, arI, envOf, putN, ↓reduceIte, Nat.reduceLT, Nat.reduceSub, Nat.reduceAdd, Int.reduceAdd, Int.reduceEq, Int.reduceLT, Int.reduceLE, arr_pos, arr_neg, ]
   have hx : 0 ≤ x ∧ x ≤ 4 := by simp only [List.mem_append, List.mem_singleton] at x0; omega
   obtain ⟨y, hy⟩ : ∃ y : Nat, x = y := ⟨x.toNat, by omega⟩
   subst hy
   refine D_l2Rules _ _ _ _ hb (by omega) a1 a2 (by omega) fun rs p2 hp2 h1 h2 => ?_
   simp (contextual := true) (maxSteps := 1000000) (disch := omega) only [↓Sd, ↓So, ↓Sk, ↓den, ↓denA, Sa, Sb, Sc, Se, O1.d, O2.d, O3.d, cmI, arI, envOf, putN, ↓reduceIte, Nat.reduceLT, Nat.reduceSub, Nat.reduceAdd, Int.reduceAdd, Int.reduceEq, Int.reduceLT, Int.reduceLE, arr_pos, arr_neg, ↓wpJoin, ]
   exact h (l, rs) _ (by omega) ⟨a2, by dsimp only; omega, fun r hr => (h2 r hr).sm⟩ a1 (by dsimp only; omega) h2
 | succ k =>
  simp (contextual := true) (maxSteps := 1000000) (disch := omega) only [↓Sd, ↓So, ↓Sk, ↓den, ↓denA, Sa, Sb, Sc, Se, O1.d, O2.d, O3.d, cmI, arI, envOf, putN, ↓reduceIte, Nat.reduceLT, Nat.reduceSub, Nat.reduceAdd, Int.reduceAdd, Int.reduceEq, Int.reduceLT, Int.reduceLE, arr_pos, arr_neg, ]
  refine mc.wp_join (fun us => ∃ (p2 m : Int) (l : List Vr), us = [⟨I, most⟩, ⟨I, m⟩, ⟨I, (k : Int) + 1⟩, ⟨L U, b⟩, ⟨I, p2⟩, ⟨L V3, l⟩] ∧ l.length + k ≤ 1 + N ∧ p ≤ p2 ∧ p2 + 3 * k ≤ p + 1 + 3 * (1 + N)) ?_ ?_
  ·simp (contextual := true) (maxSteps := 1000000) (disch := omega) only [↓Sd, ↓So, ↓Sk, ↓den, ↓denA, Sa, Sb, Sc, Se, O1.d, O2.d, O3.d, cmI, arI, envOf, putN, ↓reduceIte, Nat.reduceLT, Nat.reduceSub, Nat.reduceAdd, Int.reduceAdd, Int.reduceEq, Int.reduceLT, Int.reduceLE, arr_pos, arr_neg, ]
   refine D_num _ _ _ hb (by omega) (by simp) (by simp) fun x x0 => ?_; simp (contextual := true) (maxSteps := 1000000) (disch := omega) only [↓Sd, ↓So, ↓Sk, ↓den, ↓denA, Sa, Sb, Sc, Se, O1.d, O2.d, O3.d, cmI, arI, envOf, putN, ↓reduceIte, Nat.reduceLT, Nat.reduceSub, Nat.reduceAdd, Int.reduceAdd, Int.reduceEq, Int.reduceLT, Int.reduceLE, arr_pos, arr_neg, ]
   have hx : 2 ≤ x ∧ x ≤ 5 := by simp only [List.mem_append, List.mem_singleton] at x0; omega
   refine ⟨fun _ => ?_, fun _ => ⟨_, _, _, ⟨rfl, rfl, rfl⟩, by omega, by omega, by omega⟩⟩
   refine D_num _ _ _ hb (by omega) (by simp) (by simp) fun lo lo0 => ?_; simp (contextual := true) (maxSteps := 1000000) (disch := omega) only [↓Sd, ↓So, ↓Sk, ↓den, ↓denA, Sa, Sb, Sc, Se, O1.d, O2.d, O3.d, cmI, arI, envOf, putN, ↓reduceIte, Nat.reduceLT, Nat.reduceSub, Nat.reduceAdd, Int.reduceAdd, Int.reduceEq, Int.reduceLT, Int.reduceLE, arr_pos, arr_neg, ]
   refine D_pick1 _ _ _ hb (by omega) (by omega) fun d d0 d1 => ?_; simp (contextual := true) (maxSteps := 1000000) (disch := omega) only [↓Sd, ↓So, ↓Sk, ↓den, ↓denA, Sa, Sb, Sc, Se, O1.d, O2.d, O3.d, cmI, arI, envOf, putN, ↓reduceIte, Nat.reduceLT, Nat.reduceSub, Nat.reduceAdd, Int.reduceAdd, Int.reduceEq, Int.reduceLT, Int.reduceLE, arr_pos, arr_neg, ]
   simp (contextual := true) (maxSteps := 1000000) (disch := omega) only [↓Sd, ↓So, ↓Sk, ↓den, ↓denA, Sa, Sb, Sc, Se, O1.d, O2.d, O3.d, cmI, arI, envOf, putN, ↓reduceIte, Nat.reduceLT, Nat.reduceSub, Nat.reduceAdd, Int.reduceAdd, Int.reduceEq, Int.reduceLT, Int.reduceLE, arr_pos, arr_neg, ↓wpJoin, ]
   exact ⟨_, _, _, ⟨rfl, rfl, rfl⟩, by simp only [List.length_append, List.length_singleton]; omega, by omega, by omega⟩
  ·rintro us ⟨p2, m, l, rfl, a1, a2, a3⟩
   simp (contextual := true) (maxSteps := 1000000) (disch := omega) only [↓Sd, ↓So, ↓Sk, ↓den, ↓denA, Sa, Sb, Sc, Se, O1.d, O2.d, O3.d, cmI, arI, envOf, putN, ↓reduceIte, Nat.reduceLT, Nat.reduceSub, Nat.reduceAdd, Int.reduceAdd, Int.reduceEq, Int.reduceLT, Int.reduceLE, arr_pos, arr_neg, ]
   exact ⟨k, by omega, p2, m, l, ⟨rfl, rfl, rfl, rfl⟩, a1, a2, a3⟩
theorem D_l2Any (b : List Int) (p most : Int) (hb : Rdy b) (hp : 0 ≤ p ∧ p ≤ 400000000) {Q : List AV → Prop} (h : ∀ (s : Sy) (p' : Int), p ≤ p' ∧ p' ≤ p + 31000 → SmSy s → Q [⟨L V3, s.1⟩, ⟨L TR, s.2⟩, ⟨RD, (b, p')⟩]) : mc.C f_spec_l2Any [⟨RD, (b, p)⟩, ⟨I, most⟩] Q := by
 refine mc.c_of F_spec_l2Any ?_
 simp (contextual := true) (maxSteps := 1000000) (disch := omega) only [↓Sd, ↓So, ↓Sk, ↓den, ↓denA, Sa, Sb, Sc, Se, O1.d, O2.d, O3.d, cmI, arI, envOf, putN, ↓reduceIte, Nat.reduceLT, Nat.reduceSub, Nat.reduceAdd, Int.reduceAdd, Int.reduceEq, Int.reduceLT, Int.reduceLE, arr_pos, arr_neg, tr_spec_l2Any]
 refine D_l2System _ _ _ hb (by omega) fun s p1 hp1 hs h1 h2 h5 => ?_
 simp (contextual := true) (maxSteps := 1000000) (disch := omega) only [↓Sd, ↓So, ↓Sk, ↓den, ↓denA, Sa, Sb, Sc, Se, O1.d, O2.d, O3.d, cmI, arI, envOf, putN, ↓reduceIte, Nat.reduceLT, Nat.reduceSub, Nat.reduceAdd, Int.reduceAdd, Int.reduceEq, Int.reduceLT, Int.reduceLE, arr_pos, arr_neg, ↓wpJoin, C_spec_l2Const]
 refine D_pick1 _ _ _ hb (by omega) (by omega) fun a a0 a1 => ?_; simp (contextual := true) (maxSteps := 1000000) (disch := omega) only [↓Sd, ↓So, ↓Sk, ↓den, ↓denA, Sa, Sb, Sc, Se, O1.d, O2.d, O3.d, cmI, arI, envOf, putN, ↓reduceIte, Nat.reduceLT, Nat.reduceSub, Nat.reduceAdd, Int.reduceAdd, Int.reduceEq, Int.reduceLT, Int.reduceLE, arr_pos, arr_neg, ]
 refine ⟨fun _ => ?_, fun _ => h _ _ (by omega) hs⟩
 have hV : ∀ (l : List Vr) (p' : Int), l.length ≤ 3 → p ≤ p' ∧ p' ≤ p + 31000 → Q [⟨L V3, l⟩, ⟨L TR, s.2⟩, ⟨RD, (b, p')⟩] := fun l p' hl hp' => h (l, s.2) p' hp' ⟨hl, hs.2.1, hs.2.2⟩
 have hR : ∀ (r : Ru) (p' : Int), SmRu r → p ≤ p' ∧ p' ≤ p + 31000 → Q [⟨L V3, s.1⟩, ⟨L TR, s.2.set 0 r⟩, ⟨RD, (b, p')⟩] := fun r p' hr hp' => h (s.1, s.2.set 0 r) p' hp' ⟨hs.1, by rw [List.length_set]; exact hs.2.1, fun x hx => (List.mem_or_eq_of_mem_set hx).elim (hs.2.2 x) fun e => by rw [e]; exact hr⟩
 have hS1 : (s.1.set 0 (s.1.getD 0 (0, 0, 0))).length ≤ 3 := by rw [List.length_set]; exact hs.1
 have hsl : ∀ x : Vr, (s.1.set 0 x).length ≤ 3 := fun x => by rw [List.length_set]; exact hs.1
 have hb0 : SmR5 (s.2.getD 0 ([], [], [])) := by
  by_cases g : 0 < s.2.length
  ·exact h5 _ (getD_mem g)
  ·rw [List.getD_eq_getElem?_getD, List.getElem?_eq_none (by omega)]; exact ⟨by simp, by simp, by simp, by simp⟩
 refine D_pick1 _ _ _ hb (by omega) (by omega) fun c c0 c1 => ?_; simp (contextual := true) (maxSteps := 1000000) (disch := omega) only [↓Sd, ↓So, ↓Sk, ↓den, ↓denA, Sa, Sb, Sc, Se, O1.d, O2.d, O3.d, cmI, arI, envOf, putN, ↓reduceIte, Nat.reduceLT, Nat.reduceSub, Nat.reduceAdd, Int.reduceAdd, Int.reduceEq, Int.reduceLT, Int.reduceLE, arr_pos, arr_neg, ]
 have q1 := hb0.2.1
 have q2 := hb0.2.2.1
 simp (contextual := true) (maxSteps := 1000000) (disch := omega) only [↓Sd, ↓So, ↓Sk, ↓den, ↓denA, Sa, Sb, Sc, Se, O1.d, O2.d, O3.d, cmI, arI, envOf, putN, ↓reduceIte, Nat.reduceLT, Nat.reduceSub, Nat.reduceAdd, Int.reduceAdd, Int.reduceEq, Int.reduceLT, Int.reduceLE, arr_pos, arr_neg, ↓wpJoin, C_spec_l2Const]
 repeat' first | apply And.intro | intro _
 all_goals first
  | exact hV _ _ (hsl _) (by omega)
  | exact hV _ _ (by simp) (by omega)
  | exact hV _ _ hs.1 (by omega)
  | exact hR _ _ ⟨by simp, hb0.sm.2.1, hb0.sm.2.2.1, hb0.sm.2.2.2⟩ (by omega)
  | exact hR _ _ ⟨hb0.sm.1, by simp only [List.length_append, List.length_singleton]; omega, hb0.sm.2.2.1, hb0.sm.2.2.2⟩ (by omega)
  | exact hR _ _ ⟨hb0.sm.1, hb0.sm.2.1, by simp only [List.length_append, List.length_singleton]; omega, fun x hx => (List.mem_append.1 hx).elim (hb0.sm.2.2.2 x) fun hx => by rw [List.mem_singleton.1 hx]; simp⟩ (by omega)
  | skip
 refine D_num _ _ _ hb (by omega) (by simp) (by simp) fun x x0 => ?_; simp (contextual := true) (maxSteps := 1000000) (disch := omega) only [↓Sd, ↓So, ↓Sk, ↓den, ↓denA, Sa, Sb, Sc, Se, O1.d, O2.d, O3.d, cmI, arI, envOf, putN, ↓reduceIte, Nat.reduceLT, Nat.reduceSub, Nat.reduceAdd, Int.reduceAdd, Int.reduceEq, Int.reduceLT, Int.reduceLE, arr_pos, arr_neg, ]
 simp (contextual := true) (maxSteps := 1000000) (disch := omega) only [↓Sd, ↓So, ↓Sk, ↓den, ↓denA, Sa, Sb, Sc, Se, O1.d, O2.d, O3.d, cmI, arI, envOf, putN, ↓reduceIte, Nat.reduceLT, Nat.reduceSub, Nat.reduceAdd, Int.reduceAdd, Int.reduceEq, Int.reduceLT, Int.reduceLE, arr_pos, arr_neg, ↓wpJoin, ]
 exact hV _ _ (hsl _) (by omega)
theorem D_l1Any (b : List Int) (p vars : Int) (hb : Rdy b) (hp : 0 ≤ p ∧ p ≤ 700000000) (hv : 0 ≤ vars ∧ vars ≤ 5) {Q : List AV → Prop} (h : ∀ (l : List Tm) (p' : Int), p ≤ p' ∧ p' ≤ p + 500 → 1 ≤ l.length → l.length ≤ 16 → Q [⟨L T4, l⟩, ⟨RD, (b, p')⟩]) : mc.C f_spec_l1Any [⟨RD, (b, p)⟩, ⟨I, vars⟩] Q := by
 refine mc.c_of F_spec_l1Any ?_
 simp (contextual := true) (maxSteps := 1000000) (disch := omega) only [↓Sd, ↓So, ↓Sk, ↓den, ↓denA, Sa, Sb, Sc, Se, O1.d, O2.d, O3.d, cmI, arI, envOf, putN, ↓reduceIte, Nat.reduceLT, Nat.reduceSub, Nat.reduceAdd, Int.reduceAdd, Int.reduceEq, Int.reduceLT, Int.reduceLE, arr_pos, arr_neg, tr_spec_l1Any]
 refine D_pick1 _ _ _ hb (by omega) (by omega) fun k k0 k1 => ?_; simp (contextual := true) (maxSteps := 1000000) (disch := omega) only [↓Sd, ↓So, ↓Sk, ↓den, ↓denA, Sa, Sb, Sc, Se, O1.d, O2.d, O3.d, cmI, arI, envOf, putN, ↓reduceIte, Nat.reduceLT, Nat.reduceSub, Nat.reduceAdd, Int.reduceAdd, Int.reduceEq, Int.reduceLT, Int.reduceLE, arr_pos, arr_neg, ]
 refine D_l1Terms _ _ _ _ _ hb (by omega) hv (by omega) fun l p2 h1 h2 h3 => ?_
 simp (contextual := true) (maxSteps := 1000000) (disch := omega) only [↓Sd, ↓So, ↓Sk, ↓den, ↓denA, Sa, Sb, Sc, Se, O1.d, O2.d, O3.d, cmI, arI, envOf, putN, ↓reduceIte, Nat.reduceLT, Nat.reduceSub, Nat.reduceAdd, Int.reduceAdd, Int.reduceEq, Int.reduceLT, Int.reduceLE, arr_pos, arr_neg, ↓wpJoin, ]
 refine D_pick1 _ _ _ hb (by omega) (by omega) fun a a0 a1 => ?_; simp (contextual := true) (maxSteps := 1000000) (disch := omega) only [↓Sd, ↓So, ↓Sk, ↓den, ↓denA, Sa, Sb, Sc, Se, O1.d, O2.d, O3.d, cmI, arI, envOf, putN, ↓reduceIte, Nat.reduceLT, Nat.reduceSub, Nat.reduceAdd, Int.reduceAdd, Int.reduceEq, Int.reduceLT, Int.reduceLE, arr_pos, arr_neg, ]
 refine ⟨fun _ => ?_, fun _ => h _ _ (by omega) h2 h3⟩
 refine D_pick1 _ _ _ hb (by omega) (by omega) fun i i0 i1 => ?_; simp (contextual := true) (maxSteps := 1000000) (disch := omega) only [↓Sd, ↓So, ↓Sk, ↓den, ↓denA, Sa, Sb, Sc, Se, O1.d, O2.d, O3.d, cmI, arI, envOf, putN, ↓reduceIte, Nat.reduceLT, Nat.reduceSub, Nat.reduceAdd, Int.reduceAdd, Int.reduceEq, Int.reduceLT, Int.reduceLE, arr_pos, arr_neg, ]
 refine D_pick1 _ _ _ hb (by omega) (by omega) fun f f0 f1 => ?_; simp (contextual := true) (maxSteps := 1000000) (disch := omega) only [↓Sd, ↓So, ↓Sk, ↓den, ↓denA, Sa, Sb, Sc, Se, O1.d, O2.d, O3.d, cmI, arI, envOf, putN, ↓reduceIte, Nat.reduceLT, Nat.reduceSub, Nat.reduceAdd, Int.reduceAdd, Int.reduceEq, Int.reduceLT, Int.reduceLE, arr_pos, arr_neg, ↓wpJoin, ]
 have hset : ∀ (x : Tm), 1 ≤ (l.set i.toNat x).length ∧ (l.set i.toNat x).length ≤ 16 := fun x => by rw [List.length_set]; exact ⟨h2, h3⟩
 refine ⟨fun _ => ?_, fun _ => ⟨fun _ => ?_, fun _ => ⟨fun _ => ?_, fun _ => ?_⟩⟩⟩
 ·refine D_num _ _ _ hb (by omega) (by simp) (by simp) fun x x0 => ?_; simp (contextual := true) (maxSteps := 1000000) (disch := omega) only [↓Sd, ↓So, ↓Sk, ↓den, ↓denA, Sa, Sb, Sc, Se, O1.d, O2.d, O3.d, cmI, arI, envOf, putN, ↓reduceIte, Nat.reduceLT, Nat.reduceSub, Nat.reduceAdd, Int.reduceAdd, Int.reduceEq, Int.reduceLT, Int.reduceLE, arr_pos, arr_neg, ]
  exact h _ _ (by omega) (hset _).1 (hset _).2
 ·refine D_num _ _ _ hb (by omega) (by simp) (by simp) fun x x0 => ?_; simp (contextual := true) (maxSteps := 1000000) (disch := omega) only [↓Sd, ↓So, ↓Sk, ↓den, ↓denA, Sa, Sb, Sc, Se, O1.d, O2.d, O3.d, cmI, arI, envOf, putN, ↓reduceIte, Nat.reduceLT, Nat.reduceSub, Nat.reduceAdd, Int.reduceAdd, Int.reduceEq, Int.reduceLT, Int.reduceLE, arr_pos, arr_neg, ]
  exact h _ _ (by omega) (hset _).1 (hset _).2
 ·refine D_num _ _ _ hb (by omega) (by simp) (by simp) fun x x0 => ?_; simp (contextual := true) (maxSteps := 1000000) (disch := omega) only [↓Sd, ↓So, ↓Sk, ↓den, ↓denA, Sa, Sb, Sc, Se, O1.d, O2.d, O3.d, cmI, arI, envOf, putN, ↓reduceIte, Nat.reduceLT, Nat.reduceSub, Nat.reduceAdd, Int.reduceAdd, Int.reduceEq, Int.reduceLT, Int.reduceLE, arr_pos, arr_neg, ]
  exact h _ _ (by omega) (hset _).1 (hset _).2
 ·refine D_num _ _ _ hb (by omega) (by simp) (by simp) fun x x0 => ?_; simp (contextual := true) (maxSteps := 1000000) (disch := omega) only [↓Sd, ↓So, ↓Sk, ↓den, ↓denA, Sa, Sb, Sc, Se, O1.d, O2.d, O3.d, cmI, arI, envOf, putN, ↓reduceIte, Nat.reduceLT, Nat.reduceSub, Nat.reduceAdd, Int.reduceAdd, Int.reduceEq, Int.reduceLT, Int.reduceLE, arr_pos, arr_neg, ]
  exact h _ _ (by omega) (hset _).1 (hset _).2
theorem C_spec_l5First (s : Sy) (hs : FewSy s) (hv : valid s) (Q : List AV → Prop) : mc.C f_spec_l5First [⟨L V3, s.1⟩, ⟨L TR, s.2⟩] Q = Q [⟨L B, tab (fun k => dB ((k : Int) ∈ [num s.1 (fst0 s.1)])) (szn s.1)⟩] := by
 have hz := szn_eq hv
 have hfi := fst0_in hv.2.2.1
 have hn := num_bd hv.2.2.1 hfi
 refine Mc.Ends.c (mc.ends F_spec_l5First ?_)
 simp (contextual := true) (maxSteps := 1000000) (disch := omega) only [↓Sd, ↓So, ↓Sk, ↓den, ↓denA, Sa, Sb, Sc, Se, O1.d, O2.d, O3.d, cmI, arI, envOf, putN, ↓reduceIte, Nat.reduceLT, Nat.reduceSub, Nat.reduceAdd, Int.reduceAdd, Int.reduceEq, Int.reduceLT, Int.reduceLE, arr_pos, arr_neg, tr_spec_l5First, C_spec_FirstState s hs hv, C_spec_l4Number s _ hv.1.2 hv.2.2.1 hfi, C_spec_SizeOf s hs, if_pos hv]
 simp (contextual := true) (maxSteps := 1000000) (disch := omega) only [↓Sd, ↓So, ↓Sk, ↓den, ↓denA, Sa, Sb, Sc, Se, O1.d, O2.d, O3.d, cmI, arI, envOf, putN, ↓reduceIte, Nat.reduceLT, Nat.reduceSub, Nat.reduceAdd, Int.reduceAdd, Int.reduceEq, Int.reduceLT, Int.reduceLE, arr_pos, arr_neg, ↓wpJoin, C_spec_l4Marks_i [num s.1 (fst0 s.1)] (sz s.1) (szn s.1) hz.1.symm (by omega) (by simp) (by intro x hx; simp only [List.mem_singleton] at hx; omega)]
theorem C_spec_StepsTo (s : Sy) (hs : FewSy s) (Q : List AV → Prop) : mc.C f_spec_StepsTo [⟨L V3, s.1⟩, ⟨L TR, s.2⟩] Q = Q [⟨L I, if valid s then ecc s else []⟩] := by
 refine Mc.Ends.c (mc.ends F_spec_StepsTo ?_)
 simp (contextual := true) (maxSteps := 1000000) (disch := omega) only [↓Sd, ↓So, ↓Sk, ↓den, ↓denA, Sa, Sb, Sc, Se, O1.d, O2.d, O3.d, cmI, arI, envOf, putN, ↓reduceIte, Nat.reduceLT, Nat.reduceSub, Nat.reduceAdd, Int.reduceAdd, Int.reduceEq, Int.reduceLT, Int.reduceLE, arr_pos, arr_neg, tr_spec_StepsTo, C_spec_SystemValid s hs]
 intro hv
 have hz := szn_eq hv
 have hfi := fst0_in hv.2.2.1
 have hn := num_bd hv.2.2.1 hfi
 simp (contextual := true) (maxSteps := 1000000) (disch := omega) only [↓Sd, ↓So, ↓Sk, ↓den, ↓denA, Sa, Sb, Sc, Se, O1.d, O2.d, O3.d, cmI, arI, envOf, putN, ↓reduceIte, Nat.reduceLT, Nat.reduceSub, Nat.reduceAdd, Int.reduceAdd, Int.reduceEq, Int.reduceLT, Int.reduceLE, arr_pos, arr_neg, C_spec_l4Steps s hs hv, C_spec_l5First s hs hv, C_spec_l5Steps (steps s) _ [num s.1 (fst0 s.1)] (szn s.1) (by omega) (steps_tbl hv) (by intro x hx; simp only [List.mem_singleton] at hx; omega) (fun k _ => dB_iff)]
 rfl
def hw1 (s : Sy) (l : List Tm) (X : List Int) (x : Int) : Prop := holdsN s l x.toNat = true → ∀ y ∈ (steps s).getD x.toNat [], y ∈ X → holdsN s l y.toNat = true
def hw (s : Sy) (l : List Tm) (X : List Int) : Prop := ∀ x ∈ X, hw1 s l X x
theorem C_impl_goodIn (s : Sy) (l : List Tm) (hs : FewSy s) (hf : Few l) (h : valid s ∧ kf l s.1.length = 2) (Q : List AV → Prop) : mc.C f_impl_goodIn [⟨L V3, s.1⟩, ⟨L TR, s.2⟩, ⟨L T4, l⟩] Q = Q [⟨L B, tab (holdsN s l) (szn s.1)⟩, ⟨B, true⟩] := by
 refine Mc.Ends.c (mc.ends F_impl_goodIn ?_)
 simp (contextual := true) (maxSteps := 1000000) (disch := omega) only [↓Sd, ↓So, ↓Sk, ↓den, ↓denA, Sa, Sb, Sc, Se, O1.d, O2.d, O3.d, cmI, arI, envOf, putN, ↓reduceIte, Nat.reduceLT, Nat.reduceSub, Nat.reduceAdd, Int.reduceAdd, Int.reduceEq, Int.reduceLT, Int.reduceLE, arr_pos, arr_neg, tr_impl_goodIn, C_impl_truthOf s l hs hf, h.1, h.2, C_impl_where s l h.1 (by omega : kf l s.1.length ≠ 0)]
theorem C_impl_goodIn_no (s : Sy) (l : List Tm) (hs : FewSy s) (hf : Few l) (h : ¬ (valid s ∧ kf l s.1.length = 2)) (Q : List AV → Prop) : mc.C f_impl_goodIn [⟨L V3, s.1⟩, ⟨L TR, s.2⟩, ⟨L T4, l⟩] Q = Q [⟨L B, []⟩, ⟨B, false⟩] := by
 refine Mc.Ends.c (mc.ends F_impl_goodIn ?_)
 simp (contextual := true) (maxSteps := 1000000) (disch := omega) only [↓Sd, ↓So, ↓Sk, ↓den, ↓denA, Sa, Sb, Sc, Se, O1.d, O2.d, O3.d, cmI, arI, envOf, putN, ↓reduceIte, Nat.reduceLT, Nat.reduceSub, Nat.reduceAdd, Int.reduceAdd, Int.reduceEq, Int.reduceLT, Int.reduceLE, arr_pos, arr_neg, tr_impl_goodIn, C_impl_truthOf s l hs hf, h]
theorem D_l15Ask (b : List Int) (hb : Byt b) (hl : Lt63 b) {Q : List AV → Prop} (h : ∀ (s : Sy) (l : List Tm) (k : Int), SmSy s → l.length ≤ 16 → 0 ≤ k ∧ k ≤ 7 → Q [⟨L V3, s.1⟩, ⟨L TR, s.2⟩, ⟨L T4, l⟩, ⟨I, k⟩]) : mc.C f_spec_l15Ask [⟨L U, b⟩] Q := by
 refine mc.c_of F_spec_l15Ask ?_
 simp (contextual := true) (maxSteps := 1000000) (disch := omega) only [↓Sd, ↓So, ↓Sk, ↓den, ↓denA, Sa, Sb, Sc, Se, O1.d, O2.d, O3.d, cmI, arI, envOf, putN, ↓reduceIte, Nat.reduceLT, Nat.reduceSub, Nat.reduceAdd, Int.reduceAdd, Int.reduceEq, Int.reduceLT, Int.reduceLE, arr_pos, arr_neg, tr_spec_l15Ask]
 refine D_open b hb hl fun b hb => ?_
 simp (contextual := true) (maxSteps := 1000000) (disch := omega) only [↓Sd, ↓So, ↓Sk, ↓den, ↓denA, Sa, Sb, Sc, Se, O1.d, O2.d, O3.d, cmI, arI, envOf, putN, ↓reduceIte, Nat.reduceLT, Nat.reduceSub, Nat.reduceAdd, Int.reduceAdd, Int.reduceEq, Int.reduceLT, Int.reduceLE, arr_pos, arr_neg, ]
 refine D_l2Any _ _ _ hb (by omega) fun s p' _ hs => ?_
 have h3 := hs.1
 simp (contextual := true) (maxSteps := 1000000) (disch := omega) only [↓Sd, ↓So, ↓Sk, ↓den, ↓denA, Sa, Sb, Sc, Se, O1.d, O2.d, O3.d, cmI, arI, envOf, putN, ↓reduceIte, Nat.reduceLT, Nat.reduceSub, Nat.reduceAdd, Int.reduceAdd, Int.reduceEq, Int.reduceLT, Int.reduceLE, arr_pos, arr_neg, ]
 refine D_num _ _ _ hb (by omega) (by simp) (by simp) fun k k0 => ?_; simp (contextual := true) (maxSteps := 1000000) (disch := omega) only [↓Sd, ↓So, ↓Sk, ↓den, ↓denA, Sa, Sb, Sc, Se, O1.d, O2.d, O3.d, cmI, arI, envOf, putN, ↓reduceIte, Nat.reduceLT, Nat.reduceSub, Nat.reduceAdd, Int.reduceAdd, Int.reduceEq, Int.reduceLT, Int.reduceLE, arr_pos, arr_neg, ]
 have hk : 0 ≤ k ∧ k ≤ 7 := by simp only [List.mem_append, List.mem_singleton] at k0; omega
 simp (contextual := true) (maxSteps := 1000000) (disch := omega) only [↓Sd, ↓So, ↓Sk, ↓den, ↓denA, Sa, Sb, Sc, Se, O1.d, O2.d, O3.d, cmI, arI, envOf, putN, ↓reduceIte, Nat.reduceLT, Nat.reduceSub, Nat.reduceAdd, Int.reduceAdd, Int.reduceEq, Int.reduceLT, Int.reduceLE, arr_pos, arr_neg, C_spec_l2Var (s.1.getD 0 (0, 0, 0))]
 refine ⟨fun g => ?_, fun g => ⟨fun _ => ?_, fun _ => ?_⟩⟩
 ·refine D_l1Any _ _ _ hb (by omega) (by omega) fun l p2 h1 h2 h4 => ?_
  simp (contextual := true) (maxSteps := 1000000) (disch := omega) only [↓Sd, ↓So, ↓Sk, ↓den, ↓denA, Sa, Sb, Sc, Se, O1.d, O2.d, O3.d, cmI, arI, envOf, putN, ↓reduceIte, Nat.reduceLT, Nat.reduceSub, Nat.reduceAdd, Int.reduceAdd, Int.reduceEq, Int.reduceLT, Int.reduceLE, arr_pos, arr_neg, ↓wpJoin, ]
  exact h s l k hs h4 hk
 ·refine D_l1Any _ _ _ hb (by omega) (by omega) fun l p2 h1 h2 h4 => ?_
  simp (contextual := true) (maxSteps := 1000000) (disch := omega) only [↓Sd, ↓So, ↓Sk, ↓den, ↓denA, Sa, Sb, Sc, Se, O1.d, O2.d, O3.d, cmI, arI, envOf, putN, ↓reduceIte, Nat.reduceLT, Nat.reduceSub, Nat.reduceAdd, Int.reduceAdd, Int.reduceEq, Int.reduceLT, Int.reduceLE, arr_pos, arr_neg, ↓wpJoin, ]
  exact h s l k hs h4 hk
 ·refine D_pick1 _ _ _ hb (by omega) (by omega) fun a a0 a1 => ?_; simp (contextual := true) (maxSteps := 1000000) (disch := omega) only [↓Sd, ↓So, ↓Sk, ↓den, ↓denA, Sa, Sb, Sc, Se, O1.d, O2.d, O3.d, cmI, arI, envOf, putN, ↓reduceIte, Nat.reduceLT, Nat.reduceSub, Nat.reduceAdd, Int.reduceAdd, Int.reduceEq, Int.reduceLT, Int.reduceLE, arr_pos, arr_neg, ]
  refine ⟨fun _ => ?_, fun _ => ?_⟩
  ·refine D_l1Any _ _ _ hb (by omega) (by omega) fun l p2 h1 h2 h4 => ?_
   simp (contextual := true) (maxSteps := 1000000) (disch := omega) only [↓Sd, ↓So, ↓Sk, ↓den, ↓denA, Sa, Sb, Sc, Se, O1.d, O2.d, O3.d, cmI, arI, envOf, putN, ↓reduceIte, Nat.reduceLT, Nat.reduceSub, Nat.reduceAdd, Int.reduceAdd, Int.reduceEq, Int.reduceLT, Int.reduceLE, arr_pos, arr_neg, ↓wpJoin, ]
   exact h s l k hs h4 hk
  ·refine D_l2When _ _ _ hb (by omega) (by rw [List.length_take]; omega) (by rw [List.length_take]; omega) fun l p2 h1 h2 => ?_
   simp (contextual := true) (maxSteps := 1000000) (disch := omega) only [↓Sd, ↓So, ↓Sk, ↓den, ↓denA, Sa, Sb, Sc, Se, O1.d, O2.d, O3.d, cmI, arI, envOf, putN, ↓reduceIte, Nat.reduceLT, Nat.reduceSub, Nat.reduceAdd, Int.reduceAdd, Int.reduceEq, Int.reduceLT, Int.reduceLE, arr_pos, arr_neg, ↓wpJoin, ]
   exact h s l k hs (by omega) hk
def IsPrd (T : List (List Int)) (f : Nat → Int) (n k a : Nat) : Prop := a < n ∧ f a + 1 = f k ∧ (k : Int) ∈ T.getD a [] ∧ ∀ b, b < a → ¬ (f b + 1 = f k ∧ (k : Int) ∈ T.getD b [])
theorem prd_ex {T : List (List Int)} {F : List Int} {n k : Nat} (ht : Tbl T n) (hF : ∀ x ∈ F, x < n) (h : 0 < dst T F k) : ∃ a, IsPrd T (dst T F) n k a := by
 have key : ∃ a, dst T F a + 1 = dst T F k ∧ (k : Int) ∈ T.getD a [] := by
  obtain ⟨d, hd⟩ : ∃ d : Nat, dst T F k = ((d + 1 : Nat) : Int) := ⟨(dst T F k).toNat - 1, by omega⟩
  have h1 : Lay T F (d + 1) k := dst_le.2 ⟨by omega, by omega⟩
  have h2 : ¬ Lay T F d k := fun g => by have := dst_le.1 g; omega
  rcases h1 with h1 | ⟨a, h1, h3⟩
  ·exact absurd h1 h2
  ·have h4 := dst_le.1 h1
   refine ⟨a, ?_, h3⟩
   have h5 : Lay T F ((dst T F a).toNat + 1) k := .inr ⟨a, dst_le.2 ⟨h4.1, by omega⟩, h3⟩
   have h6 := dst_le.1 h5
   omega
 obtain ⟨a, h1, h2⟩ := least key
 refine ⟨a, ?_, h1.1, h1.2, h2⟩
 have : Rch T F a := dst_rch.1 (by omega)
 exact this.lt ht hF
def Chain (T : List (List Int)) (f : Nat → Int) (n k D : Nat) (ch : Nat → Nat) : Prop := ch D = k ∧ (∀ e, e < D → IsPrd T f n (ch (e + 1)) (ch e)) ∧ ∀ e, e ≤ D → ch e < n ∧ f (ch e) = e
theorem chain_ex {T : List (List Int)} {F : List Int} {n : Nat} (ht : Tbl T n) (hF : ∀ x ∈ F, x < n) : ∀ {D k : Nat}, k < n → dst T F k = D → ∃ ch, Chain T (dst T F) n k D ch
 | 0, k, hk, h => ⟨fun _ => k, rfl, fun e he => absurd he (Nat.not_lt_zero _), fun e he => ⟨hk, by rw [h, show e = 0 by omega]⟩⟩
 | D + 1, k, hk, h => by
  obtain ⟨a, ha⟩ := prd_ex ht hF (show 0 < dst T F k by omega)
  obtain ⟨ch, h1, h2, h3⟩ := chain_ex ht hF (D := D) ha.1 (by have := ha.2.1; omega)
  refine ⟨fun e => if e ≤ D then ch e else k, if_neg (by omega), fun e he => ?_, fun e he => ?_⟩
  ·show IsPrd T (dst T F) n (if e + 1 ≤ D then ch (e + 1) else k) (if e ≤ D then ch e else k)
   by_cases g : e < D
   ·rw [if_pos (show e ≤ D by omega), if_pos (show e + 1 ≤ D by omega)]; exact h2 e g
   ·have : e = D := by omega
    subst this
    rw [if_pos (Nat.le_refl _), if_neg (by omega), h1]; exact ha
  ·show (if e ≤ D then ch e else k) < n ∧ dst T F (if e ≤ D then ch e else k) = e
   by_cases g : e ≤ D
   ·rw [if_pos g]; exact h3 e g
   ·have : e = D + 1 := by omega
    subst this
    rw [if_neg (by omega)]; exact ⟨hk, h⟩
theorem Chain.few {T : List (List Int)} {f : Nat → Int} {n k D : Nat} {ch : Nat → Nat} (h : Chain T f n k D ch) : D < n := by
 have key : ∀ e, e ≤ D → e < (upTo (fun k => decide (0 ≤ f k ∧ f k ≤ (e : Int))) n).length := by
  intro e
  induction e with
  | zero =>
   intro _
   have h1 := h.2.2 0 (by omega)
   exact upTo_pos.2 ⟨ch 0, h1.1, decide_eq_true (by omega)⟩
  | succ e ih =>
   intro he
   have h1 := ih (by omega)
   have h2 := h.2.2 (e + 1) he
   have h3 := upTo_mono (p := fun k => decide (0 ≤ f k ∧ f k ≤ (e : Int))) (q := fun k => decide (0 ≤ f k ∧ f k ≤ ((e + 1 : Nat) : Int))) (n := n) fun k _ hk => decide_eq_true (by have := of_decide_eq_true hk; omega)
   by_cases g : (upTo (fun k => decide (0 ≤ f k ∧ f k ≤ ((e + 1 : Nat) : Int))) n).length ≤ (upTo (fun k => decide (0 ≤ f k ∧ f k ≤ (e : Int))) n).length
   ·have h4 := h3.2 g (ch (e + 1)) h2.1 (decide_eq_true (by omega))
    have h5 := of_decide_eq_true h4
    omega
   ·omega
 have h1 := key D (Nat.le_refl _)
 have h2 := @upTo_len (fun k => decide (0 ≤ f k ∧ f k ≤ (D : Int))) n
 omega
noncomputable def dS (s : Sy) (k : Nat) : Int := dst (steps s) [num s.1 (fst0 s.1)] k
theorem first_lt {s : Sy} (h : valid s) : ∀ x ∈ [num s.1 (fst0 s.1)], x < (szn s.1 : Int) := fun x hx => by
 have h1 := num_bd h.2.2.1 (fst0_in h.2.2.1)
 have h2 := szn_eq h
 simp only [List.mem_singleton] at hx
 omega
def SmSS (l : List (List Int)) : Prop := l.length ≤ 4000 ∧ ∀ x ∈ l, x.length ≤ 4000
theorem SmSS.row {l : List (List Int)} (h : SmSS l) (i : Nat) : (l.getD i []).length ≤ 4000 := by
 by_cases hi : i < l.length
 ·exact h.2 _ (getD_mem hi)
 ·rw [List.getD_eq_getElem?_getD, List.getElem?_eq_none (by omega)]; simp
end Go.Proofs.YtilmaoicaejbdaaGreat
namespace Go.Proofs.YtilmaoicaejbdaaGreat
open Go Go.Sm Go.Sm.Q
set_option linter.unusedSimpArgs false
set_option linter.unusedVariables false
theorem dS_rch {s : Sy} {k : Nat} : 0 ≤ dS s k ↔ rchB s k = true := by rw [rchB, dB_iff]; exact dst_rch
def FewSS (F : List (List Tm)) : Prop := Few F ∧ ∀ x ∈ F, Few x
theorem FewSS.row {F : List (List Tm)} (h : FewSS F) (i : Nat) : Few (F.getD i []) := by
 by_cases hi : i < F.length
 ·exact h.2 _ (getD_mem hi)
 ·rw [List.getD_eq_getElem?_getD, List.getElem?_eq_none (by omega)]; simp [Few]
theorem SmSS.few {l : List (List Int)} (h : SmSS l) : l.length ≤ 1048576 ∧ ∀ x ∈ l, x.length ≤ 1048576 := ⟨by have := h.1; omega, fun x hx => by have := h.2 x hx; omega⟩
def fneN (f : Nat → List Int) : Nat → List Int
 | 0 => []
 | n + 1 => if fneN f n = [] then f n else fneN f n
theorem fneN_stay {f : Nat → List Int} {a : Nat} (h : ¬ fneN f a = []) : ∀ {b : Nat}, a ≤ b → fneN f b = fneN f a
 | 0, hb => by obtain rfl : a = 0 := by omega
               rfl
 | b + 1, hb => by
  by_cases e : a = b + 1
  ·rw [e]
  ·have h1 := fneN_stay h (b := b) (by omega)
   rw [fneN, h1, if_neg h]
theorem fneN_at {f : Nat → List Int} {i n : Nat} (hp : fneN f i = []) (h : ¬ f i = []) (hi : i < n) : fneN f n = f i := by
 have h1 : fneN f (i + 1) = f i := by rw [fneN, if_pos hp]
 rw [← h1]
 exact fneN_stay (by rw [h1]; exact h) hi
theorem fneN_nil {f : Nat → List Int} : ∀ {n : Nat}, fneN f n = [] ↔ ∀ i, i < n → f i = []
 | 0 => ⟨fun _ i hi => absurd hi (Nat.not_lt_zero _), fun _ => rfl⟩
 | n + 1 => by
  rw [fneN]
  by_cases h : fneN f n = []
  ·rw [if_pos h]
   have h1 := fneN_nil.1 h
   constructor
   ·intro h2 i hi
    by_cases e : i = n
    ·rw [e]; exact h2
    ·exact h1 i (by omega)
   ·intro h2; exact h2 n (by omega)
  ·rw [if_neg h]
   constructor
   ·intro h2; exact absurd h2 h
   ·intro h2; exact fneN_nil.2 fun i hi => h2 i (by omega)
theorem lp_fst {M : Mc} {b : Tr} {Q : Out → Prop} (mk : Nat → List AV) (f : Nat → List Int) (N : Nat) (us : List AV) (hus : us = mk 0)
  (hb : ∀ i, i < N → f i = [] → M.wp b (envOf (mk i)) (onJ (fun us => us = mk (i + 1)) Q))
  (hr : ∀ i, i < N → ¬ f i = [] → fneN f N = f i → M.wp b (envOf (mk i)) (onJ (fun _ => False) Q))
  (he : fneN f N = [] → M.wp b (envOf (mk N)) (onJ (fun _ => False) Q)) : M.LP b us Q := by
 refine M.lp_for Unit (fun i _ => mk i) (fun i _ => fneN f i = []) N 0 () us hus (Nat.zero_le _) rfl ?_ ?_
 ·rintro i - hi hp
  by_cases h : f i = []
  ·exact M.wp_mono _ _ _ _ (onJ_mono (fun us hu => ⟨(), hu, by rw [fneN, if_pos hp]; exact h⟩) fun o h => h) (hb i hi h)
  ·exact M.wp_mono _ _ _ _ (onJ_mono (fun us hu => hu.elim) fun o h => h) (hr i hi h (fneN_at hp h hi))
 ·rintro - hp
  exact he hp
def lastP (p : List Int) : Nat := (p.getD (p.length - 1) 0).toNat
theorem lastP_app {p : List Int} {x : Int} : lastP (p ++ [x]) = x.toNat := by simp [lastP]
def goL (T : List (List Int)) (g : Nat → Bool) : Nat → List Int → List Int
 | 0, p => if g (lastP p) = true then [] else p
 | k + 1, p => if g (lastP p) = true then fneN (fun i => if (T.getD (lastP p) []).getD i 0 ∈ p then [] else goL T g k (p ++ [(T.getD (lastP p) []).getD i 0])) (T.getD (lastP p) []).length else []
theorem C_spec_l15Go (T : List (List Int)) (g : Nat → Bool) (n : Nat) (ht : Tbl T n) (hn : n ≤ 1000) : ∀ (k : Nat) (p : List Int), p ≠ [] → p.length + k ≤ 1000 → (∀ x ∈ p, 0 ≤ x ∧ x < (n : Int)) → ∀ (Q : List AV → Prop), mc.C f_spec_l15Go [⟨L (L I), T⟩, ⟨L B, tab g n⟩, ⟨L I, p⟩, ⟨I, (k : Int)⟩] Q = Q [⟨L I, goL T g k p⟩]
 | 0, p, hp, hpl, hpn, Q => by
  refine Mc.Ends.c (mc.ends F_spec_l15Go ?_)
  have h1 : 0 < p.length := List.length_pos_iff.2 hp
  have h2 := hpn _ (getD_mem (l := p) (i := p.length - 1) (d := 0) (by omega))
  have h3 : lastP p < n := by unfold lastP; omega
  have h4 : p.getD (p.length - 1) 0 = (lastP p : Int) := by unfold lastP; omega
  simp (contextual := true) (maxSteps := 1000000) (disch := omega) only [↓Sd, ↓So, ↓Sk, ↓den, ↓denA, Sa, Sb, Sc, Se, O1.d, O2.d, O3.d, cmI, arI, envOf, putN, ↓reduceIte, Nat.reduceLT, Nat.reduceSub, Nat.reduceAdd, Int.reduceAdd, Int.reduceEq, Int.reduceLT, Int.reduceLE, arr_pos, arr_neg, tr_spec_l15Go, h4, tab_len, tab_get h3, goL]
 | k + 1, p, hp, hpl, hpn, Q => by
  refine Mc.Ends.c (mc.ends F_spec_l15Go ?_)
  have h1 : 0 < p.length := List.length_pos_iff.2 hp
  have h2 := hpn _ (getD_mem (l := p) (i := p.length - 1) (d := 0) (by omega))
  have h3 : lastP p < n := by unfold lastP; omega
  have h4 : p.getD (p.length - 1) 0 = (lastP p : Int) := by unfold lastP; omega
  have hTl := ht.1
  have hrl : (T.getD (lastP p) []).length ≤ 1048576 := (ht.2 _ (getD_mem (by omega))).1
  obtain ⟨row, hrow⟩ : ∃ row, T.getD (lastP p) [] = row := ⟨_, rfl⟩
  have hri := fun i (hi : i < row.length) => ht.row (i := lastP p) _ (by rw [hrow]; exact getD_mem (d := 0) hi)
  simp (contextual := true) (maxSteps := 1000000) (disch := omega) only [↓Sd, ↓So, ↓Sk, ↓den, ↓denA, Sa, Sb, Sc, Se, O1.d, O2.d, O3.d, cmI, arI, envOf, putN, ↓reduceIte, Nat.reduceLT, Nat.reduceSub, Nat.reduceAdd, Int.reduceAdd, Int.reduceEq, Int.reduceLT, Int.reduceLE, arr_pos, arr_neg, tr_spec_l15Go, h4, tab_len, tab_get h3, goL]
  intro _
  rw [hrow] at hrl ⊢
  refine lp_fst (fun i => [⟨L (L I), T⟩, ⟨L B, tab g n⟩, ⟨L I, p⟩, ⟨I, (k : Int) + 1⟩, ⟨I, (lastP p : Int)⟩, ⟨I, (i : Int)⟩]) (fun i => if row.getD i 0 ∈ p then [] else goL T g k (p ++ [row.getD i 0])) row.length _ rfl ?_ ?_ ?_
  ·intro i hi hf
   obtain ⟨x, hx⟩ : ∃ x, row.getD i 0 = x := ⟨_, rfl⟩
   have hxn := hri i hi
   rw [hx] at hf hxn
   have hC := C_spec_l15Go T g n ht hn k (p ++ [x]) (by simp) (by simp only [List.length_append, List.length_singleton]; omega) (fun y hy => by
    rcases List.mem_append.1 hy with hy | hy
    ·exact hpn y hy
    ·rw [List.mem_singleton.1 hy]; exact hxn)
   simp (contextual := true) (maxSteps := 1000000) (disch := omega) only [↓Sd, ↓So, ↓Sk, ↓den, ↓denA, Sa, Sb, Sc, Se, O1.d, O2.d, O3.d, cmI, arI, envOf, putN, ↓reduceIte, Nat.reduceLT, Nat.reduceSub, Nat.reduceAdd, Int.reduceAdd, Int.reduceEq, Int.reduceLT, Int.reduceLE, arr_pos, arr_neg, ↓wpJoin, hTl, hrow, hx, C_spec_l2Has p x (by omega), C_spec_l3Copy p (by omega), hC]
   intro e1 e2
   have e1' : ¬ x ∈ p := fun h => by rw [dB_t h] at e1; cases e1
   rw [if_neg e1'] at hf
   rw [hf] at e2; exact absurd e2 (by decide)
  ·intro i hi hf hN
   obtain ⟨x, hx⟩ : ∃ x, row.getD i 0 = x := ⟨_, rfl⟩
   have hxn := hri i hi
   rw [hN]
   rw [hx] at hf hxn ⊢
   have hC := C_spec_l15Go T g n ht hn k (p ++ [x]) (by simp) (by simp only [List.length_append, List.length_singleton]; omega) (fun y hy => by
    rcases List.mem_append.1 hy with hy | hy
    ·exact hpn y hy
    ·rw [List.mem_singleton.1 hy]; exact hxn)
   simp (contextual := true) (maxSteps := 1000000) (disch := omega) only [↓Sd, ↓So, ↓Sk, ↓den, ↓denA, Sa, Sb, Sc, Se, O1.d, O2.d, O3.d, cmI, arI, envOf, putN, ↓reduceIte, Nat.reduceLT, Nat.reduceSub, Nat.reduceAdd, Int.reduceAdd, Int.reduceEq, Int.reduceLT, Int.reduceLE, arr_pos, arr_neg, ↓wpJoin, hTl, hrow, hx, C_spec_l2Has p x (by omega), C_spec_l3Copy p (by omega), hC]
   have e1' : ¬ x ∈ p := fun h => hf (if_pos h)
   rw [if_neg e1'] at hf ⊢
   rw [dB_f e1']
   refine ⟨fun _ => ⟨fun _ => rfl, fun e2 => ?_⟩, fun h => (h rfl).elim⟩
   have := List.length_pos_iff.2 hf
   omega
  ·intro hN
   rw [hN]
   simp (contextual := true) (maxSteps := 1000000) (disch := omega) only [↓Sd, ↓So, ↓Sk, ↓den, ↓denA, Sa, Sb, Sc, Se, O1.d, O2.d, O3.d, cmI, arI, envOf, putN, ↓reduceIte, Nat.reduceLT, Nat.reduceSub, Nat.reduceAdd, Int.reduceAdd, Int.reduceEq, Int.reduceLT, Int.reduceLE, arr_pos, arr_neg, hTl, hrow]
theorem C_slices_Contains_int (l : List Int) (x : Int) (hl : l.length ≤ 1048576) (Q : List AV → Prop) : mc.C f_slices_Contains_Sint_int [⟨L I, l⟩, ⟨I, x⟩] Q = Q [⟨B, dB (x ∈ l)⟩] := by
 have hI : ∀ {Q : List AV → Prop}, (∀ j : Int, (0 ≤ j ↔ x ∈ l) → Q [⟨I, j⟩]) → mc.C f_slices_Index_Sint_int [⟨L I, l⟩, ⟨I, x⟩] Q := by
  intro Q hQ
  refine mc.c_of F_slices_Index_Sint_int ?_
  simp (contextual := true) (maxSteps := 1000000) (disch := omega) only [↓Sd, ↓So, ↓Sk, ↓den, ↓denA, Sa, Sb, Sc, Se, O1.d, O2.d, O3.d, cmI, arI, envOf, putN, ↓reduceIte, Nat.reduceLT, Nat.reduceSub, Nat.reduceAdd, Int.reduceAdd, Int.reduceEq, Int.reduceLT, Int.reduceLE, arr_pos, arr_neg, tr_slices_Index_Sint_int]
  refine lp_all (fun i => [⟨L I, l⟩, ⟨I, x⟩, ⟨I, (l.length : Int)⟩, ⟨I, (i : Int)⟩]) (fun i => ¬ x = l.getD i 0) l.length _ rfl ?_ ?_
  ·intro i hi
   simp (contextual := true) (maxSteps := 1000000) (disch := omega) only [↓Sd, ↓So, ↓Sk, ↓den, ↓denA, Sa, Sb, Sc, Se, O1.d, O2.d, O3.d, cmI, arI, envOf, putN, ↓reduceIte, Nat.reduceLT, Nat.reduceSub, Nat.reduceAdd, Int.reduceAdd, Int.reduceEq, Int.reduceLT, Int.reduceLE, arr_pos, arr_neg, ]
   intro h
   refine hQ _ ⟨fun _ => ?_, fun _ => by omega⟩
   rw [h]; exact getD_mem hi
  ·intro h
   simp (contextual := true) (maxSteps := 1000000) (disch := omega) only [↓Sd, ↓So, ↓Sk, ↓den, ↓denA, Sa, Sb, Sc, Se, O1.d, O2.d, O3.d, cmI, arI, envOf, putN, ↓reduceIte, Nat.reduceLT, Nat.reduceSub, Nat.reduceAdd, Int.reduceAdd, Int.reduceEq, Int.reduceLT, Int.reduceLE, arr_pos, arr_neg, ]
   refine hQ _ ⟨fun h => by omega, fun hx => ?_⟩
   obtain ⟨i, hi, rfl⟩ := List.getElem_of_mem hx
   exact absurd (getD_lt hi).symm (h i hi)
 refine Mc.Ends.c (mc.ends F_slices_Contains_Sint_int ?_)
 simp (contextual := true) (maxSteps := 1000000) (disch := omega) only [↓Sd, ↓So, ↓Sk, ↓den, ↓denA, Sa, Sb, Sc, Se, O1.d, O2.d, O3.d, cmI, arI, envOf, putN, ↓reduceIte, Nat.reduceLT, Nat.reduceSub, Nat.reduceAdd, Int.reduceAdd, Int.reduceEq, Int.reduceLT, Int.reduceLE, arr_pos, arr_neg, tr_slices_Contains_Sint_int]
 refine hI fun j hj => ?_
 simp (contextual := true) (maxSteps := 1000000) (disch := omega) only [↓Sd, ↓So, ↓Sk, ↓den, ↓denA, Sa, Sb, Sc, Se, O1.d, O2.d, O3.d, cmI, arI, envOf, putN, ↓reduceIte, Nat.reduceLT, Nat.reduceSub, Nat.reduceAdd, Int.reduceAdd, Int.reduceEq, Int.reduceLT, Int.reduceLE, arr_pos, arr_neg, ]
 rw [← dB_eq]
 exact dB_congr hj
theorem C_impl_loopless_1 (T : List (List Int)) (g : Nat → Bool) (n : Nat) (ht : Tbl T n) (hn : n ≤ 1000) (K : Nat) (hK : K ≤ 500) : ∀ (k : Nat) (p : List Int), p ≠ [] → p.length + k = K + 1 → (∀ x ∈ p, 0 ≤ x ∧ x < (n : Int)) → ∀ (Q : List AV → Prop), mc.C f_impl_loopless_1 [⟨L I, p⟩, ⟨I, (K : Int)⟩, ⟨L B, tab g n⟩, ⟨L (L I), T⟩, ⟨B, true⟩] Q = Q [⟨N I, goL T g k p⟩, ⟨I, (K : Int)⟩, ⟨L B, tab g n⟩, ⟨L (L I), T⟩, ⟨B, true⟩]
 | 0, p, hp, hpl, hpn, Q => by
  refine Mc.Ends.c (mc.ends F_impl_loopless_1 ?_)
  have h1 : 0 < p.length := List.length_pos_iff.2 hp
  have h2 := hpn _ (getD_mem (l := p) (i := p.length - 1) (d := 0) (by omega))
  have h3 : lastP p < n := by unfold lastP; omega
  have h4 : p.getD (p.length - 1) 0 = (lastP p : Int) := by unfold lastP; omega
  have hKp : p.length - 1 = K := by omega
  have h5 : p.getD K 0 = (lastP p : Int) := by rw [← hKp]; exact h4
  have h6 : p.isEmpty = false := by cases p with | nil => exact absurd rfl hp | cons => rfl
  simp (contextual := true) (maxSteps := 1000000) (disch := omega) only [↓Sd, ↓So, ↓Sk, ↓den, ↓denA, Sa, Sb, Sc, Se, O1.d, O2.d, O3.d, cmI, arI, envOf, putN, ↓reduceIte, Nat.reduceLT, Nat.reduceSub, Nat.reduceAdd, Int.reduceAdd, Int.reduceEq, Int.reduceLT, Int.reduceLE, arr_pos, arr_neg, tr_impl_loopless_1, h5, h4, tab_len, tab_get h3, goL, h6]
 | k + 1, p, hp, hpl, hpn, Q => by
  refine Mc.Ends.c (mc.ends F_impl_loopless_1 ?_)
  have h1 : 0 < p.length := List.length_pos_iff.2 hp
  have h2 := hpn _ (getD_mem (l := p) (i := p.length - 1) (d := 0) (by omega))
  have h3 : lastP p < n := by unfold lastP; omega
  have h4 : p.getD (p.length - 1) 0 = (lastP p : Int) := by unfold lastP; omega
  have hTl := ht.1
  have hrl : (T.getD (lastP p) []).length ≤ 1048576 := (ht.2 _ (getD_mem (by omega))).1
  obtain ⟨row, hrow⟩ : ∃ row, T.getD (lastP p) [] = row := ⟨_, rfl⟩
  have hri := fun i (hi : i < row.length) => ht.row (i := lastP p) _ (by rw [hrow]; exact getD_mem (d := 0) hi)
  simp (contextual := true) (maxSteps := 1000000) (disch := omega) only [↓Sd, ↓So, ↓Sk, ↓den, ↓denA, Sa, Sb, Sc, Se, O1.d, O2.d, O3.d, cmI, arI, envOf, putN, ↓reduceIte, Nat.reduceLT, Nat.reduceSub, Nat.reduceAdd, Int.reduceAdd, Int.reduceEq, Int.reduceLT, Int.reduceLE, arr_pos, arr_neg, tr_impl_loopless_1, h4, tab_len, tab_get h3, goL]
  intro _
  rw [hrow] at hrl ⊢
  refine lp_fst (fun i => [⟨L I, p⟩, ⟨L I, row⟩, ⟨I, (row.length : Int)⟩, ⟨I, (i : Int)⟩, ⟨I, (K : Int)⟩, ⟨L B, tab g n⟩, ⟨L (L I), T⟩]) (fun i => if row.getD i 0 ∈ p then [] else goL T g k (p ++ [row.getD i 0])) row.length _ rfl ?_ ?_ ?_
  ·intro i hi hf
   obtain ⟨x, hx⟩ : ∃ x, row.getD i 0 = x := ⟨_, rfl⟩
   have hxn := hri i hi
   rw [hx] at hf hxn
   have hC := C_impl_loopless_1 T g n ht hn K hK k (p ++ [x]) (by simp) (by simp only [List.length_append, List.length_singleton]; omega) (fun y hy => by
    rcases List.mem_append.1 hy with hy | hy
    ·exact hpn y hy
    ·rw [List.mem_singleton.1 hy]; exact hxn)
   simp (contextual := true) (maxSteps := 1000000) (disch := omega) only [↓Sd, ↓So, ↓Sk, ↓den, ↓denA, Sa, Sb, Sc, Se, O1.d, O2.d, O3.d, cmI, arI, envOf, putN, ↓reduceIte, Nat.reduceLT, Nat.reduceSub, Nat.reduceAdd, Int.reduceAdd, Int.reduceEq, Int.reduceLT, Int.reduceLE, arr_pos, arr_neg, ↓wpJoin, hTl, hx, C_slices_Contains_int p x (by omega), List.take_length, hC]
   intro e1 e2
   have e1' : ¬ x ∈ p := fun h => by rw [dB_t h] at e1; cases e1
   rw [if_neg e1'] at hf
   rw [hf] at e2; cases e2
  ·intro i hi hf hN
   obtain ⟨x, hx⟩ : ∃ x, row.getD i 0 = x := ⟨_, rfl⟩
   have hxn := hri i hi
   rw [hN]
   rw [hx] at hf hxn ⊢
   have hC := C_impl_loopless_1 T g n ht hn K hK k (p ++ [x]) (by simp) (by simp only [List.length_append, List.length_singleton]; omega) (fun y hy => by
    rcases List.mem_append.1 hy with hy | hy
    ·exact hpn y hy
    ·rw [List.mem_singleton.1 hy]; exact hxn)
   simp (contextual := true) (maxSteps := 1000000) (disch := omega) only [↓Sd, ↓So, ↓Sk, ↓den, ↓denA, Sa, Sb, Sc, Se, O1.d, O2.d, O3.d, cmI, arI, envOf, putN, ↓reduceIte, Nat.reduceLT, Nat.reduceSub, Nat.reduceAdd, Int.reduceAdd, Int.reduceEq, Int.reduceLT, Int.reduceLE, arr_pos, arr_neg, ↓wpJoin, hTl, hx, C_slices_Contains_int p x (by omega), List.take_length, hC]
   have e1' : ¬ x ∈ p := fun h => hf (if_pos h)
   rw [if_neg e1'] at hf ⊢
   rw [dB_f e1']
   refine ⟨fun _ => ⟨fun _ => rfl, fun e2 => ?_⟩, fun h => (h rfl).elim⟩
   exact e2 (by simpa using hf)
  ·intro hN
   rw [hN]
   simp (contextual := true) (maxSteps := 1000000) (disch := omega) only [↓Sd, ↓So, ↓Sk, ↓den, ↓denA, Sa, Sb, Sc, Se, O1.d, O2.d, O3.d, cmI, arI, envOf, putN, ↓reduceIte, Nat.reduceLT, Nat.reduceSub, Nat.reduceAdd, Int.reduceAdd, Int.reduceEq, Int.reduceLT, Int.reduceLE, arr_pos, arr_neg, hTl]
theorem C_impl_loopless (T : List (List Int)) (g : Nat → Bool) (n : Nat) (ht : Tbl T n) (hn : n ≤ 1000) (K : Nat) (hK : K ≤ 500) (Q : List AV → Prop) : mc.C f_impl_loopless [⟨L (L I), T⟩, ⟨L B, tab g n⟩, ⟨I, (K : Int)⟩] Q = Q [⟨N I, fneN (fun i => goL T g K [(i : Int)]) n⟩] := by
 refine Mc.Ends.c (mc.ends F_impl_loopless ?_)
 have hTl := ht.1
 have hC := fun i (hi : i < n) => C_impl_loopless_1 T g n ht hn K hK K [(i : Int)] (by simp) (by simp only [List.length_singleton]; omega) (fun y hy => by rw [List.mem_singleton.1 hy]; omega)
 simp (contextual := true) (maxSteps := 1000000) (disch := omega) only [↓Sd, ↓So, ↓Sk, ↓den, ↓denA, Sa, Sb, Sc, Se, O1.d, O2.d, O3.d, cmI, arI, envOf, putN, ↓reduceIte, Nat.reduceLT, Nat.reduceSub, Nat.reduceAdd, Int.reduceAdd, Int.reduceEq, Int.reduceLT, Int.reduceLE, arr_pos, arr_neg, tr_impl_loopless, hTl]
 refine lp_fst (fun i => [⟨I, (n : Int)⟩, ⟨I, (i : Int)⟩, ⟨I, (K : Int)⟩, ⟨L B, tab g n⟩, ⟨L (L I), T⟩]) (fun i => goL T g K [(i : Int)]) n _ rfl ?_ ?_ ?_
 ·intro i hi hf
  simp (contextual := true) (maxSteps := 1000000) (disch := omega) only [↓Sd, ↓So, ↓Sk, ↓den, ↓denA, Sa, Sb, Sc, Se, O1.d, O2.d, O3.d, cmI, arI, envOf, putN, ↓reduceIte, Nat.reduceLT, Nat.reduceSub, Nat.reduceAdd, Int.reduceAdd, Int.reduceEq, Int.reduceLT, Int.reduceLE, arr_pos, arr_neg, hC i hi, hf, List.isEmpty_nil]
 ·intro i hi hf hN
  rw [hN]
  simp (contextual := true) (maxSteps := 1000000) (disch := omega) only [↓Sd, ↓So, ↓Sk, ↓den, ↓denA, Sa, Sb, Sc, Se, O1.d, O2.d, O3.d, cmI, arI, envOf, putN, ↓reduceIte, Nat.reduceLT, Nat.reduceSub, Nat.reduceAdd, Int.reduceAdd, Int.reduceEq, Int.reduceLT, Int.reduceLE, arr_pos, arr_neg, hC i hi]
  intro h
  exact h (by simpa using hf)
 ·intro hN
  rw [hN]
  simp (contextual := true) (maxSteps := 1000000) (disch := omega) only [↓Sd, ↓So, ↓Sk, ↓den, ↓denA, Sa, Sb, Sc, Se, O1.d, O2.d, O3.d, cmI, arI, envOf, putN, ↓reduceIte, Nat.reduceLT, Nat.reduceSub, Nat.reduceAdd, Int.reduceAdd, Int.reduceEq, Int.reduceLT, Int.reduceLE, arr_pos, arr_neg, ]
theorem C_spec_l15Asked (s : Sy) (l : List Tm) (k : Int) (hs : FewSy s) (hf : Few l) (Q : List AV → Prop) : mc.C f_spec_l15Asked [⟨L V3, s.1⟩, ⟨L TR, s.2⟩, ⟨L T4, l⟩, ⟨I, k⟩] Q = Q [⟨B, dB ((valid s ∧ kf l s.1.length = 2) ∧ 1 ≤ k ∧ k ≤ 6)⟩] := by
 refine Mc.Ends.c (mc.ends F_spec_l15Asked ?_)
 generalize hK : dB ((valid s ∧ kf l s.1.length = 2) ∧ 1 ≤ k ∧ k ≤ 6) = K
 simp (contextual := true) (maxSteps := 1000000) (disch := omega) only [↓Sd, ↓So, ↓Sk, ↓den, ↓denA, Sa, Sb, Sc, Se, O1.d, O2.d, O3.d, cmI, arI, envOf, putN, ↓reduceIte, Nat.reduceLT, Nat.reduceSub, Nat.reduceAdd, Int.reduceAdd, Int.reduceEq, Int.reduceLT, Int.reduceLE, arr_pos, arr_neg, tr_spec_l15Asked, C_spec_SystemValid s hs, C_spec_l2Is l s.1.length 2 hf (by omega), C_spec_l1In]
 refine ⟨fun h1 => ⟨fun h2 => ?_, fun h2 => ?_⟩, fun h1 => ?_⟩
 ·rw [← hK, ← dB_eq]; exact dB_congr ⟨fun h => ⟨⟨h1, h2⟩, h⟩, fun h => h.2⟩
 ·rw [← hK, dB_f fun h => h2 h.1.2]
 ·rw [← hK, dB_f fun h => h1 h.1.1]
theorem C_spec_l15Good (s : Sy) (l : List Tm) (hs : FewSy s) (hf : Few l) (h : valid s ∧ kf l s.1.length = 2) (Q : List AV → Prop) : mc.C f_spec_l15Good [⟨L V3, s.1⟩, ⟨L TR, s.2⟩, ⟨L T4, l⟩] Q = Q [⟨L B, tab (holdsN s l) (szn s.1)⟩] := by
 refine Mc.Ends.c (mc.ends F_spec_l15Good ?_)
 have hz := szn_eq h.1
 simp (contextual := true) (maxSteps := 1000000) (disch := omega) only [↓Sd, ↓So, ↓Sk, ↓den, ↓denA, Sa, Sb, Sc, Se, O1.d, O2.d, O3.d, cmI, arI, envOf, putN, ↓reduceIte, Nat.reduceLT, Nat.reduceSub, Nat.reduceAdd, Int.reduceAdd, Int.reduceEq, Int.reduceLT, Int.reduceLE, arr_pos, arr_neg, tr_spec_l15Good, C_spec_StatesWhere s l hs hf h.1 h.2, C_spec_SizeOf s hs, if_pos h.1, C_spec_l4Marks_i (upTo (holdsN s l) (szn s.1)) (sz s.1) (szn s.1) hz.1.symm (by omega) (Nat.le_trans upTo_len (by omega)) (fun x hx => by obtain ⟨a, h1, rfl, _⟩ := upTo_mem.1 hx; omega)]
 exact tab_congr fun k hk => by rw [dB_upTo]; simp [hk]
def ikd (s : Sy) (l : List Tm) (k : Int) : Prop := (valid s ∧ kf l s.1.length = 2) ∧ 1 ≤ k ∧ k ≤ 6
def lpsK (s : Sy) (l : List Tm) (k : Nat) : List Int := fneN (fun i => goL (steps s) (holdsN s l) k [(i : Int)]) (szn s.1)
theorem C_spec_LooplessTo (s : Sy) (l : List Tm) (k : Nat) (hs : FewSy s) (hf : Few l) (h : ikd s l k) (Q : List AV → Prop) : mc.C f_spec_LooplessTo [⟨L V3, s.1⟩, ⟨L TR, s.2⟩, ⟨L T4, l⟩, ⟨I, (k : Int)⟩] Q = Q [⟨L I, lpsK s l k⟩, ⟨B, !(lpsK s l k).isEmpty⟩] := by
 refine Mc.Ends.c (mc.ends F_spec_LooplessTo ?_)
 have hv := h.1.1
 have hk := h.2
 have hz := szn_eq hv
 have ht := steps_tbl hv
 have hTl := ht.1
 have hC := fun i (hi : i < szn s.1) => C_spec_l15Go (steps s) (holdsN s l) (szn s.1) ht (by omega) k [(i : Int)] (by simp) (by simp only [List.length_singleton]; omega) (fun y hy => by rw [List.mem_singleton.1 hy]; omega)
 simp (contextual := true) (maxSteps := 1000000) (disch := omega) only [↓Sd, ↓So, ↓Sk, ↓den, ↓denA, Sa, Sb, Sc, Se, O1.d, O2.d, O3.d, cmI, arI, envOf, putN, ↓reduceIte, Nat.reduceLT, Nat.reduceSub, Nat.reduceAdd, Int.reduceAdd, Int.reduceEq, Int.reduceLT, Int.reduceLE, arr_pos, arr_neg, tr_spec_LooplessTo, C_spec_l15Asked s l k hs hf, dB_t (show (valid s ∧ kf l s.1.length = 2) ∧ 1 ≤ (k : Int) ∧ (k : Int) ≤ 6 from h), C_spec_l4Steps s hs hv, C_spec_l15Good s l hs hf h.1]
 refine lp_fst (fun i => [⟨I, (k : Int)⟩, ⟨L (L I), steps s⟩, ⟨L B, tab (holdsN s l) (szn s.1)⟩, ⟨I, (i : Int)⟩]) (fun i => goL (steps s) (holdsN s l) k [(i : Int)]) (szn s.1) _ rfl ?_ ?_ ?_
 ·intro i hi hf
  simp (contextual := true) (maxSteps := 1000000) (disch := omega) only [↓Sd, ↓So, ↓Sk, ↓den, ↓denA, Sa, Sb, Sc, Se, O1.d, O2.d, O3.d, cmI, arI, envOf, putN, ↓reduceIte, Nat.reduceLT, Nat.reduceSub, Nat.reduceAdd, Int.reduceAdd, Int.reduceEq, Int.reduceLT, Int.reduceLE, arr_pos, arr_neg, hTl, hC i hi, hf, List.length_nil]
 ·intro i hi hf hN
  have h1 := List.length_pos_iff.2 hf
  have h2 : lpsK s l k = goL (steps s) (holdsN s l) k [(i : Int)] := hN
  rw [h2]
  simp (contextual := true) (maxSteps := 1000000) (disch := omega) only [↓Sd, ↓So, ↓Sk, ↓den, ↓denA, Sa, Sb, Sc, Se, O1.d, O2.d, O3.d, cmI, arI, envOf, putN, ↓reduceIte, Nat.reduceLT, Nat.reduceSub, Nat.reduceAdd, Int.reduceAdd, Int.reduceEq, Int.reduceLT, Int.reduceLE, arr_pos, arr_neg, hTl, hC i hi]
  simpa using hf
 ·intro hN
  have h2 : lpsK s l k = [] := hN
  rw [h2]
  simp (contextual := true) (maxSteps := 1000000) (disch := omega) only [↓Sd, ↓So, ↓Sk, ↓den, ↓denA, Sa, Sb, Sc, Se, O1.d, O2.d, O3.d, cmI, arI, envOf, putN, ↓reduceIte, Nat.reduceLT, Nat.reduceSub, Nat.reduceAdd, Int.reduceAdd, Int.reduceEq, Int.reduceLT, Int.reduceLE, arr_pos, arr_neg, hTl, List.isEmpty_nil]
  rfl
def kbs (s : Sy) (l : List Tm) (k : Int) : Prop := ∀ i, i < szn s.1 → 0 ≤ dS s i ∧ dS s i ≤ k - 1 → holdsN s l i = true
def kin (s : Sy) (l : List Tm) (k : Int) : Prop := ikd s l k ∧ kbs s l k ∧ lpsK s l k.toNat = []
theorem ecc_dS (s : Sy) : ecc s = tab (dS s) (szn s.1) := rfl
theorem C_spec_l15Base (s : Sy) (l : List Tm) (k : Int) (hs : FewSy s) (hf : Few l) (h : ikd s l k) (Q : List AV → Prop) : mc.C f_spec_l15Base [⟨L V3, s.1⟩, ⟨L TR, s.2⟩, ⟨L T4, l⟩, ⟨I, k⟩] Q = Q [⟨B, dB (kbs s l k)⟩] := by
 refine Mc.Ends.c (mc.ends F_spec_l15Base ?_)
 have hv := h.1.1
 have hk := h.2
 have hz := szn_eq hv
 generalize hK : dB (kbs s l k) = K
 simp (contextual := true) (maxSteps := 1000000) (disch := omega) only [↓Sd, ↓So, ↓Sk, ↓den, ↓denA, Sa, Sb, Sc, Se, O1.d, O2.d, O3.d, cmI, arI, envOf, putN, ↓reduceIte, Nat.reduceLT, Nat.reduceSub, Nat.reduceAdd, Int.reduceAdd, Int.reduceEq, Int.reduceLT, Int.reduceLE, arr_pos, arr_neg, tr_spec_l15Base, C_spec_StepsTo s hs, if_pos hv, ecc_dS, C_spec_l15Good s l hs hf h.1]
 refine lp_all (fun i => [⟨I, k⟩, ⟨I, (i : Int)⟩, ⟨L I, tab (dS s) (szn s.1)⟩, ⟨L B, tab (holdsN s l) (szn s.1)⟩]) (fun i => 0 ≤ dS s i ∧ dS s i ≤ k - 1 → holdsN s l i = true) (szn s.1) _ rfl ?_ ?_
 ·intro i hi
  simp (contextual := true) (maxSteps := 1000000) (disch := omega) only [↓Sd, ↓So, ↓Sk, ↓den, ↓denA, Sa, Sb, Sc, Se, O1.d, O2.d, O3.d, cmI, arI, envOf, putN, ↓reduceIte, Nat.reduceLT, Nat.reduceSub, Nat.reduceAdd, Int.reduceAdd, Int.reduceEq, Int.reduceLT, Int.reduceLE, arr_pos, arr_neg, ↓wpJoin, tab_len, tab_get hi, C_spec_l1In]
  intro h1 h2
  rw [← hK, dB_f]
  intro g
  rw [g i hi h2] at h1; cases h1
 ·intro hp
  simp (contextual := true) (maxSteps := 1000000) (disch := omega) only [↓Sd, ↓So, ↓Sk, ↓den, ↓denA, Sa, Sb, Sc, Se, O1.d, O2.d, O3.d, cmI, arI, envOf, putN, ↓reduceIte, Nat.reduceLT, Nat.reduceSub, Nat.reduceAdd, Int.reduceAdd, Int.reduceEq, Int.reduceLT, Int.reduceLE, arr_pos, arr_neg, tab_len]
  rw [← hK, dB_t]
  exact hp
theorem C_spec_KInductive (s : Sy) (l : List Tm) (k : Int) (hs : FewSy s) (hf : Few l) (Q : List AV → Prop) : mc.C f_spec_KInductive [⟨L V3, s.1⟩, ⟨L TR, s.2⟩, ⟨L T4, l⟩, ⟨I, k⟩] Q = Q [⟨B, dB (kin s l k)⟩] := by
 refine Mc.Ends.c (mc.ends F_spec_KInductive ?_)
 generalize hK : dB (kin s l k) = K
 by_cases h : ikd s l k
 ·obtain ⟨m, rfl⟩ : ∃ m : Nat, k = m := ⟨k.toNat, by have := h.2; omega⟩
  simp (contextual := true) (maxSteps := 1000000) (disch := omega) only [↓Sd, ↓So, ↓Sk, ↓den, ↓denA, Sa, Sb, Sc, Se, O1.d, O2.d, O3.d, cmI, arI, envOf, putN, ↓reduceIte, Nat.reduceLT, Nat.reduceSub, Nat.reduceAdd, Int.reduceAdd, Int.reduceEq, Int.reduceLT, Int.reduceLE, arr_pos, arr_neg, tr_spec_KInductive, C_spec_l15Asked s l m hs hf, dB_t (show (valid s ∧ kf l s.1.length = 2) ∧ 1 ≤ (m : Int) ∧ (m : Int) ≤ 6 from h), C_spec_l15Base s l m hs hf h, C_spec_LooplessTo s l m hs hf h]
  refine ⟨fun h1 => ?_, fun h1 => ?_⟩
  ·rw [← hK, dB_f]
   intro g
   rw [dB_t g.2.1] at h1; cases h1
  ·have hb : kbs s l m := Classical.byContradiction fun g => h1 (dB_f g)
   by_cases e : lpsK s l m = []
   ·rw [← hK, dB_t (show kin s l m from ⟨h, hb, by rw [Int.toNat_natCast]; exact e⟩), e]; rfl
   ·rw [← hK, dB_f (show ¬ kin s l m from fun g => e (by have := g.2.2; rwa [Int.toNat_natCast] at this))]
    simpa using e
 ·simp (contextual := true) (maxSteps := 1000000) (disch := omega) only [↓Sd, ↓So, ↓Sk, ↓den, ↓denA, Sa, Sb, Sc, Se, O1.d, O2.d, O3.d, cmI, arI, envOf, putN, ↓reduceIte, Nat.reduceLT, Nat.reduceSub, Nat.reduceAdd, Int.reduceAdd, Int.reduceEq, Int.reduceLT, Int.reduceLE, arr_pos, arr_neg, tr_spec_KInductive, C_spec_l15Asked s l k hs hf, dB_f (show ¬ ((valid s ∧ kf l s.1.length = 2) ∧ 1 ≤ k ∧ k ≤ 6) from h)]
  rw [← hK, dB_f fun g => h g.1]
theorem C_impl_KInductive (s : Sy) (l : List Tm) (k : Int) (hs : FewSy s) (hf : Few l) (Q : List AV → Prop) : mc.C f_impl_KInductive [⟨L V3, s.1⟩, ⟨L TR, s.2⟩, ⟨L T4, l⟩, ⟨I, k⟩] Q = Q [⟨B, dB (kin s l k)⟩] := by
 refine Mc.Ends.c (mc.ends F_impl_KInductive ?_)
 generalize hK : dB (kin s l k) = K
 by_cases hv2 : valid s ∧ kf l s.1.length = 2
 ·by_cases hk : 1 ≤ k ∧ k ≤ 6
  ·have h : ikd s l k := ⟨hv2, hk⟩
   have hv := h.1.1
   have hz := szn_eq hv
   have ht := steps_tbl hv
   have hfi := fst0_in hv.2.2.1
   have hbd := num_bd hv.2.2.1 hfi
   obtain ⟨m, hm⟩ : ∃ m : Nat, num s.1 (fst0 s.1) = m := ⟨(num s.1 (fst0 s.1)).toNat, by omega⟩
   have e2 : tab (dst (steps s) [(m : Int)]) (szn s.1) = tab (dS s) (szn s.1) := by rw [← hm]; rfl
   have hlo : ∀ Q : List AV → Prop, mc.C f_impl_loopless [⟨L (L I), steps s⟩, ⟨L B, tab (holdsN s l) (szn s.1)⟩, ⟨I, k⟩] Q = Q [⟨N I, lpsK s l k.toNat⟩] := fun Q => by
    have := C_impl_loopless (steps s) (holdsN s l) (szn s.1) ht (by omega) k.toNat (by omega) Q
    rw [show ((k.toNat : Nat) : Int) = k by omega] at this
    exact this
   simp (contextual := true) (maxSteps := 1000000) (disch := omega) only [↓Sd, ↓So, ↓Sk, ↓den, ↓denA, Sa, Sb, Sc, Se, O1.d, O2.d, O3.d, cmI, arI, envOf, putN, ↓reduceIte, Nat.reduceLT, Nat.reduceSub, Nat.reduceAdd, Int.reduceAdd, Int.reduceEq, Int.reduceLT, Int.reduceLE, arr_pos, arr_neg, tr_impl_KInductive, C_impl_goodIn s l hs hf hv2, C_impl_in, decide_eq_true hk, C_impl_nexts s hv, C_impl_first s hv.1.2, C_impl_number s _ hv.1.2 hv.2.2.1 hfi, hm, C_impl_steps (steps s) m (szn s.1) (by omega) (by omega) ht, e2]
   refine lp_all (fun i => [⟨I, k⟩, ⟨I, (szn s.1 : Int)⟩, ⟨I, (i : Int)⟩, ⟨L B, tab (holdsN s l) (szn s.1)⟩, ⟨L (L I), steps s⟩, ⟨L I, tab (dS s) (szn s.1)⟩]) (fun i => 0 ≤ dS s i ∧ dS s i ≤ k - 1 → holdsN s l i = true) (szn s.1) _ (by rw [tab_len]; rfl) ?_ ?_
   ·intro i hi
    simp (contextual := true) (maxSteps := 1000000) (disch := omega) only [↓Sd, ↓So, ↓Sk, ↓den, ↓denA, Sa, Sb, Sc, Se, O1.d, O2.d, O3.d, cmI, arI, envOf, putN, ↓reduceIte, Nat.reduceLT, Nat.reduceSub, Nat.reduceAdd, Int.reduceAdd, Int.reduceEq, Int.reduceLT, Int.reduceLE, arr_pos, arr_neg, ↓wpJoin, tab_len, tab_get hi, C_impl_in]
    intro h1 h2
    rw [← hK, dB_f]
    intro g
    rw [g.2.1 i hi h1] at h2; cases h2
   ·intro hp
    simp (contextual := true) (maxSteps := 1000000) (disch := omega) only [↓Sd, ↓So, ↓Sk, ↓den, ↓denA, Sa, Sb, Sc, Se, O1.d, O2.d, O3.d, cmI, arI, envOf, putN, ↓reduceIte, Nat.reduceLT, Nat.reduceSub, Nat.reduceAdd, Int.reduceAdd, Int.reduceEq, Int.reduceLT, Int.reduceLE, arr_pos, arr_neg, tab_len, hlo]
    by_cases e : lpsK s l k.toNat = []
    ·rw [← hK, dB_t (show kin s l k from ⟨h, hp, e⟩), e]; rfl
    ·rw [← hK, dB_f (show ¬ kin s l k from fun g => e g.2.2)]
     simpa using e
  ·simp (contextual := true) (maxSteps := 1000000) (disch := omega) only [↓Sd, ↓So, ↓Sk, ↓den, ↓denA, Sa, Sb, Sc, Se, O1.d, O2.d, O3.d, cmI, arI, envOf, putN, ↓reduceIte, Nat.reduceLT, Nat.reduceSub, Nat.reduceAdd, Int.reduceAdd, Int.reduceEq, Int.reduceLT, Int.reduceLE, arr_pos, arr_neg, tr_impl_KInductive, C_impl_goodIn s l hs hf hv2, C_impl_in, decide_eq_false hk]
   rw [← hK, dB_f fun g => hk g.1.2]
 ·simp (contextual := true) (maxSteps := 1000000) (disch := omega) only [↓Sd, ↓So, ↓Sk, ↓den, ↓denA, Sa, Sb, Sc, Se, O1.d, O2.d, O3.d, cmI, arI, envOf, putN, ↓reduceIte, Nat.reduceLT, Nat.reduceSub, Nat.reduceAdd, Int.reduceAdd, Int.reduceEq, Int.reduceLT, Int.reduceLE, arr_pos, arr_neg, tr_impl_KInductive, C_impl_goodIn_no s l hs hf hv2]
  rw [← hK, dB_f fun g => hv2 g.1.1]
def IsLst (s : Sy) (l : List Tm) (r : Int) : Prop := (r = -1 ∧ ∀ j, 1 ≤ j → j ≤ 6 → ¬ kin s l j) ∨ (1 ≤ r ∧ r ≤ 6 ∧ kin s l r ∧ ∀ j, 1 ≤ j → j < r → ¬ kin s l j)
theorem lst_ex (s : Sy) (l : List Tm) : ∃ r, IsLst s l r := by
 have key : ∀ n : Nat, n ≤ 6 → (∀ j : Int, 1 ≤ j → j ≤ n → ¬ kin s l j) ∨ ∃ r : Int, 1 ≤ r ∧ r ≤ 6 ∧ kin s l r ∧ ∀ j, 1 ≤ j → j < r → ¬ kin s l j := by
  intro n
  induction n with
  | zero => intro _; exact .inl fun j h1 h2 => by omega
  | succ n ih =>
   intro hn
   rcases ih (by omega) with h | h
   ·by_cases hk : kin s l ((n : Int) + 1)
    ·exact .inr ⟨_, by omega, by omega, hk, fun j h1 h2 => h j h1 (by omega)⟩
    ·refine .inl fun j h1 h2 => ?_
     by_cases e : j = (n : Int) + 1
     ·rw [e]; exact hk
     ·exact h j h1 (by omega)
   ·exact .inr h
 rcases key 6 (by omega) with h | ⟨r, h⟩
 ·exact ⟨-1, .inl ⟨rfl, fun j h1 h2 => h j h1 (by omega)⟩⟩
 ·exact ⟨r, .inr h⟩
theorem IsLst.at {s : Sy} {l : List Tm} {r j : Int} (h : IsLst s l r) (h1 : 1 ≤ j) (h6 : j ≤ 6) (hk : kin s l j) (hp : ∀ i, 1 ≤ i → i < j → ¬ kin s l i) : r = j := by
 rcases h with ⟨_, h⟩ | ⟨h2, h3, h4, h5⟩
 ·exact absurd hk (h j h1 h6)
 ·rcases Int.lt_trichotomy r j with h7 | h7 | h7
  ·exact absurd h4 (hp r h2 h7)
  ·exact h7
  ·exact absurd hk (h5 j h1 h7)
theorem IsLst.no {s : Sy} {l : List Tm} {r : Int} (h : IsLst s l r) (hp : ∀ i, 1 ≤ i → i ≤ 6 → ¬ kin s l i) : r = -1 := by
 rcases h with ⟨h, _⟩ | ⟨h2, h3, h4, h5⟩
 ·exact h
 ·exact absurd h4 (hp r h2 h3)
theorem C_spec_LeastInduction (s : Sy) (l : List Tm) (r : Int) (hs : FewSy s) (hf : Few l) (h : IsLst s l r) (Q : List AV → Prop) : mc.C f_spec_LeastInduction [⟨L V3, s.1⟩, ⟨L TR, s.2⟩, ⟨L T4, l⟩] Q = Q [⟨I, r⟩] := by
 refine Mc.Ends.c (mc.ends F_spec_LeastInduction ?_)
 simp (contextual := true) (maxSteps := 1000000) (disch := omega) only [↓Sd, ↓So, ↓Sk, ↓den, ↓denA, Sa, Sb, Sc, Se, O1.d, O2.d, O3.d, cmI, arI, envOf, putN, ↓reduceIte, Nat.reduceLT, Nat.reduceSub, Nat.reduceAdd, Int.reduceAdd, Int.reduceEq, Int.reduceLT, Int.reduceLE, arr_pos, arr_neg, tr_spec_LeastInduction]
 refine mc.lp_for Unit (fun i _ => [⟨L T4, l⟩, ⟨I, ((i + 1 : Nat) : Int)⟩, ⟨L V3, s.1⟩, ⟨L TR, s.2⟩]) (fun i _ => ∀ j : Int, 1 ≤ j → j ≤ i → ¬ kin s l j) 6 0 () _ rfl (by omega) (fun j h1 h2 => by omega) ?_ ?_
 ·rintro i - hi hp
  simp (contextual := true) (maxSteps := 1000000) (disch := omega) only [↓Sd, ↓So, ↓Sk, ↓den, ↓denA, Sa, Sb, Sc, Se, O1.d, O2.d, O3.d, cmI, arI, envOf, putN, ↓reduceIte, Nat.reduceLT, Nat.reduceSub, Nat.reduceAdd, Int.reduceAdd, Int.reduceEq, Int.reduceLT, Int.reduceLE, arr_pos, arr_neg, C_spec_KInductive s l ((i : Int) + 1) hs hf]
  refine ⟨fun h1 => (h.at (by omega) (by omega) (dB_iff.1 h1) fun j h2 h3 => hp j h2 (by omega)).symm, fun h1 j h2 h3 => ?_⟩
  by_cases e : j = (i : Int) + 1
  ·rw [e]; exact fun g => h1 (dB_t g)
  ·exact hp j h2 (by omega)
 ·rintro - hp
  simp (contextual := true) (maxSteps := 1000000) (disch := omega) only [↓Sd, ↓So, ↓Sk, ↓den, ↓denA, Sa, Sb, Sc, Se, O1.d, O2.d, O3.d, cmI, arI, envOf, putN, ↓reduceIte, Nat.reduceLT, Nat.reduceSub, Nat.reduceAdd, Int.reduceAdd, Int.reduceEq, Int.reduceLT, Int.reduceLE, arr_pos, arr_neg, ]
  rw [h.no fun j h1 h2 => hp j h1 (by omega)]
theorem C_impl_LeastInduction (s : Sy) (l : List Tm) (r : Int) (hs : FewSy s) (hf : Few l) (h : IsLst s l r) (Q : List AV → Prop) : mc.C f_impl_LeastInduction [⟨L V3, s.1⟩, ⟨L TR, s.2⟩, ⟨L T4, l⟩] Q = Q [⟨I, r⟩] := by
 refine Mc.Ends.c (mc.ends F_impl_LeastInduction ?_)
 simp (contextual := true) (maxSteps := 1000000) (disch := omega) only [↓Sd, ↓So, ↓Sk, ↓den, ↓denA, Sa, Sb, Sc, Se, O1.d, O2.d, O3.d, cmI, arI, envOf, putN, ↓reduceIte, Nat.reduceLT, Nat.reduceSub, Nat.reduceAdd, Int.reduceAdd, Int.reduceEq, Int.reduceLT, Int.reduceLE, arr_pos, arr_neg, tr_impl_LeastInduction]
 refine mc.lp_for Unit (fun i _ => [⟨L T4, l⟩, ⟨I, ((i + 1 : Nat) : Int)⟩, ⟨L V3, s.1⟩, ⟨L TR, s.2⟩]) (fun i _ => ∀ j : Int, 1 ≤ j → j ≤ i → ¬ kin s l j) 6 0 () _ rfl (by omega) (fun j h1 h2 => by omega) ?_ ?_
 ·rintro i - hi hp
  simp (contextual := true) (maxSteps := 1000000) (disch := omega) only [↓Sd, ↓So, ↓Sk, ↓den, ↓denA, Sa, Sb, Sc, Se, O1.d, O2.d, O3.d, cmI, arI, envOf, putN, ↓reduceIte, Nat.reduceLT, Nat.reduceSub, Nat.reduceAdd, Int.reduceAdd, Int.reduceEq, Int.reduceLT, Int.reduceLE, arr_pos, arr_neg, C_impl_KInductive s l ((i : Int) + 1) hs hf]
  refine ⟨fun h1 => (h.at (by omega) (by omega) (dB_iff.1 h1) fun j h2 h3 => hp j h2 (by omega)).symm, fun h1 j h2 h3 => ?_⟩
  by_cases e : j = (i : Int) + 1
  ·rw [e]; exact fun g => h1 (dB_t g)
  ·exact hp j h2 (by omega)
 ·rintro - hp
  simp (contextual := true) (maxSteps := 1000000) (disch := omega) only [↓Sd, ↓So, ↓Sk, ↓den, ↓denA, Sa, Sb, Sc, Se, O1.d, O2.d, O3.d, cmI, arI, envOf, putN, ↓reduceIte, Nat.reduceLT, Nat.reduceSub, Nat.reduceAdd, Int.reduceAdd, Int.reduceEq, Int.reduceLT, Int.reduceLE, arr_pos, arr_neg, ]
  rw [h.no fun j h1 h2 => hp j h1 (by omega)]
theorem law_FnExactKInductive (s : Sy) (l : List Tm) (k : Int) (hs : LtSy s) (hl : Lt63 l) : mc.C f_laws_FnExactKInductive [⟨L V3, s.1⟩, ⟨L TR, s.2⟩, ⟨L T4, l⟩, ⟨I, k⟩] (· = [⟨B, true⟩]) := by
 refine mc.c_of F_laws_FnExactKInductive ?_
 simp (contextual := true) (maxSteps := 1000000) (disch := omega) only [↓Sd, ↓So, ↓Sk, ↓den, ↓denA, Sa, Sb, Sc, Se, O1.d, O2.d, O3.d, cmI, arI, envOf, putN, ↓reduceIte, Nat.reduceLT, Nat.reduceSub, Nat.reduceAdd, Int.reduceAdd, Int.reduceEq, Int.reduceLT, Int.reduceLE, arr_pos, arr_neg, tr_laws_FnExactKInductive]
 refine sz_System s _ (by omega) hs fun k1 h1 h2 => ?_
 simp (contextual := true) (maxSteps := 1000000) (disch := omega) only [↓Sd, ↓So, ↓Sk, ↓den, ↓denA, Sa, Sb, Sc, Se, O1.d, O2.d, O3.d, cmI, arI, envOf, putN, ↓reduceIte, Nat.reduceLT, Nat.reduceSub, Nat.reduceAdd, Int.reduceAdd, Int.reduceEq, Int.reduceLT, Int.reduceLE, arr_pos, arr_neg, ]
 intro h3
 refine sz_TermS l k1 (by omega) hl fun j h4 h5 => ?_
 simp (contextual := true) (maxSteps := 1000000) (disch := omega) only [↓Sd, ↓So, ↓Sk, ↓den, ↓denA, Sa, Sb, Sc, Se, O1.d, O2.d, O3.d, cmI, arI, envOf, putN, ↓reduceIte, Nat.reduceLT, Nat.reduceSub, Nat.reduceAdd, Int.reduceAdd, Int.reduceEq, Int.reduceLT, Int.reduceLE, arr_pos, arr_neg, ]
 intro h6
 have hs := h2 (by omega)
 have hl := h5 (by omega)
 simp (contextual := true) (maxSteps := 1000000) (disch := omega) only [↓Sd, ↓So, ↓Sk, ↓den, ↓denA, Sa, Sb, Sc, Se, O1.d, O2.d, O3.d, cmI, arI, envOf, putN, ↓reduceIte, Nat.reduceLT, Nat.reduceSub, Nat.reduceAdd, Int.reduceAdd, Int.reduceEq, Int.reduceLT, Int.reduceLE, arr_pos, arr_neg, to_System s hs, to_TermS l hl, C_spec_KInductive s l k hs hl, C_impl_KInductive s l k hs hl, eq_System s hs, eq_TermS l hl]
theorem law_FnExactLeastInduction (s : Sy) (l : List Tm) (hs : LtSy s) (hl : Lt63 l) : mc.C f_laws_FnExactLeastInduction [⟨L V3, s.1⟩, ⟨L TR, s.2⟩, ⟨L T4, l⟩] (· = [⟨B, true⟩]) := by
 refine mc.c_of F_laws_FnExactLeastInduction ?_
 simp (contextual := true) (maxSteps := 1000000) (disch := omega) only [↓Sd, ↓So, ↓Sk, ↓den, ↓denA, Sa, Sb, Sc, Se, O1.d, O2.d, O3.d, cmI, arI, envOf, putN, ↓reduceIte, Nat.reduceLT, Nat.reduceSub, Nat.reduceAdd, Int.reduceAdd, Int.reduceEq, Int.reduceLT, Int.reduceLE, arr_pos, arr_neg, tr_laws_FnExactLeastInduction]
 refine sz_System s _ (by omega) hs fun k1 h1 h2 => ?_
 simp (contextual := true) (maxSteps := 1000000) (disch := omega) only [↓Sd, ↓So, ↓Sk, ↓den, ↓denA, Sa, Sb, Sc, Se, O1.d, O2.d, O3.d, cmI, arI, envOf, putN, ↓reduceIte, Nat.reduceLT, Nat.reduceSub, Nat.reduceAdd, Int.reduceAdd, Int.reduceEq, Int.reduceLT, Int.reduceLE, arr_pos, arr_neg, ]
 intro h3
 refine sz_TermS l k1 (by omega) hl fun j h4 h5 => ?_
 simp (contextual := true) (maxSteps := 1000000) (disch := omega) only [↓Sd, ↓So, ↓Sk, ↓den, ↓denA, Sa, Sb, Sc, Se, O1.d, O2.d, O3.d, cmI, arI, envOf, putN, ↓reduceIte, Nat.reduceLT, Nat.reduceSub, Nat.reduceAdd, Int.reduceAdd, Int.reduceEq, Int.reduceLT, Int.reduceLE, arr_pos, arr_neg, ]
 intro h6
 have hs := h2 (by omega)
 have hl := h5 (by omega)
 obtain ⟨r, hr⟩ := lst_ex s l
 simp (contextual := true) (maxSteps := 1000000) (disch := omega) only [↓Sd, ↓So, ↓Sk, ↓den, ↓denA, Sa, Sb, Sc, Se, O1.d, O2.d, O3.d, cmI, arI, envOf, putN, ↓reduceIte, Nat.reduceLT, Nat.reduceSub, Nat.reduceAdd, Int.reduceAdd, Int.reduceEq, Int.reduceLT, Int.reduceLE, arr_pos, arr_neg, to_System s hs, to_TermS l hl, C_spec_LeastInduction s l r hs hl hr, C_impl_LeastInduction s l r hs hl hr, eq_System s hs, eq_TermS l hl]
def Lpq (T : List (List Int)) (g : Nat → Bool) : List Int → List Int → Prop
 | p, [] => g (lastP p) = false
 | p, x :: q => g (lastP p) = true ∧ x ∈ T.getD (lastP p) [] ∧ ¬ x ∈ p ∧ Lpq T g (p ++ [x]) q
theorem goL_iff {T : List (List Int)} {g : Nat → Bool} : ∀ {k : Nat} {p : List Int}, p ≠ [] → (¬ goL T g k p = [] ↔ ∃ q, q.length = k ∧ Lpq T g p q)
 | 0, p, hp => by
  rw [goL]
  constructor
  ·intro h
   split at h
   ·exact absurd rfl h
   ·rename_i h1; exact ⟨[], rfl, by simpa [Lpq] using h1⟩
  ·rintro ⟨q, h1, h2⟩
   rw [List.length_eq_zero_iff.1 h1] at h2
   have h2 : g (lastP p) = false := h2
   rw [h2, if_neg (by simp)]
   exact hp
 | k + 1, p, hp => by
  rw [goL]
  constructor
  ·intro h
   split at h
   ·rename_i h1
    have h2 : ¬ ∀ i, i < (T.getD (lastP p) []).length → (if (T.getD (lastP p) []).getD i 0 ∈ p then [] else goL T g k (p ++ [(T.getD (lastP p) []).getD i 0])) = [] := fun h3 => h (fneN_nil.2 h3)
    obtain ⟨i, h3⟩ := Classical.not_forall.1 h2
    obtain ⟨hi, h4⟩ := Classical.not_imp.1 h3
    by_cases h5 : (T.getD (lastP p) []).getD i 0 ∈ p
    ·rw [if_pos h5] at h4; exact absurd rfl h4
    ·rw [if_neg h5] at h4
     obtain ⟨q, h6, h7⟩ := (goL_iff (by simp)).1 h4
     exact ⟨_ :: q, by rw [List.length_cons, h6], h1, getD_mem hi, h5, h7⟩
   ·exact absurd rfl h
  ·rintro ⟨q, h1, h2⟩
   cases q with
   | nil => cases h1
   | cons x q =>
    obtain ⟨h3, h4, h5, h6⟩ := h2
    rw [if_pos h3]
    intro h7
    obtain ⟨i, hi, rfl⟩ := List.getElem_of_mem h4
    have h8 := fneN_nil.1 h7 i hi
    rw [getD_lt hi] at h8
    rw [if_neg h5] at h8
    exact (goL_iff (by simp)).2 ⟨q, by simpa using h1, h6⟩ h8
theorem Lpq.mono {T : List (List Int)} {g : Nat → Bool} : ∀ {q p p' : List Int}, Lpq T g p q → (∀ y ∈ p', y ∈ p) → lastP p' = lastP p → Lpq T g p' q
 | [], p, p', h, h1, h2 => by
  have h : g (lastP p) = false := h
  show g (lastP p') = false
  rw [h2]; exact h
 | x :: q, p, p', h, h1, h2 => by
  obtain ⟨h3, h4, h5, h6⟩ := h
  refine ⟨by rw [h2]; exact h3, by rw [h2]; exact h4, fun h => h5 (h1 x h), h6.mono (fun y hy => ?_) (by rw [lastP_app, lastP_app])⟩
  rcases List.mem_append.1 hy with hy | hy
  ·exact List.mem_append_left _ (h1 y hy)
  ·exact List.mem_append_right _ hy
theorem lastP_one {x : Int} : lastP [x] = x.toNat := by simp [lastP]
theorem lps_next {s : Sy} {l : List Tm} {k : Nat} (hv : valid s) (h : lpsK s l k = []) : lpsK s l (k + 1) = [] := by
 have ht := steps_tbl hv
 refine fneN_nil.2 fun i hi => Classical.byContradiction fun hn => ?_
 obtain ⟨q, h1, h2⟩ := (goL_iff (by simp)).1 hn
 cases q with
 | nil => cases h1
 | cons x q =>
  obtain ⟨h3, h4, h5, h6⟩ := h2
  have hx := ht.row x h4
  have h7 := fneN_nil.1 h x.toNat (by omega)
  refine (goL_iff (k := k) (by simp)).2 ⟨q, by simpa using h1, ?_⟩ h7
  rw [show ((x.toNat : Nat) : Int) = x by omega]
  refine h6.mono (fun y hy => ?_) (by rw [lastP_app, lastP_one])
  exact List.mem_append_right _ hy
theorem kin_holds {s : Sy} {l : List Tm} {k : Int} (h : kin s l k) : ∀ D : Nat, ∀ b, b < szn s.1 → dS s b = D → holdsN s l b = true := by
 have hv := h.1.1.1
 have hk := h.1.2
 have ht := steps_tbl hv
 intro D
 induction D using Nat.strongRecOn with
 | _ D ih =>
  intro b hb hD
  refine Classical.byContradiction fun hbad => ?_
  have hbad : holdsN s l b = false := by simpa using hbad
  have hDk : k ≤ D := Classical.byContradiction fun g => by
   have := h.2.1 b hb (by omega)
   rw [this] at hbad; cases hbad
  obtain ⟨ch, hc1, hc2, hc3⟩ := chain_ex ht (first_lt hv) (D := D) hb hD
  have hgood : ∀ e, e < D → holdsN s l (ch e) = true := fun e he => ih e he (ch e) (hc3 e (by omega)).1 (hc3 e (by omega)).2
  have key : ∀ j, j ≤ D → ∀ p : List Int, lastP p = ch (D - j) → (∀ y ∈ p, ∃ e, e ≤ D - j ∧ y = (ch e : Int)) → ∃ q, q.length = j ∧ Lpq (steps s) (holdsN s l) p q := by
   intro j
   induction j with
   | zero =>
    intro _ p hp _
    refine ⟨[], rfl, ?_⟩
    show holdsN s l (lastP p) = false
    rw [hp, Nat.sub_zero, hc1]; exact hbad
   | succ j ihj =>
    intro hj p hp hy
    obtain ⟨q, h1, h2⟩ := ihj (by omega) (p ++ [(ch (D - j) : Int)]) (by rw [lastP_app, Int.toNat_natCast]) (fun y h => by
     rcases List.mem_append.1 h with h | h
     ·obtain ⟨e, h1, h2⟩ := hy y h
      exact ⟨e, by omega, h2⟩
     ·exact ⟨D - j, Nat.le_refl _, by simpa using h⟩)
    have hpr := hc2 (D - (j + 1)) (by omega)
    rw [show D - (j + 1) + 1 = D - j by omega] at hpr
    refine ⟨(ch (D - j) : Int) :: q, by rw [List.length_cons, h1], ?_, ?_, ?_, h2⟩
    ·rw [hp]; exact hgood _ (by omega)
    ·rw [hp]
     exact hpr.2.2.1
    ·intro hm
     obtain ⟨e, h3, h4⟩ := hy _ hm
     have h5 : ch (D - j) = ch e := by omega
     have h6 := (hc3 (D - j) (by omega)).2
     have h7 := (hc3 e (by omega)).2
     rw [h5, h7] at h6
     omega
  obtain ⟨q, h1, h2⟩ := key k.toNat (by omega) [(ch (D - k.toNat) : Int)] (by rw [lastP_one, Int.toNat_natCast]) (fun y hy => ⟨D - k.toNat, Nat.le_refl _, by simpa using hy⟩)
  exact (goL_iff (k := k.toNat) (by simp)).2 ⟨q, h1, h2⟩ (fneN_nil.1 h.2.2 _ (hc3 (D - k.toNat) (by omega)).1)
theorem kin_alw {s : Sy} {l : List Tm} {k : Int} (h : kin s l k) : valid s ∧ kf l s.1.length = 2 ∧ allIf (rchB s) (holdsN s l) (szn s.1) := by
 refine ⟨h.1.1.1, h.1.1.2, fun b hb hr => ?_⟩
 have h1 := dS_rch.2 hr
 exact kin_holds h (dS s b).toNat b hb (by omega)
theorem kin_next {s : Sy} {l : List Tm} {k : Int} (h : kin s l k) (h6 : k ≠ 6) : kin s l (k + 1) := by
 have hk := h.1.2
 refine ⟨⟨h.1.1, by omega, by omega⟩, fun i hi hd => kin_holds h (dS s i).toNat i hi (by omega), ?_⟩
 rw [show (k + 1).toNat = k.toNat + 1 by omega]
 exact lps_next h.1.1.1 h.2.2
theorem law_FnKInductive (b : List Int) (hb : Byt b) (hl : Lt63 b) : mc.C f_laws_FnKInductive [⟨L U, b⟩] (· = [⟨B, true⟩]) := by
 refine mc.c_of F_laws_FnKInductive ?_
 simp (contextual := true) (maxSteps := 1000000) (disch := omega) only [↓Sd, ↓So, ↓Sk, ↓den, ↓denA, Sa, Sb, Sc, Se, O1.d, O2.d, O3.d, cmI, arI, envOf, putN, ↓reduceIte, Nat.reduceLT, Nat.reduceSub, Nat.reduceAdd, Int.reduceAdd, Int.reduceEq, Int.reduceLT, Int.reduceLE, arr_pos, arr_neg, tr_laws_FnKInductive]
 intro _
 refine mc.c_of F_spec_DrawKInductive ?_
 simp (contextual := true) (maxSteps := 1000000) (disch := omega) only [↓Sd, ↓So, ↓Sk, ↓den, ↓denA, Sa, Sb, Sc, Se, O1.d, O2.d, O3.d, cmI, arI, envOf, putN, ↓reduceIte, Nat.reduceLT, Nat.reduceSub, Nat.reduceAdd, Int.reduceAdd, Int.reduceEq, Int.reduceLT, Int.reduceLE, arr_pos, arr_neg, tr_spec_DrawKInductive]
 refine D_l15Ask b hb hl fun s l k hs hl2 hk => ?_
 have hs := hs.few
 have hf : Few l := by unfold Few; omega
 simp (contextual := true) (maxSteps := 1000000) (disch := omega) only [↓Sd, ↓So, ↓Sk, ↓den, ↓denA, Sa, Sb, Sc, Se, O1.d, O2.d, O3.d, cmI, arI, envOf, putN, ↓reduceIte, Nat.reduceLT, Nat.reduceSub, Nat.reduceAdd, Int.reduceAdd, Int.reduceEq, Int.reduceLT, Int.reduceLE, arr_pos, arr_neg, C_impl_KInductive s l k hs hf, C_spec_KInductive s l k hs hf, C_impl_SystemValid s hs, C_spec_SystemValid s hs, C_impl_Always s l hs hf, C_impl_KInductive s l (k + 1) hs hf]
 intro h1
 have hK : kin s l k := Classical.byContradiction fun g => h1 (dB_f g)
 exact ⟨fun _ h6 => dB_t (kin_next hK h6), fun h => h (dB_t (kin_alw hK))⟩
theorem law_FnLeastInduction (b : List Int) (hb : Byt b) (hl : Lt63 b) : mc.C f_laws_FnLeastInduction [⟨L U, b⟩] (· = [⟨B, true⟩]) := by
 refine mc.c_of F_laws_FnLeastInduction ?_
 simp (contextual := true) (maxSteps := 1000000) (disch := omega) only [↓Sd, ↓So, ↓Sk, ↓den, ↓denA, Sa, Sb, Sc, Se, O1.d, O2.d, O3.d, cmI, arI, envOf, putN, ↓reduceIte, Nat.reduceLT, Nat.reduceSub, Nat.reduceAdd, Int.reduceAdd, Int.reduceEq, Int.reduceLT, Int.reduceLE, arr_pos, arr_neg, tr_laws_FnLeastInduction]
 intro _
 refine mc.c_of F_spec_DrawLeastInduction ?_
 simp (contextual := true) (maxSteps := 1000000) (disch := omega) only [↓Sd, ↓So, ↓Sk, ↓den, ↓denA, Sa, Sb, Sc, Se, O1.d, O2.d, O3.d, cmI, arI, envOf, putN, ↓reduceIte, Nat.reduceLT, Nat.reduceSub, Nat.reduceAdd, Int.reduceAdd, Int.reduceEq, Int.reduceLT, Int.reduceLE, arr_pos, arr_neg, tr_spec_DrawLeastInduction]
 refine D_l15Ask b hb hl fun s l k hs hl2 hk => ?_
 have hs := hs.few
 have hf : Few l := by unfold Few; omega
 obtain ⟨r, hr⟩ := lst_ex s l
 have hr0 : ¬ r = 0 := by rcases hr with ⟨h, _⟩ | ⟨h, _⟩ <;> omega
 have hw : IntKind.i64.wrap (r - 1) = r - 1 := wrap_id (by rcases hr with ⟨h, _⟩ | ⟨h, _⟩ <;> omega) (by rcases hr with ⟨h, _⟩ | ⟨h, h2, _⟩ <;> omega)
 simp (contextual := true) (maxSteps := 1000000) (disch := omega) only [↓Sd, ↓So, ↓Sk, ↓den, ↓denA, Sa, Sb, Sc, Se, O1.d, O2.d, O3.d, cmI, arI, envOf, putN, ↓reduceIte, Nat.reduceLT, Nat.reduceSub, Nat.reduceAdd, Int.reduceAdd, Int.reduceEq, Int.reduceLT, Int.reduceLE, arr_pos, arr_neg, C_spec_LeastInduction s l r hs hf hr, C_impl_LeastInduction s l r hs hf hr, C_impl_KInductive s l r hs hf, C_impl_KInductive s l (r - 1) hs hf, C_impl_KInductive s l 1 hs hf, C_impl_KInductive s l 6 hs hf, hw]
 rcases hr with ⟨h1, h2⟩ | ⟨h1, h2, h3, h4⟩
 ·subst h1
  exact ⟨fun _ => ⟨fun _ => dB_f (h2 6 (by omega) (by omega)), fun h => h (dB_f (h2 1 (by omega) (by omega)))⟩, fun h => absurd (by omega) h⟩
 ·refine ⟨fun h => by omega, fun _ => ⟨fun _ h5 => dB_f (h4 (r - 1) (by omega) (by omega)), fun h => h (dB_t h3)⟩⟩
end Go.Proofs.YtilmaoicaejbdaaGreat
