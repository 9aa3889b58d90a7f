/- What the trees come to: plain mathematics; no condition. -/
import Derived.Test.YtdcdnfcmllfmlaaGreatSmMath0
namespace Go.Proofs.YtdcdnfcmllfmlaaGreat
open Go Go.Sm Go.Sm.Q
set_option linter.unusedSimpArgs false
set_option linter.unusedVariables false
def ahead (T : List (List Int)) (p : Nat → Bool) (n : Nat) (k : Nat) : Prop := ∃ b, b < n ∧ p b = true ∧ (b : Int) ∈ T.getD k []
theorem behind_mem {T : List (List Int)} {l : List Int} {n k : Nat} (h : ∀ x ∈ l, 0 ≤ x ∧ x < (n : Int)) : behind T (fun k => dB ((k : Int) ∈ l)) n k ↔ ∃ x ∈ l, (k : Int) ∈ T.getD x.toNat [] := by
 constructor
 ·rintro ⟨a, h1, h2, h3⟩
  exact ⟨(a : Int), dB_iff.1 h2, by simpa using h3⟩
 ·rintro ⟨x, h1, h2⟩
  have := h x h1
  exact ⟨x.toNat, by omega, dB_t (by rw [show ((x.toNat : Nat) : Int) = x by omega]; exact h1), h2⟩
theorem ovr_mem {T : List (List Int)} {l : List Int} {n k : Nat} (h : ∀ x ∈ l, 0 ≤ x ∧ x < (n : Int)) : ovr T l k = dB (behind T (fun k => dB ((k : Int) ∈ l)) n k) := dB_congr (behind_mem h).symm
noncomputable def nextN (s : Sy) (l : List Int) : List Int := upTo (fun k => dB (behind (steps s) (fun k => dB ((k : Int) ∈ l)) (szn s.1) k)) (szn s.1)
theorem getD_set_ne {α : Type} {l : List α} {i j : Nat} {x d : α} (h : i ≠ j) : (l.set i x).getD j d = l.getD j d := by
 simp [List.getD_eq_getElem?_getD, List.getElem?_set, h]
def Same {α : Type} (l s : List α) (d : α) (i : Nat) : Prop := s.length = l.length ∧ ∀ j, i ≤ j → s.getD j d = l.getD j d
theorem Same.set {α : Type} {l s : List α} {d x : α} {i : Nat} (h : Same l s d i) : Same l (s.set i x) d (i + 1) :=
 ⟨by rw [List.length_set]; exact h.1, fun j hj => by rw [getD_set_ne (by omega)]; exact h.2 j (by omega)⟩
theorem upTo_few {p : Nat → Bool} {s : Sy} (h : valid s) : (upTo p (szn s.1)).length ≤ 400 := by
 have h1 := @upTo_len p (szn s.1)
 have h2 := szn_eq h
 omega
theorem ite_few {c : Prop} [Decidable c] {l : List Int} (h : c → l.length ≤ 400) : (if c then l else []).length ≤ 400 := by
 split
 ·rename_i g; exact h g
 ·simp
theorem first_n {s : Sy} (h : valid s) : ∃ m : Nat, num s.1 (fst0 s.1) = m ∧ m < szn s.1 := by
 have h1 := num_bd h.2.2.1 (fst0_in h.2.2.1)
 have h2 := szn_eq h
 exact ⟨(num s.1 (fst0 s.1)).toNat, by omega, by omega⟩
theorem lset_mono {l : List Int} {n m : Int} (h : lset l n) (hm : n ≤ m) : lset l m := fun i hi => ⟨⟨(h i hi).1.1, by have := (h i hi).1.2; omega⟩, (h i hi).2⟩
theorem upTo_pos {p : Nat → Bool} {n : Nat} : 0 < (upTo p n).length ↔ ∃ k, k < n ∧ p k = true := by
 constructor
 ·intro h
  obtain ⟨k, h1, _, h3⟩ := upTo_mem.1 (getD_mem (d := 0) h)
  exact ⟨k, h1, h3⟩
 ·rintro ⟨k, h1, h2⟩
  exact List.length_pos_of_mem (upTo_mem.2 ⟨k, h1, rfl, h2⟩)
theorem wrap_u64 {n : Nat} (h : n < 18446744073709551616) : IntKind.u64.wrap (n : Int) = n := by
 unfold IntKind.wrap
 simp only [IntKind.bits, IntKind.signed]
 have : ((n : Int) % (2 : Int) ^ 64) = n := by omega
 simpa using this
theorem fd64 {n : Nat} (h : n < 4294967296) : (n : Int).fdiv (2 ^ min (Int.toNat 32) IntKind.u64.bits) = 0 := by
 have : min (Int.toNat 32) IntKind.u64.bits = 32 := by decide
 rw [this, Int.fdiv_eq_ediv_of_nonneg _ (by decide)]
 omega
theorem sh64 {n : Nat} (h : n < 4294967296) : shI false .u64 (n : Int) 32 = 0 := by
 unfold shI
 simp only [Bool.false_eq_true, if_false]
 exact fd64 h
theorem and64 {n : Nat} (h : n < 4294967296) : IntKind.u64.wrap ((BitVec.ofInt IntKind.u64.bits (n : Int) &&& BitVec.ofInt IntKind.u64.bits 4294967295).toNat : Int) = n := by
 have h1 : (BitVec.ofInt IntKind.u64.bits (n : Int) &&& BitVec.ofInt IntKind.u64.bits 4294967295).toNat = n := by
  rw [BitVec.toNat_and]
  have e1 : (BitVec.ofInt IntKind.u64.bits (n : Int)).toNat = n := by
   rw [BitVec.toNat_ofInt]
   show Int.toNat ((n : Int) % (2 : Int) ^ 64) = n
   omega
  have e2 : (BitVec.ofInt IntKind.u64.bits 4294967295).toNat = 2 ^ 32 - 1 := by decide
  rw [e1, e2, Nat.and_two_pow_sub_one_eq_mod, Nat.mod_eq_of_lt h]
 rw [h1]
 exact wrap_u64 (by omega)
theorem C_math_bits_Mul1 (n : Nat) (h : n ≤ 1048576) (Q : List AV → Prop) : mc.C f_math_bits_Mul [⟨.int .u64, (1 : Int)⟩, ⟨.int .u64, (n : Int)⟩] Q = Q [⟨.int .u64, (0 : Int)⟩, ⟨.int .u64, (n : Int)⟩] := by
 have e1 : mc.C f_math_bits_Mul64 [⟨.int .u64, (1 : Int)⟩, ⟨.int .u64, (n : Int)⟩] = fun Q => Q [⟨.int .u64, (0 : Int)⟩, ⟨.int .u64, (n : Int)⟩] := by
  funext Q
  refine Mc.Ends.c (mc.ends F_math_bits_Mul64 ?_)
  have s1 : shI false .u64 1 32 = 0 := sh64 (n := 1) (by omega)
  have s0 : shI false .u64 0 32 = 0 := sh64 (n := 0) (by omega)
  have sn := sh64 (n := n) (by omega)
  have a1 : IntKind.u64.wrap ((BitVec.ofInt IntKind.u64.bits 1 &&& BitVec.ofInt IntKind.u64.bits 4294967295).toNat : Int) = 1 := and64 (n := 1) (by omega)
  have a0 : IntKind.u64.wrap ((BitVec.ofInt IntKind.u64.bits 0 &&& BitVec.ofInt IntKind.u64.bits 4294967295).toNat : Int) = 0 := and64 (n := 0) (by omega)
  have an := and64 (n := n) (by omega)
  have w := wrap_u64 (n := n) (by omega)
  have w0 : IntKind.u64.wrap 0 = 0 := by decide
  simp (contextual := true) (maxSteps := 1000000) (disch := omega) only [↓Sd, ↓So, ↓Sk, ↓den, ↓denA, Sa, Sb, Sc, Se, O1.d, O2.d, O3.d, cmI, arI, envOf, putN, ↓reduceIte, Nat.reduceLT, Nat.reduceSub, Nat.reduceAdd, Int.reduceAdd, Int.reduceEq, Int.reduceLT, Int.reduceLE, arr_pos, arr_neg, tr_math_bits_Mul64, s1, s0, sn, a1, an, a0, w, w0, Int.zero_mul, Int.mul_zero, Int.one_mul, Int.add_zero, Int.zero_add]
 refine Mc.Ends.c (mc.ends F_math_bits_Mul ?_)
 simp (contextual := true) (maxSteps := 1000000) (disch := omega) only [↓Sd, ↓So, ↓Sk, ↓den, ↓denA, Sa, Sb, Sc, Se, O1.d, O2.d, O3.d, cmI, arI, envOf, putN, ↓reduceIte, Nat.reduceLT, Nat.reduceSub, Nat.reduceAdd, Int.reduceAdd, Int.reduceEq, Int.reduceLT, Int.reduceLE, arr_pos, arr_neg, tr_math_bits_Mul, e1]
def reps (k n : Nat) (v : Int) : List Int := List.replicate k v ++ List.replicate (n - k) 0
theorem reps_len {k n : Nat} {v : Int} (h : k ≤ n) : (reps k n v).length = n := by simp [reps]; omega
theorem reps_over0 {n : Nat} {v : Int} : overL (List.replicate n (0 : Int)) [v] = reps (min 1 n) n v := by
 cases n with
 | zero => simp [overL, reps]
 | succ n =>
  have : min 1 (n + 1) = 1 := by omega
  rw [this]
  simp [overL, reps, List.replicate_succ]
theorem reps_next {k n : Nat} {v : Int} (h : k ≤ n) : (reps k n v).take k ++ overL (((reps k n v).take n).drop k) (((reps k n v).take k).drop 0) ++ (reps k n v).drop n = reps (k + min k (n - k)) n v := by
 have e1 : (reps k n v).take k = List.replicate k v := by simp [reps]
 have e2 : (reps k n v).take n = reps k n v := List.take_of_length_le (by rw [reps_len h]; omega)
 have e3 : (reps k n v).drop n = [] := List.drop_eq_nil_of_le (by rw [reps_len h]; omega)
 have e4 : (reps k n v).drop k = List.replicate (n - k) 0 := by simp [reps]
 rw [e1, e2, e3, e4, List.drop_zero, List.append_nil]
 unfold overL reps
 rw [List.length_replicate, List.length_replicate, List.take_replicate, List.drop_replicate, ← List.append_assoc, List.replicate_append_replicate]
 congr 2
 ·omega
 ·omega
theorem C_slices_Repeat (v : Int) (n : Nat) (h : n ≤ 1048576) (Q : List AV → Prop) : mc.C f_slices_Repeat_Sint_int [⟨L I, [v]⟩, ⟨I, (n : Int)⟩] Q = Q [⟨L I, List.replicate n v⟩] := by
 refine Mc.Ends.c (mc.ends F_slices_Repeat_Sint_int ?_)
 have w1 : IntKind.u64.wrap 1 = 1 := by decide
 have w := wrap_u64 (n := n) (by omega)
 simp (contextual := true) (maxSteps := 1000000) (disch := omega) only [↓Sd, ↓So, ↓Sk, ↓den, ↓denA, Sa, Sb, Sc, Se, O1.d, O2.d, O3.d, cmI, arI, envOf, putN, ↓reduceIte, Nat.reduceLT, Nat.reduceSub, Nat.reduceAdd, Int.reduceAdd, Int.reduceEq, Int.reduceLT, Int.reduceLE, arr_pos, arr_neg, tr_slices_Repeat_Sint_int, w1, w, C_math_bits_Mul1 n h, reps_over0, List.length_replicate]
 refine mc.lp_inv (fun j us => ∃ k : Nat, us = [⟨I, (k : Int)⟩, ⟨L I, reps k n v⟩] ∧ k ≤ n ∧ (n = 0 ∨ 1 ≤ k) ∧ j = n - k) (n - min 1 n) _ ⟨min 1 n, ?_, Nat.min_le_right .., by omega, rfl⟩ ?_
 ·rw [show (if (n : Int) < 1 then (n : Int) else 1) = ((min 1 n : Nat) : Int) by omega]
 rintro j us ⟨k, rfl, i1, i2, rfl⟩
 have hl := reps_len (v := v) i1
 have l1 : (List.drop k (List.take n (reps k n v))).length = n - k := by rw [List.length_drop, List.length_take, hl]; omega
 have l2 : (List.drop 0 (List.take k (reps k n v))).length = k := by rw [List.length_drop, List.length_take, hl]; omega
 simp (contextual := true) (maxSteps := 1000000) (disch := omega) only [↓Sd, ↓So, ↓Sk, ↓den, ↓denA, Sa, Sb, Sc, Se, O1.d, O2.d, O3.d, cmI, arI, envOf, putN, ↓reduceIte, Nat.reduceLT, Nat.reduceSub, Nat.reduceAdd, Int.reduceAdd, Int.reduceEq, Int.reduceLT, Int.reduceLE, arr_pos, arr_neg, ↓wpJoin, hl, l1, l2, reps_next i1]
 refine ⟨fun g => ?_, fun g => ?_⟩
 ·have hkn : k < n := Int.ofNat_lt.1 g
  refine ⟨_, ?_, k + min k (n - k), ⟨?_, rfl⟩, by omega, by omega, rfl⟩
  ·omega
  rw [show (if ((n - k : Nat) : Int) < (k : Int) then ((n - k : Nat) : Int) else (k : Int)) = ((min k (n - k) : Nat) : Int) by omega]
  rw [wrap_id (by omega) (by omega)]
  exact (Int.natCast_add _ _).symm
 ·have hkn : ¬ k < n := fun hh => g (Int.ofNat_lt.2 hh)
  have : k = n := by omega
  subst this
  simp [reps]
def Lay (T : List (List Int)) (F : List Int) : Nat → Nat → Prop
 | 0, k => (k : Int) ∈ F
 | d + 1, k => Lay T F d k ∨ ∃ a, Lay T F d a ∧ (k : Int) ∈ T.getD a []
theorem least {P : Nat → Prop} (h : ∃ d, P d) : ∃ d, P d ∧ ∀ e, e < d → ¬ P e := by
 obtain ⟨d, hd⟩ := h
 induction d using Nat.strongRecOn with
 | ind d ih =>
  by_cases g : ∃ e, e < d ∧ P e
  ·obtain ⟨e, h1, h2⟩ := g; exact ih e h1 h2
  ·exact ⟨d, hd, fun e he hp => g ⟨e, he, hp⟩⟩
open Classical in
noncomputable def dst (T : List (List Int)) (F : List Int) (k : Nat) : Int := if h : ∃ d, Lay T F d k then ((Classical.choose (least h) : Nat) : Int) else -1
theorem Lay.up {T : List (List Int)} {F : List Int} {d e k : Nat} (h : Lay T F d k) (he : d ≤ e) : Lay T F e k := by
 induction e with
 | zero => have : d = 0 := by omega
           subst this; exact h
 | succ e ih =>
  by_cases g : d ≤ e
  ·exact .inl (ih g)
  ·have : d = e + 1 := by omega
   subst this; exact h
theorem Lay.rch {T : List (List Int)} {F : List Int} : ∀ {d k : Nat}, Lay T F d k → Rch T F k
 | 0, k, h => .base h
 | d + 1, k, h => h.elim Lay.rch fun ⟨a, h1, h2⟩ => .step (Lay.rch h1) h2
theorem rch_lay {T : List (List Int)} {F : List Int} {k : Nat} (h : Rch T F k) : ∃ d, Lay T F d k := by
 induction h with
 | base h => exact ⟨0, h⟩
 | step _ h ih => obtain ⟨d, hd⟩ := ih; exact ⟨d + 1, .inr ⟨_, hd, h⟩⟩
structure IsDst (T : List (List Int)) (F : List Int) (n : Nat) (f : Nat → Int) : Prop where
 ge : ∀ k, k < n → -1 ≤ f k
 zero : ∀ k, k < n → (f k = 0 ↔ (k : Int) ∈ F)
 pre : ∀ k, k < n → 0 < f k → ∃ a, a < n ∧ f a + 1 = f k ∧ (k : Int) ∈ T.getD a []
 nxt : ∀ a, a < n → 0 ≤ f a → ∀ k : Nat, (k : Int) ∈ T.getD a [] → 0 ≤ f k ∧ f k ≤ f a + 1
theorem IsDst.eq {T : List (List Int)} {F : List Int} {n : Nat} {f : Nat → Int} (ht : Tbl T n) (hF : ∀ x ∈ F, 0 ≤ x ∧ x < n) (h : IsDst T F n f) : ∀ k, k < n → f k = dst T F k := by
 have a1 : ∀ d k, k < n → f k = (d : Nat) → Lay T F d k := by
  intro d
  induction d with
  | zero => intro k hk h1; exact (h.zero k hk).1 h1
  | succ d ih =>
   intro k hk h1
   obtain ⟨a, b1, b2, b3⟩ := h.pre k hk (by omega)
   exact .inr ⟨a, ih a b1 (by omega), b3⟩
 have a2 : ∀ d k, Lay T F d k → k < n ∧ 0 ≤ f k ∧ f k ≤ (d : Nat) := by
  intro d
  induction d with
  | zero => intro k h1; have := hF _ h1; have hk : k < n := by omega
            have := (h.zero k hk).2 h1; exact ⟨hk, by omega, by omega⟩
  | succ d ih =>
   intro k h1
   rcases h1 with h1 | ⟨a, h1, h2⟩
   ·have := ih k h1; exact ⟨this.1, this.2.1, by omega⟩
   ·obtain ⟨b1, b2, b3⟩ := ih a h1
    have := ht.row _ h2
    have := h.nxt a b1 b2 k h2
    exact ⟨by omega, this.1, by omega⟩
 intro k hk
 unfold dst
 by_cases g : ∃ d, Lay T F d k
 ·rw [dif_pos g]
  obtain ⟨b1, b2⟩ := Classical.choose_spec (least g)
  generalize Classical.choose (least g) = d at b1 b2
  obtain ⟨-, c1, c2⟩ := a2 d k b1
  have c3 := a1 (f k).toNat k hk (by omega)
  have : ¬ (f k).toNat < d := fun hh => b2 _ hh c3
  omega
 ·rw [dif_neg g]
  have := h.ge k hk
  by_cases g2 : 0 ≤ f k
  ·exact absurd ⟨_, a1 (f k).toNat k hk (by omega)⟩ g
  ·omega
theorem dst_rch {T : List (List Int)} {F : List Int} {k : Nat} : 0 ≤ dst T F k ↔ Rch T F k := by
 unfold dst
 constructor
 ·intro h
  by_cases g : ∃ d, Lay T F d k
  ·obtain ⟨d, hd⟩ := g; exact hd.rch
  ·rw [dif_neg g] at h; omega
 ·intro h
  rw [dif_pos (rch_lay h)]; omega
theorem tab_one {n m : Nat} (hm : m < n) : (List.replicate n (-1 : Int)).set m 0 = tab (fun k => if k = m then 0 else -1) n := by
 rw [rep_tab, tab_set']
structure Bfs (T : List (List Int)) (m n : Nat) (f : Nat → Int) (q : List Nat) (ex : Nat → Prop) : Prop where
 ge : ∀ k, k < n → -1 ≤ f k
 zero : ∀ k, k < n → (f k = 0 ↔ k = m)
 pre : ∀ k, k < n → 0 < f k → ∃ a, a < n ∧ f a + 1 = f k ∧ (k : Int) ∈ T.getD a []
 inq : ∀ x ∈ q, x < n ∧ 0 ≤ f x
 sorted : q.Pairwise fun a b => f a ≤ f b
 closed : ∀ a, a < n → 0 ≤ f a → a ∉ q → ¬ ex a → ∀ k : Nat, (k : Int) ∈ T.getD a [] → 0 ≤ f k ∧ f k ≤ f a + 1
 top : ∀ k, k < n → f k + cntF (fun k => decide (0 ≤ f k)) n ≤ n
theorem cntF_congr {p q : Nat → Bool} {n : Nat} (h : ∀ k, k < n → p k = q k) : cntF p n = cntF q n := by
 unfold cntF
 rw [upTo_congr fun k hk => by rw [h k hk]]
theorem Bfs.visit {T : List (List Int)} {m n x y : Nat} {f : Nat → Int} {q : List Nat} (h : Bfs T m n f q (· = x)) (hx : x < n) (hfx : 0 ≤ f x) (hy : y < n) (hfy : f y < 0) (hm : m < n) (hT : (y : Int) ∈ T.getD x []) (hb : ∀ k, k < n → f k ≤ f x + 1) :
  Bfs T m n (fun k => if k = y then f x + 1 else f k) (q ++ [y]) (· = x) ∧ cntF (fun k => decide (0 ≤ (if k = y then f x + 1 else f k))) n + 1 = cntF (fun k => decide (0 ≤ f k)) n := by
 have hxy : ¬ x = y := by rintro rfl; omega
 have hc : cntF (fun k => decide (0 ≤ (if k = y then f x + 1 else f k))) n + 1 = cntF (fun k => decide (0 ≤ f k)) n := by
  have := cntF_set (p := fun k => decide (0 ≤ f k)) (j := y) (by simp; omega) (n := n) hy
  rw [← this]
  congr 1
  refine cntF_congr fun k _ => ?_
  by_cases g : k = y
  ·simp [g]; omega
  ·simp [g]
 refine ⟨⟨fun k hk => ?_, fun k hk => ?_, fun k hk h1 => ?_, fun z hz => ?_, ?_, fun a ha h1 h2 h3 k hk => ?_, fun k hk => ?_⟩, hc⟩
 ·have := h.ge k hk; split <;> omega
 ·have := h.zero k hk
  have := h.zero m hm
  split
  ·rename_i g; subst g
   constructor
   ·intro h1; omega
   ·intro h1; subst h1; omega
  ·assumption
 ·by_cases g : k = y
  ·subst g
   exact ⟨x, hx, by simp [hxy], hT⟩
  ·simp only [g, if_false] at h1 ⊢
   obtain ⟨a, b1, b2, b3⟩ := h.pre k hk h1
   have : ¬ a = y := by rintro rfl; omega
   exact ⟨a, b1, by simp [this, b2], b3⟩
 ·rcases List.mem_append.1 hz with hz | hz
  ·have := h.inq z hz
   refine ⟨this.1, ?_⟩
   split <;> omega
  ·simp only [List.mem_singleton] at hz
   subst hz
   exact ⟨hy, by simp; omega⟩
 ·refine List.pairwise_append.2 ⟨?_, List.pairwise_singleton _ _, ?_⟩
  ·refine h.sorted.imp_of_mem ?_
   intro a b ha hb2 hab
   have h1 := (h.inq a ha).2
   have h2 := (h.inq b hb2).2
   have e1 : ¬ a = y := by rintro rfl; omega
   have e2 : ¬ b = y := by rintro rfl; omega
   simp only [e1, e2, if_false]; exact hab
  ·intro a ha b hb2
   simp only [List.mem_singleton] at hb2
   subst hb2
   have h1 := h.inq a ha
   have e1 : ¬ a = b := by rintro rfl; omega
   simp only [e1, if_false, if_true]
   exact hb a h1.1
 ·simp only [List.mem_append, List.mem_singleton, not_or] at h2
  have e1 : ¬ a = y := h2.2
  simp only [e1, if_false] at h1 ⊢
  have := h.closed a ha h1 h2.1 h3 k hk
  have e2 : ¬ k = y := by rintro rfl; omega
  simp only [e2, if_false]; exact this
 ·have := h.top k hk
  have := h.top x hx
  split <;> omega
theorem C_impl_steps (T : List (List Int)) (m n : Nat) (hm : m < n) (hn : n ≤ 1000) (ht : Tbl T n) (Q : List AV → Prop) : mc.C f_impl_steps [⟨L (L I), T⟩, ⟨I, (m : Int)⟩] Q = Q [⟨L I, tab (dst T [(m : Int)]) n⟩] := by
 have hl := ht.1
 refine Mc.Ends.c (mc.ends F_impl_steps ?_)
 simp (contextual := true) (maxSteps := 1000000) (disch := omega) only [↓Sd, ↓So, ↓Sk, ↓den, ↓denA, Sa, Sb, Sc, Se, O1.d, O2.d, O3.d, cmI, arI, envOf, putN, ↓reduceIte, Nat.reduceLT, Nat.reduceSub, Nat.reduceAdd, Int.reduceAdd, Int.reduceEq, Int.reduceLT, Int.reduceLE, arr_pos, arr_neg, tr_impl_steps, hl, C_slices_Repeat (-1) n (by omega), List.length_replicate, tab_one hm]
 have hc0 : cntF (fun k => decide ((0 : Int) ≤ if k = m then 0 else -1)) n ≤ n := cntF_le
 refine mc.lp_inv (fun j us => ∃ (f : Nat → Int) (q : List Nat), us = [⟨L (L I), T⟩, ⟨L I, tab f n⟩, ⟨L I, q.map Int.ofNat⟩] ∧ Bfs T m n f q (fun _ => False) ∧ (∀ x q', q = x :: q' → ∀ k, k < n → f k ≤ f x + 1) ∧ q.length + cntF (fun k => decide (0 ≤ f k)) n ≤ 2000 ∧
  j = 2 * cntF (fun k => decide (0 ≤ f k)) n + q.length) _ _ ⟨fun k => if k = m then 0 else -1, [m], rfl, ⟨?_, ?_, ?_, ?_, ?_, ?_, ?_⟩, ?_, ?_, rfl⟩ ?_
 ·intro k _; split <;> omega
 ·intro k _; split <;> omega
 ·intro k _ h; split at h <;> omega
 ·intro x hx; simp only [List.mem_singleton] at hx; subst hx; exact ⟨hm, by simp⟩
 ·exact List.pairwise_singleton _ _
 ·intro a ha h1 h2
  simp only [List.mem_singleton] at h2
  simp only [h2, if_false] at h1
  omega
 ·intro k hk
  have hc := cntF_set (p := fun _ => false) (j := m) rfl (n := n) hm
  have : cntF (fun _ => false) n ≤ n := cntF_le
  rw [cntF_congr (q := fun k => if k = m then true else false) fun k _ => by by_cases g : k = m <;> simp [g]]
  split <;> omega
 ·intro x q' hq k hk
  simp only [List.cons.injEq] at hq
  rw [← hq.1]
  simp only [if_true]
  split <;> omega
 ·simp only [List.length_singleton]; omega
 rintro j us ⟨f, q, rfl, i1, i2, i3, rfl⟩
 cases q with
 | nil =>
  simp (contextual := true) (maxSteps := 1000000) (disch := omega) only [↓Sd, ↓So, ↓Sk, ↓den, ↓denA, Sa, Sb, Sc, Se, O1.d, O2.d, O3.d, cmI, arI, envOf, putN, ↓reduceIte, Nat.reduceLT, Nat.reduceSub, Nat.reduceAdd, Int.reduceAdd, Int.reduceEq, Int.reduceLT, Int.reduceLE, arr_pos, arr_neg, List.map_nil]
  refine tab_congr (IsDst.eq ht (by intro x hx; simp only [List.mem_singleton] at hx; omega) ⟨i1.ge, fun k hk => ?_, i1.pre, fun a ha h1 k hk => i1.closed a ha h1 (by simp) (by simp) k hk⟩)
  rw [i1.zero k hk]
  simp only [List.mem_singleton]
  omega
 | cons x q =>
  have hb := i2 x q rfl
  obtain ⟨hx, hfx⟩ := i1.inq x (List.mem_cons_self ..)
  have hso := List.pairwise_cons.1 i1.sorted
  have hrow := ht.row (i := x)
  have hrl : (T.getD x []).length ≤ 1048576 := (ht.2 _ (getD_mem (by omega))).1
  simp only [List.length_cons] at i3
  obtain ⟨row, hr⟩ : ∃ row, T.getD x [] = row := ⟨_, rfl⟩
  rw [hr] at hrow hrl
  have e0 : Int.ofNat x = (x : Int) := rfl
  simp (contextual := true) (maxSteps := 1000000) (disch := omega) only [↓Sd, ↓So, ↓Sk, ↓den, ↓denA, Sa, Sb, Sc, Se, O1.d, O2.d, O3.d, cmI, arI, envOf, putN, ↓reduceIte, Nat.reduceLT, Nat.reduceSub, Nat.reduceAdd, Int.reduceAdd, Int.reduceEq, Int.reduceLT, Int.reduceLE, arr_pos, arr_neg, List.map_cons, hl, e0, Int.toNat_natCast, hr, List.drop_succ_cons, List.drop_zero, List.length_cons]
  refine mc.lp_for ((Nat → Int) × List Nat) (fun j s => [⟨L (L I), T⟩, ⟨I, (x : Int)⟩, ⟨L I, row⟩, ⟨I, (row.length : Int)⟩, ⟨I, (j : Int)⟩, ⟨L I, tab s.1 n⟩, ⟨L I, s.2.map Int.ofNat⟩]) (fun j s => Bfs T m n s.1 s.2 (· = x) ∧ s.1 x = f x ∧ (∀ k, k < n → s.1 k ≤ f x + 1) ∧ (∀ y ∈ s.2, f x ≤ s.1 y) ∧
   (∀ k : Nat, (k : Int) ∈ row.take j → 0 ≤ s.1 k) ∧ s.2.length + cntF (fun k => decide (0 ≤ s.1 k)) n = q.length + cntF (fun k => decide (0 ≤ f k)) n ∧ cntF (fun k => decide (0 ≤ s.1 k)) n ≤ cntF (fun k => decide (0 ≤ f k)) n) row.length 0 (f, q) _ rfl (Nat.zero_le _)
   ⟨⟨i1.ge, i1.zero, i1.pre, fun y hy => i1.inq y (List.mem_cons_of_mem _ hy), hso.2, fun a h1 h2 h3 h4 => i1.closed a h1 h2 (by simp only [List.mem_cons, not_or]; exact ⟨h4, h3⟩) (by simp), i1.top⟩, rfl, hb, hso.1, by simp, rfl, Nat.le_refl _⟩ ?_ ?_
  ·rintro j ⟨f', q'⟩ hj ⟨a1, a2, a3, a4, a5, a6, a7⟩
   simp only at a1 a2 a3 a4 a5 a6 a7
   have hy := hrow _ (getD_mem (d := 0) hj)
   obtain ⟨y, hy2⟩ : ∃ y : Nat, row.getD j 0 = y := ⟨(row.getD j 0).toNat, by omega⟩
   have hyn : y < n := by omega
   have hyT : (y : Int) ∈ T.getD x [] := by rw [hr, ← hy2]; exact getD_mem hj
   have htop := a1.top x hx
   have hwr : IntKind.i64.wrap (f x + 1) = f x + 1 := wrap_id (by omega) (by omega)
   have hql : (q'.map Int.ofNat).length = q'.length := List.length_map ..
   simp (contextual := true) (maxSteps := 1000000) (disch := omega) only [↓Sd, ↓So, ↓Sk, ↓den, ↓denA, Sa, Sb, Sc, Se, O1.d, O2.d, O3.d, cmI, arI, envOf, putN, ↓reduceIte, Nat.reduceLT, Nat.reduceSub, Nat.reduceAdd, Int.reduceAdd, Int.reduceEq, Int.reduceLT, Int.reduceLE, arr_pos, arr_neg, ↓wpJoin, hy2, tab_len, tab_get hyn, tab_get hx, Int.toNat_natCast, tab_set', a2, hwr, hql]
   have hfx' : 0 ≤ f' x := by omega
   refine ⟨fun g => ?_, fun g => ?_⟩
   ·obtain ⟨v1, v2⟩ := a1.visit hx hfx' hyn g hm hyT (by rw [a2]; exact a3)
    rw [a2] at v1 v2
    have hxy : ¬ x = y := by rintro rfl; omega
    refine ⟨(fun k => if k = y then f x + 1 else f' k, q' ++ [y]), ⟨rfl, by simp⟩, v1, by simp [hxy, a2], ?_, ?_, ?_, ?_, ?_⟩
    ·intro k hk
     have := a3 k hk
     simp only []
     split <;> omega
    ·intro z hz
     simp only []
     split
     ·omega
     ·rename_i hzy
      rcases List.mem_append.1 hz with h | h
      ·exact a4 z h
      ·exact absurd (List.mem_singleton.1 h) hzy
    ·intro k hk
     simp only []
     split
     ·omega
     ·rename_i hky
      rcases (mem_take_next hj).1 hk with h | h
      ·exact a5 k h
      ·exact absurd (by omega) hky
    ·simp only [List.length_append, List.length_singleton]; omega
    ·simp only []; omega
   ·refine ⟨(f', q'), ⟨rfl, rfl⟩, a1, a2, a3, a4, fun k hk => ?_, a6, a7⟩
    rcases (mem_take_next hj).1 hk with h | h
    ·exact a5 k h
    ·rw [show k = y by omega]; simp only []; omega
  ·rintro ⟨f', q'⟩ ⟨a1, a2, a3, a4, a5, a6, a7⟩
   rw [List.take_length] at a5
   simp only at a1 a2 a3 a4 a5 a6 a7
   simp (contextual := true) (maxSteps := 1000000) (disch := omega) only [↓Sd, ↓So, ↓Sk, ↓den, ↓denA, Sa, Sb, Sc, Se, O1.d, O2.d, O3.d, cmI, arI, envOf, putN, ↓reduceIte, Nat.reduceLT, Nat.reduceSub, Nat.reduceAdd, Int.reduceAdd, Int.reduceEq, Int.reduceLT, Int.reduceLE, arr_pos, arr_neg, ]
   refine ⟨_, ?_, f', q', ⟨rfl, rfl⟩, ⟨a1.ge, a1.zero, a1.pre, a1.inq, a1.sorted, fun a ha h1 h2 _ k hk => ?_, a1.top⟩, fun z q'' hq k hk => ?_, by omega, rfl⟩
   ·omega
   ·by_cases hax : a = x
    ·subst hax
     rw [hr] at hk
     have h3 := hrow _ hk
     have h4 := a3 k (by omega)
     exact ⟨a5 k hk, by omega⟩
    ·exact a1.closed a ha h1 h2 hax k hk
   ·have h3 := a3 k hk
    have h4 := a4 z (by rw [hq]; exact List.mem_cons_self ..)
    omega
structure Rnd (T : List (List Int)) (p : Nat → Bool) (n : Nat) (d a0 C : Nat) (ag : Bool) (f : Nat → Int) : Prop where
 ge : ∀ k, k < n → -1 ≤ f k
 zero : ∀ k, k < n → (f k = 0 ↔ p k = true)
 pre : ∀ k, k < n → 0 < f k → ∃ a, a < n ∧ f a + 1 = f k ∧ (k : Int) ∈ T.getD a []
 le : ∀ k, k < n → f k ≤ (d : Int) + 1
 closed : ∀ a, a < n → 0 ≤ f a → (f a < d ∨ f a = d ∧ a < a0) → ∀ k : Nat, (k : Int) ∈ T.getD a [] → 0 ≤ f k ∧ f k ≤ f a + 1
 none : ag = false → ∀ k, k < n → f k ≤ d
 cnt : cntF (fun k => decide (0 ≤ f k)) n ≤ C
 less : ag = true → cntF (fun k => decide (0 ≤ f k)) n < C
theorem Rnd.visit {T : List (List Int)} {p : Nat → Bool} {n d a0 C y : Nat} {ag : Bool} {f : Nat → Int} (h : Rnd T p n d a0 C ag f) (ha : a0 < n) (hfa : f a0 = d) (hy : y < n) (hfy : f y < 0) (hT : (y : Int) ∈ T.getD a0 []) :
  Rnd T p n d a0 C true (fun k => if k = y then (d : Int) + 1 else f k) := by
 have hay : ¬ a0 = y := by rintro rfl; omega
 have hc : cntF (fun k => decide (0 ≤ (if k = y then (d : Int) + 1 else f k))) n + 1 = cntF (fun k => decide (0 ≤ f k)) n := by
  have := cntF_set (p := fun k => decide (0 ≤ f k)) (j := y) (by simp; omega) (n := n) hy
  rw [← this]
  congr 1
  refine cntF_congr fun k _ => ?_
  by_cases g : k = y
  ·simp [g]; omega
  ·simp [g]
 have hcn := h.cnt
 refine ⟨fun k hk => ?_, fun k hk => ?_, fun k hk h1 => ?_, fun k hk => ?_, fun a h1 h2 h3 k hk => ?_, fun g => (by cases g), by omega, fun _ => by omega⟩
 ·have := h.ge k hk; split <;> omega
 ·have := h.zero k hk
  split
  ·rename_i g; subst g
   constructor
   ·intro h1; omega
   ·intro h1; have := this.2 h1; omega
  ·exact this
 ·by_cases g : k = y
  ·subst g
   exact ⟨a0, ha, by simp [hay, hfa], hT⟩
  ·simp only [g, if_false] at h1 ⊢
   obtain ⟨a, b1, b2, b3⟩ := h.pre k hk h1
   have : ¬ a = y := by rintro rfl; omega
   exact ⟨a, b1, by simp [this, b2], b3⟩
 ·have := h.le k hk; split <;> omega
 ·by_cases e1 : a = y
  ·simp only [e1, if_true] at h3; omega
  ·simp only [e1, if_false] at h2 h3 ⊢
   have := h.closed a h1 h2 h3 k hk
   have e2 : ¬ k = y := by rintro rfl; omega
   simp only [e2, if_false]; exact this
theorem Rnd.skip {T : List (List Int)} {p : Nat → Bool} {n d a0 C : Nat} {ag : Bool} {f : Nat → Int} (h : Rnd T p n d a0 C ag f) (ht : Tbl T n) (hx : f a0 = d → ∀ k : Nat, (k : Int) ∈ T.getD a0 [] → 0 ≤ f k) : Rnd T p n d (a0 + 1) C ag f := by
 refine ⟨h.ge, h.zero, h.pre, h.le, fun a h1 h2 h3 k hk => ?_, h.none, h.cnt, h.less⟩
 by_cases e : a = a0
 ·subst e
  rcases h3 with h3 | h3
  ·exact h.closed a h1 h2 (.inl h3) k hk
  ·have h4 := ht.row _ hk
   have h5 := h.le k (by omega)
   exact ⟨hx h3.1 k hk, by omega⟩
 ·refine h.closed a h1 h2 (h3.imp_right fun h4 => ⟨h4.1, ?_⟩) k hk
  omega
theorem C_spec_l5Steps (T : List (List Int)) (p : Nat → Bool) (F : List Int) (n : Nat) (hn : n ≤ 1000) (ht : Tbl T n) (hF : ∀ x ∈ F, 0 ≤ x ∧ x < n) (hp : ∀ k, k < n → (p k = true ↔ (k : Int) ∈ F)) (Q : List AV → Prop) :
  mc.C f_spec_l5Steps [⟨L (L I), T⟩, ⟨L B, tab p n⟩] Q = Q [⟨L I, tab (dst T F) n⟩] := by
 have hl := ht.1
 refine Mc.Ends.c (mc.ends F_spec_l5Steps ?_)
 simp (contextual := true) (maxSteps := 1000000) (disch := omega) only [↓Sd, ↓So, ↓Sk, ↓den, ↓denA, Sa, Sb, Sc, Se, O1.d, O2.d, O3.d, cmI, arI, envOf, putN, ↓reduceIte, Nat.reduceLT, Nat.reduceSub, Nat.reduceAdd, Int.reduceAdd, Int.reduceEq, Int.reduceLT, Int.reduceLE, arr_pos, arr_neg, tr_spec_l5Steps]
 refine mc.lp_for (List Int) (fun i o => [⟨L (L I), T⟩, ⟨L B, tab p n⟩, ⟨I, (i : Int)⟩, ⟨L I, o⟩]) (fun i o => o = tab (fun k => if p k = true then 0 else -1) i) n 0 [] _ rfl (Nat.zero_le _) rfl ?_ ?_
 ·rintro i o hi rfl
  simp (contextual := true) (maxSteps := 1000000) (disch := omega) only [↓Sd, ↓So, ↓Sk, ↓den, ↓denA, Sa, Sb, Sc, Se, O1.d, O2.d, O3.d, cmI, arI, envOf, putN, ↓reduceIte, Nat.reduceLT, Nat.reduceSub, Nat.reduceAdd, Int.reduceAdd, Int.reduceEq, Int.reduceLT, Int.reduceLE, arr_pos, arr_neg, ↓wpJoin, hl, tab_len, tab_get hi]
  refine ⟨fun g => ?_, fun g => ?_⟩
  ·rw [← tab_next]; simp [g]
  ·rw [← tab_next]; simp [g]
 rintro o rfl
 obtain ⟨f0, hf0⟩ : ∃ f0 : Nat → Int, (fun k => if p k = true then (0 : Int) else -1) = f0 := ⟨_, rfl⟩
 have h0 : ∀ k, (p k = true → f0 k = 0) ∧ (¬ p k = true → f0 k = -1) := fun k => by rw [← hf0]; exact ⟨fun g => by simp [g], fun g => by simp [g]⟩
 rw [hf0]
 clear hf0
 simp (contextual := true) (maxSteps := 1000000) (disch := omega) only [↓Sd, ↓So, ↓Sk, ↓den, ↓denA, Sa, Sb, Sc, Se, O1.d, O2.d, O3.d, cmI, arI, envOf, putN, ↓reduceIte, Nat.reduceLT, Nat.reduceSub, Nat.reduceAdd, Int.reduceAdd, Int.reduceEq, Int.reduceLT, Int.reduceLE, arr_pos, arr_neg, hl]
 refine mc.lp_inv (fun j us => ∃ (f : Nat → Int) (ag : Bool) (d : Nat), us = [⟨L (L I), T⟩, ⟨B, ag⟩, ⟨I, (d : Int)⟩, ⟨L I, tab f n⟩] ∧ (∀ k, k < n → -1 ≤ f k) ∧ (∀ k, k < n → (f k = 0 ↔ p k = true)) ∧ (∀ k, k < n → 0 < f k → ∃ a, a < n ∧ f a + 1 = f k ∧ (k : Int) ∈ T.getD a []) ∧
  (∀ a, a < n → 0 ≤ f a → f a < d → ∀ k : Nat, (k : Int) ∈ T.getD a [] → 0 ≤ f k ∧ f k ≤ f a + 1) ∧ (∀ k, k < n → f k ≤ d) ∧ (ag = false → ∀ k, k < n → f k < d) ∧ (ag = true → d + cntF (fun k => decide (0 ≤ f k)) n ≤ n) ∧
  j = if ag = true then cntF (fun k => decide (0 ≤ f k)) n + 1 else 0) _ _ ⟨f0, true, 0, rfl, fun k _ => ?_, fun k _ => ?_, fun k _ h => ?_, fun a _ h1 h2 => (by omega), fun k _ => ?_, fun g => (by cases g), fun _ => ?_, rfl⟩ ?_
 ·have := h0 k
  by_cases g : p k = true
  ·have := this.1 g; omega
  ·have := this.2 g; omega
 ·have := h0 k
  by_cases g : p k = true
  ·simp [g, this.1 g]
  ·simp [g, this.2 g]
 ·have := h0 k
  by_cases g : p k = true
  ·have := this.1 g; omega
  ·have := this.2 g; omega
 ·have := h0 k
  by_cases g : p k = true
  ·have := this.1 g; omega
  ·have := this.2 g; omega
 ·have : cntF (fun k => decide (0 ≤ f0 k)) n ≤ n := cntF_le
  omega
 rintro j us ⟨f, ag, d, rfl, i1, i2, i3, i4, i5, i6, i7, rfl⟩
 cases ag with
 | false =>
  simp (contextual := true) (maxSteps := 1000000) (disch := omega) only [↓Sd, ↓So, ↓Sk, ↓den, ↓denA, Sa, Sb, Sc, Se, O1.d, O2.d, O3.d, cmI, arI, envOf, putN, ↓reduceIte, Nat.reduceLT, Nat.reduceSub, Nat.reduceAdd, Int.reduceAdd, Int.reduceEq, Int.reduceLT, Int.reduceLE, arr_pos, arr_neg, ]
  exact tab_congr (IsDst.eq ht hF ⟨i1, fun k hk => by rw [i2 k hk, hp k hk], i3, fun a ha h1 k hk => i4 a ha h1 (i6 rfl a ha) k hk⟩)
 | true =>
  have i7 := i7 rfl
  simp (contextual := true) (maxSteps := 1000000) (disch := omega) only [↓Sd, ↓So, ↓Sk, ↓den, ↓denA, Sa, Sb, Sc, Se, O1.d, O2.d, O3.d, cmI, arI, envOf, putN, ↓reduceIte, Nat.reduceLT, Nat.reduceSub, Nat.reduceAdd, Int.reduceAdd, Int.reduceEq, Int.reduceLT, Int.reduceLE, arr_pos, arr_neg, ]
  generalize hC : cntF (fun k => decide (0 ≤ f k)) n = C at *
  refine mc.lp_for ((Nat → Int) × Bool) (fun a s => [⟨L (L I), T⟩, ⟨B, s.2⟩, ⟨I, (d : Int)⟩, ⟨I, (a : Int)⟩, ⟨L I, tab s.1 n⟩]) (fun a s => Rnd T p n d a C s.2 s.1) n 0 (f, false) _ rfl (Nat.zero_le _)
   ⟨i1, i2, i3, fun k hk => Int.le_trans (i5 k hk) (by omega), fun a ha h1 h2 k hk => i4 a ha h1 (h2.elim id fun h => by omega) k hk, fun _ => i5, by rw [hC]; exact Nat.le_refl _, fun g => (by cases g)⟩ ?_ ?_
  ·rintro a0 ⟨f1, ag1⟩ ha0 hR
   simp only at hR
   obtain ⟨row, hr⟩ : ∃ row, T.getD a0 [] = row := ⟨_, rfl⟩
   have hrow := ht.row (i := a0)
   have hrl : (T.getD a0 []).length ≤ 1048576 := (ht.2 _ (getD_mem (by omega))).1
   rw [hr] at hrow hrl
   simp (contextual := true) (maxSteps := 1000000) (disch := omega) only [↓Sd, ↓So, ↓Sk, ↓den, ↓denA, Sa, Sb, Sc, Se, O1.d, O2.d, O3.d, cmI, arI, envOf, putN, ↓reduceIte, Nat.reduceLT, Nat.reduceSub, Nat.reduceAdd, Int.reduceAdd, Int.reduceEq, Int.reduceLT, Int.reduceLE, arr_pos, arr_neg, hl]
   refine mc.lp_for ((Nat → Int) × Bool) (fun i s => [⟨L (L I), T⟩, ⟨B, s.2⟩, ⟨I, (d : Int)⟩, ⟨I, (a0 : Int)⟩, ⟨I, (i : Int)⟩, ⟨L I, tab s.1 n⟩]) (fun i s => Rnd T p n d a0 C s.2 s.1 ∧ ∀ k : Nat, (k : Int) ∈ row.take i → s.1 a0 = d → 0 ≤ s.1 k) row.length 0 (f1, ag1) _ rfl (Nat.zero_le _) ⟨hR, by simp⟩ ?_ ?_
   ·rintro i ⟨f2, ag2⟩ hi ⟨b1, b2⟩
    simp only at b1 b2
    have hy := hrow _ (getD_mem (d := 0) hi)
    obtain ⟨y, hy2⟩ : ∃ y : Nat, row.getD i 0 = y := ⟨(row.getD i 0).toNat, by omega⟩
    have hyn : y < n := by omega
    have hwr : IntKind.i64.wrap ((d : Int) + 1) = (d : Int) + 1 := wrap_id (by omega) (by omega)
    simp (contextual := true) (maxSteps := 1000000) (disch := omega) only [↓Sd, ↓So, ↓Sk, ↓den, ↓denA, Sa, Sb, Sc, Se, O1.d, O2.d, O3.d, cmI, arI, envOf, putN, ↓reduceIte, Nat.reduceLT, Nat.reduceSub, Nat.reduceAdd, Int.reduceAdd, Int.reduceEq, Int.reduceLT, Int.reduceLE, arr_pos, arr_neg, ↓wpJoin, hl, hr, hy2, tab_len, tab_get hyn, tab_get ha0, Int.toNat_natCast, tab_set', hwr]
    refine ⟨fun g => ⟨fun g2 => ?_, fun g2 => ?_⟩, fun g => ?_⟩
    ·have hv := b1.visit ha0 g hyn g2 (by rw [hr, ← hy2]; exact getD_mem hi)
     refine ⟨(fun k => if k = y then (d : Int) + 1 else f2 k, true), ⟨rfl, rfl⟩, hv, fun k hk h3 => ?_⟩
     simp only []
     split
     ·omega
     ·rename_i hky
      rcases (mem_take_next hi).1 hk with h | h
      ·exact b2 k h g
      ·exact absurd (by omega) hky
    ·refine ⟨(f2, ag2), ⟨rfl, rfl⟩, b1, fun k hk h3 => ?_⟩
     rcases (mem_take_next hi).1 hk with h | h
     ·exact b2 k h h3
     ·rw [show k = y by omega]; simp only []; omega
    ·exact ⟨(f2, ag2), ⟨rfl, rfl⟩, b1.skip ht fun h => absurd h g⟩
   ·rintro ⟨f2, ag2⟩ ⟨b1, b2⟩
    rw [List.take_length] at b2
    simp only at b1 b2
    simp (contextual := true) (maxSteps := 1000000) (disch := omega) only [↓Sd, ↓So, ↓Sk, ↓den, ↓denA, Sa, Sb, Sc, Se, O1.d, O2.d, O3.d, cmI, arI, envOf, putN, ↓reduceIte, Nat.reduceLT, Nat.reduceSub, Nat.reduceAdd, Int.reduceAdd, Int.reduceEq, Int.reduceLT, Int.reduceLE, arr_pos, arr_neg, hl, hr]
    exact ⟨(f2, ag2), ⟨rfl, rfl⟩, b1.skip ht fun h k hk => b2 k (by rw [← hr]; exact hk) h⟩
  ·rintro ⟨f1, ag1⟩ hR
   simp only at hR
   have hwr : IntKind.i64.wrap ((d : Int) + 1) = (d : Int) + 1 := wrap_id (by omega) (by omega)
   simp (contextual := true) (maxSteps := 1000000) (disch := omega) only [↓Sd, ↓So, ↓Sk, ↓den, ↓denA, Sa, Sb, Sc, Se, O1.d, O2.d, O3.d, cmI, arI, envOf, putN, ↓reduceIte, Nat.reduceLT, Nat.reduceSub, Nat.reduceAdd, Int.reduceAdd, Int.reduceEq, Int.reduceLT, Int.reduceLE, arr_pos, arr_neg, hl, hwr]
   have hcnt := hR.cnt
   refine ⟨_, ?_, f1, ag1, d + 1, ⟨rfl, by rw [Int.natCast_add]; rfl, rfl⟩, hR.ge, hR.zero, hR.pre, fun a ha h1 h2 k hk => hR.closed a ha h1 ?_ k hk, fun k hk => ?_, fun g k hk => ?_, fun g => ?_, rfl⟩
   ·cases ag1 with
    | true => have := hR.less rfl; simp only [if_true]; omega
    | false => simp
   ·by_cases g : f1 a < d
    ·exact .inl g
    ·exact .inr ⟨by omega, ha⟩
   ·have := hR.le k hk; omega
   ·have := hR.none g k hk; omega
   ·have := hR.less g; omega
theorem Rch.one {T : List (List Int)} {a : Nat} : Rch T [(a : Int)] a := .base (by simp)
theorem dst_le {T : List (List Int)} {F : List Int} {d k : Nat} : Lay T F d k ↔ 0 ≤ dst T F k ∧ dst T F k ≤ d := by
 unfold dst
 constructor
 ·intro h
  have hh : ∃ d, Lay T F d k := ⟨d, h⟩
  rw [dif_pos hh]
  obtain ⟨b1, b2⟩ := Classical.choose_spec (least hh)
  generalize Classical.choose (least hh) = e at b1 b2
  have : ¬ d < e := fun g => b2 d g h
  omega
 ·rintro ⟨h1, h2⟩
  by_cases g : ∃ d, Lay T F d k
  ·rw [dif_pos g] at h1 h2
   obtain ⟨b1, -⟩ := Classical.choose_spec (least g)
   generalize Classical.choose (least g) = e at b1 h1 h2
   exact b1.up (by omega)
  ·rw [dif_neg g] at h1; omega
noncomputable def ecc (s : Sy) : List Int := tab (dst (steps s) [num s.1 (fst0 s.1)]) (szn s.1)
theorem rset_len {s : Sy} (h : valid s) : (rset s).length ≤ 400 := upTo_few h
abbrev RD : Ty := P (L U) I
def Byt (b : List Int) : Prop := ∀ x ∈ b, 0 ≤ x ∧ x ≤ 255
def Rdy (b : List Int) : Prop := Byt b ∧ b.length ≤ 2000
theorem Byt.get {b : List Int} (h : Byt b) (i : Nat) : 0 ≤ b.getD i 0 ∧ b.getD i 0 ≤ 255 := by
 by_cases hi : i < b.length
 ·exact h _ (getD_mem hi)
 ·rw [List.getD_eq_getElem?_getD, List.getElem?_eq_none (by omega)]; simp
theorem xor_bd {x y : Int} (hx : 0 ≤ x ∧ x < 1099511627776) (hy : 0 ≤ y ∧ y < 1099511627776) : 0 ≤ IntKind.i64.wrap ((BitVec.ofInt IntKind.i64.bits x ^^^ BitVec.ofInt IntKind.i64.bits y).toNat : Int) := by
 have e : ∀ z : Int, 0 ≤ z ∧ z < 1099511627776 → (BitVec.ofInt IntKind.i64.bits z).toNat < 2 ^ 40 := by
  intro z hz
  rw [BitVec.toNat_ofInt]
  show Int.toNat (z % (2 : Int) ^ 64) < 2 ^ 40
  omega
 have h : (BitVec.ofInt IntKind.i64.bits x ^^^ BitVec.ofInt IntKind.i64.bits y).toNat < 2 ^ 40 := by
  rw [BitVec.toNat_xor]
  exact Nat.xor_lt_two_pow (e x hx) (e y hy)
 rw [wrap_id (by omega) (by omega)]
 omega
theorem D_pick (b : List Int) (p n : Int) (hb : Rdy b) (hp : 0 ≤ p ∧ p ≤ 1000000000) {Q : List AV → Prop} (h : ∀ v : Int, 0 ≤ v → (1 ≤ n → v < n) → Q [⟨I, v⟩, ⟨RD, (b, p + 1)⟩]) : mc.C f_spec_l40Rd_pick [⟨RD, (b, p)⟩, ⟨I, n⟩] Q := by
 refine mc.c_of F_spec_l40Rd_pick ?_
 have hl := hb.2
 simp (contextual := true) (maxSteps := 1000000) (disch := omega) only [↓Sd, ↓So, ↓Sk, ↓den, ↓denA, Sa, Sb, Sc, Se, O1.d, O2.d, O3.d, cmI, arI, envOf, putN, ↓reduceIte, Nat.reduceLT, Nat.reduceSub, Nat.reduceAdd, Int.reduceAdd, Int.reduceEq, Int.reduceLT, Int.reduceLE, arr_pos, arr_neg, tr_spec_l40Rd_pick]
 refine ⟨fun g => h 0 (by omega) (by omega), fun g => ⟨fun g2 => h 0 (by omega) (by omega), fun g2 => ?_⟩⟩
 have hn : 1 ≤ n := by omega
 have hlb : 0 < (b.length : Int) := by omega
 refine ⟨fun g3 => ?_, fun g3 => ?_⟩
 ·have h1 := hb.1.get p.toNat
  rw [wrap_id (by omega) (by omega), Int.tmod_eq_emod_of_nonneg h1.1]
  exact h _ (Int.emod_nonneg _ (by omega)) fun _ => Int.emod_lt_of_pos _ (by omega)
 ·have a1 := Int.emod_nonneg p (show (b.length : Int) ≠ 0 by omega)
  have a2 := Int.emod_lt_of_pos p hlb
  have a3 := Int.emod_nonneg (p * 7 + 3) (show (b.length : Int) ≠ 0 by omega)
  have a4 := Int.emod_lt_of_pos (p * 7 + 3) hlb
  have a5 := Int.ediv_nonneg hp.1 (Int.le_of_lt hlb)
  have a6 := Int.ediv_le_self (b.length : Int) hp.1
  have h1 := hb.1.get (p % (b.length : Int)).toNat
  have h2 := hb.1.get ((p * 7 + 3) % (b.length : Int)).toNat
  refine ⟨a1, a2, a3, a4, ?_⟩
  generalize b.getD (p % (b.length : Int)).toNat 0 = x1 at *
  generalize b.getD ((p * 7 + 3) % (b.length : Int)).toNat 0 = x2 at *
  generalize p / (b.length : Int) = x3 at *
  rw [wrap_id (x := x1) (by omega) (by omega), wrap_id (x := x2) (by omega) (by omega), wrap_id (x := x3) (by omega) (by omega), wrap_id (x := x1 * 131) (by omega) (by omega), wrap_id (x := x2 * 1117) (by omega) (by omega), wrap_id (x := x1 * 131 + x2 * 1117) (by omega) (by omega), wrap_id (x := x1 * 131 + x2 * 1117 + p * 29) (by omega) (by omega), wrap_id (x := x3 * 53) (by omega) (by omega), wrap_id (x := x1 * 131 + x2 * 1117 + p * 29 + x3 * 53) (by omega) (by omega)]
  obtain ⟨y, hy⟩ : ∃ y, x1 * 131 + x2 * 1117 + p * 29 + x3 * 53 = y := ⟨_, rfl⟩
  have hyb : 0 ≤ y ∧ y < 1099511627776 := by omega
  rw [hy, Int.tdiv_eq_ediv_of_nonneg hyb.1, wrap_id (x := y / 64) (by omega) (by omega)]
  have h4 := xor_bd hyb (y := y / 64) (by omega)
  rw [Int.tmod_eq_emod_of_nonneg h4]
  exact h _ (Int.emod_nonneg _ (by omega)) fun _ => Int.emod_lt_of_pos _ (by omega)
theorem D_pick1 (b : List Int) (p n : Int) (hb : Rdy b) (hp : 0 ≤ p ∧ p ≤ 1000000000) (hn : 1 ≤ n) {Q : List AV → Prop} (h : ∀ v : Int, 0 ≤ v → v < n → Q [⟨I, v⟩, ⟨RD, (b, p + 1)⟩]) : mc.C f_spec_l40Rd_pick [⟨RD, (b, p)⟩, ⟨I, n⟩] Q := D_pick b p n hb hp fun v h0 h1 => h v h0 (h1 hn)
theorem D_num (b : List Int) (p : Int) (l : List Int) (hb : Rdy b) (hp : 0 ≤ p ∧ p ≤ 1000000000) (hl : l ≠ []) (hl2 : l.length ≤ 1048576) {Q : List AV → Prop} (h : ∀ v : Int, v ∈ l → Q [⟨I, v⟩, ⟨RD, (b, p + 1)⟩]) : mc.C f_spec_l40Rd_num [⟨RD, (b, p)⟩, ⟨L I, l⟩] Q := by
 have hl1 : 0 < l.length := List.length_pos_iff.2 hl
 refine mc.c_of F_spec_l40Rd_num ?_
 simp (contextual := true) (maxSteps := 1000000) (disch := omega) only [↓Sd, ↓So, ↓Sk, ↓den, ↓denA, Sa, Sb, Sc, Se, O1.d, O2.d, O3.d, cmI, arI, envOf, putN, ↓reduceIte, Nat.reduceLT, Nat.reduceSub, Nat.reduceAdd, Int.reduceAdd, Int.reduceEq, Int.reduceLT, Int.reduceLE, arr_pos, arr_neg, tr_spec_l40Rd_num]
 refine D_pick1 b p _ hb hp (by omega) fun v h0 h1 => ?_
 simp (contextual := true) (maxSteps := 1000000) (disch := omega) only [↓Sd, ↓So, ↓Sk, ↓den, ↓denA, Sa, Sb, Sc, Se, O1.d, O2.d, O3.d, cmI, arI, envOf, putN, ↓reduceIte, Nat.reduceLT, Nat.reduceSub, Nat.reduceAdd, Int.reduceAdd, Int.reduceEq, Int.reduceLT, Int.reduceLE, arr_pos, arr_neg, ]
 exact h _ (getD_mem (by omega))
theorem D_open (b : List Int) (hb : Byt b) (hl : Lt63 b) {Q : List AV → Prop} (h : ∀ b', Rdy b' → Q [⟨RD, (b', 0)⟩]) : mc.C f_spec_l40Open [⟨L U, b⟩] Q := by
 unfold Lt63 at hl
 refine mc.c_of F_spec_l40Open ?_
 simp (contextual := true) (maxSteps := 1000000) (disch := omega) only [↓Sd, ↓So, ↓Sk, ↓den, ↓denA, Sa, Sb, Sc, Se, O1.d, O2.d, O3.d, cmI, arI, envOf, putN, ↓reduceIte, Nat.reduceLT, Nat.reduceSub, Nat.reduceAdd, Int.reduceAdd, Int.reduceEq, Int.reduceLT, Int.reduceLE, arr_pos, arr_neg, ↓wpJoin, tr_spec_l40Open]
 refine ⟨fun g => ?_, fun g => h b ⟨hb, by omega⟩⟩
 refine h _ ⟨fun x hx => hb x ?_, ?_⟩
 ·exact List.mem_of_mem_take hx
 ·rw [List.length_take]; omega
theorem D_l1Number (b : List Int) (p : Int) (hb : Rdy b) (hp : 0 ≤ p ∧ p ≤ 900000000) {Q : List AV → Prop} (h : ∀ v p' : Int, p ≤ p' ∧ p' ≤ p + 6 → Q [⟨I, v⟩, ⟨RD, (b, p')⟩]) : mc.C f_spec_l1Number [⟨RD, (b, p)⟩] Q := by
 refine mc.c_of F_spec_l1Number ?_
 simp (contextual := true) (maxSteps := 1000000) (disch := omega) only [↓Sd, ↓So, ↓Sk, ↓den, ↓denA, Sa, Sb, Sc, Se, O1.d, O2.d, O3.d, cmI, arI, envOf, putN, ↓reduceIte, Nat.reduceLT, Nat.reduceSub, Nat.reduceAdd, Int.reduceAdd, Int.reduceEq, Int.reduceLT, Int.reduceLE, arr_pos, arr_neg, tr_spec_l1Number]
 refine D_pick1 _ _ _ hb (by omega) (by omega) fun v1 v10 v11 => ?_; simp (contextual := true) (maxSteps := 1000000) (disch := omega) only [↓Sd, ↓So, ↓Sk, ↓den, ↓denA, Sa, Sb, Sc, Se, O1.d, O2.d, O3.d, cmI, arI, envOf, putN, ↓reduceIte, Nat.reduceLT, Nat.reduceSub, Nat.reduceAdd, Int.reduceAdd, Int.reduceEq, Int.reduceLT, Int.reduceLE, arr_pos, arr_neg, ]
 refine D_pick1 _ _ _ hb (by omega) (by omega) fun v2 v20 v21 => ?_; simp (contextual := true) (maxSteps := 1000000) (disch := omega) only [↓Sd, ↓So, ↓Sk, ↓den, ↓denA, Sa, Sb, Sc, Se, O1.d, O2.d, O3.d, cmI, arI, envOf, putN, ↓reduceIte, Nat.reduceLT, Nat.reduceSub, Nat.reduceAdd, Int.reduceAdd, Int.reduceEq, Int.reduceLT, Int.reduceLE, arr_pos, arr_neg, ]
 refine D_pick1 _ _ _ hb (by omega) (by omega) fun v3 v30 v31 => ?_; simp (contextual := true) (maxSteps := 1000000) (disch := omega) only [↓Sd, ↓So, ↓Sk, ↓den, ↓denA, Sa, Sb, Sc, Se, O1.d, O2.d, O3.d, cmI, arI, envOf, putN, ↓reduceIte, Nat.reduceLT, Nat.reduceSub, Nat.reduceAdd, Int.reduceAdd, Int.reduceEq, Int.reduceLT, Int.reduceLE, arr_pos, arr_neg, ]
 refine D_pick1 _ _ _ hb (by omega) (by omega) fun v4 v40 v41 => ?_; simp (contextual := true) (maxSteps := 1000000) (disch := omega) only [↓Sd, ↓So, ↓Sk, ↓den, ↓denA, Sa, Sb, Sc, Se, O1.d, O2.d, O3.d, cmI, arI, envOf, putN, ↓reduceIte, Nat.reduceLT, Nat.reduceSub, Nat.reduceAdd, Int.reduceAdd, Int.reduceEq, Int.reduceLT, Int.reduceLE, arr_pos, arr_neg, ]
 refine D_pick1 _ _ _ hb (by omega) (by omega) fun v5 v50 v51 => ?_; simp (contextual := true) (maxSteps := 1000000) (disch := omega) only [↓Sd, ↓So, ↓Sk, ↓den, ↓denA, Sa, Sb, Sc, Se, O1.d, O2.d, O3.d, cmI, arI, envOf, putN, ↓reduceIte, Nat.reduceLT, Nat.reduceSub, Nat.reduceAdd, Int.reduceAdd, Int.reduceEq, Int.reduceLT, Int.reduceLE, arr_pos, arr_neg, ]
 refine D_num _ _ _ hb (by omega) (by simp) (by simp) fun v v0 => ?_; simp (contextual := true) (maxSteps := 1000000) (disch := omega) only [↓Sd, ↓So, ↓Sk, ↓den, ↓denA, Sa, Sb, Sc, Se, O1.d, O2.d, O3.d, cmI, arI, envOf, putN, ↓reduceIte, Nat.reduceLT, Nat.reduceSub, Nat.reduceAdd, Int.reduceAdd, Int.reduceEq, Int.reduceLT, Int.reduceLE, arr_pos, arr_neg, ]
 exact h v _ (by omega)
theorem D_l1Pick (b : List Int) (p : Int) (ks : List Int) (kind : Int) (hb : Rdy b) (hp : 0 ≤ p ∧ p ≤ 900000000) (hk : 0 < ks.length) (hk2 : ks.length ≤ 1000) {Q : List AV → Prop} (h : ∀ v : Int, -1 ≤ v ∧ v < ks.length → Q [⟨I, v⟩, ⟨RD, (b, p + 1)⟩]) : mc.C f_spec_l1Pick [⟨RD, (b, p)⟩, ⟨L I, ks⟩, ⟨I, kind⟩] Q := by
 refine mc.c_of F_spec_l1Pick ?_
 simp (contextual := true) (maxSteps := 1000000) (disch := omega) only [↓Sd, ↓So, ↓Sk, ↓den, ↓denA, Sa, Sb, Sc, Se, O1.d, O2.d, O3.d, cmI, arI, envOf, putN, ↓reduceIte, Nat.reduceLT, Nat.reduceSub, Nat.reduceAdd, Int.reduceAdd, Int.reduceEq, Int.reduceLT, Int.reduceLE, arr_pos, arr_neg, tr_spec_l1Pick]
 refine D_pick1 _ _ _ hb (by omega) (by omega) fun a a0 a1 => ?_; simp (contextual := true) (maxSteps := 1000000) (disch := omega) only [↓Sd, ↓So, ↓Sk, ↓den, ↓denA, Sa, Sb, Sc, Se, O1.d, O2.d, O3.d, cmI, arI, envOf, putN, ↓reduceIte, Nat.reduceLT, Nat.reduceSub, Nat.reduceAdd, Int.reduceAdd, Int.reduceEq, Int.reduceLT, Int.reduceLE, arr_pos, arr_neg, ]
 refine mc.lp_for Unit (fun i _ => [⟨L I, ks⟩, ⟨I, kind⟩, ⟨I, a⟩, ⟨I, (i : Int)⟩, ⟨L U, b⟩, ⟨I, p + 1⟩]) (fun _ _ => True) ks.length 0 () _ rfl (Nat.zero_le _) trivial ?_ ?_
 ·rintro i - hi -
  have a1 := Int.emod_nonneg (a + (i : Int)) (show (ks.length : Int) ≠ 0 by omega)
  have a2 := Int.emod_lt_of_pos (a + (i : Int)) (show 0 < (ks.length : Int) by omega)
  simp (contextual := true) (maxSteps := 1000000) (disch := omega) only [↓Sd, ↓So, ↓Sk, ↓den, ↓denA, Sa, Sb, Sc, Se, O1.d, O2.d, O3.d, cmI, arI, envOf, putN, ↓reduceIte, Nat.reduceLT, Nat.reduceSub, Nat.reduceAdd, Int.reduceAdd, Int.reduceEq, Int.reduceLT, Int.reduceLE, arr_pos, arr_neg, ]
  exact fun _ => h _ (by omega)
 ·rintro - -
  simp (contextual := true) (maxSteps := 1000000) (disch := omega) only [↓Sd, ↓So, ↓Sk, ↓den, ↓denA, Sa, Sb, Sc, Se, O1.d, O2.d, O3.d, cmI, arI, envOf, putN, ↓reduceIte, Nat.reduceLT, Nat.reduceSub, Nat.reduceAdd, Int.reduceAdd, Int.reduceEq, Int.reduceLT, Int.reduceLE, arr_pos, arr_neg, ]
  exact h _ (by omega)
theorem C_spec_l2VarOf (n : Int) (Q : List AV → Prop) : mc.C f_spec_l2VarOf [⟨I, n⟩] Q = Q [⟨I, 1⟩, ⟨I, n⟩, ⟨I, 0⟩, ⟨I, 0⟩] := Mc.Ends.c (mc.ends F_spec_l2VarOf (by simp (contextual := true) (maxSteps := 1000000) (disch := omega) only [↓Sd, ↓So, ↓Sk, ↓den, ↓denA, Sa, Sb, Sc, Se, O1.d, O2.d, O3.d, cmI, arI, envOf, putN, ↓reduceIte, Nat.reduceLT, Nat.reduceSub, Nat.reduceAdd, Int.reduceAdd, Int.reduceEq, Int.reduceLT, Int.reduceLE, arr_pos, arr_neg, tr_spec_l2VarOf]))
theorem C_spec_l2Const (n : Int) (Q : List AV → Prop) : mc.C f_spec_l2Const [⟨I, n⟩] Q = Q [⟨I, 0⟩, ⟨I, n⟩, ⟨I, 0⟩, ⟨I, 0⟩] := Mc.Ends.c (mc.ends F_spec_l2Const (by simp (contextual := true) (maxSteps := 1000000) (disch := omega) only [↓Sd, ↓So, ↓Sk, ↓den, ↓denA, Sa, Sb, Sc, Se, O1.d, O2.d, O3.d, cmI, arI, envOf, putN, ↓reduceIte, Nat.reduceLT, Nat.reduceSub, Nat.reduceAdd, Int.reduceAdd, Int.reduceEq, Int.reduceLT, Int.reduceLE, arr_pos, arr_neg, tr_spec_l2Const]))
theorem D_l2Cond (b : List Int) (p : Int) (v : Vr) (at_ : Int) (hb : Rdy b) (hp : 0 ≤ p ∧ p ≤ 900000000) {Q : List AV → Prop} (h : ∀ (l : List Tm) (p' : Int), p ≤ p' ∧ p' ≤ p + 3 → l.length ≤ 4 → Q [⟨L T4, l⟩, ⟨RD, (b, p')⟩]) : mc.C f_spec_l2Cond [⟨RD, (b, p)⟩, ⟨I, v.1⟩, ⟨I, v.2.1⟩, ⟨I, v.2.2⟩, ⟨I, at_⟩] Q := by
 refine mc.c_of F_spec_l2Cond ?_
 simp (contextual := true) (maxSteps := 1000000) (disch := omega) only [↓Sd, ↓So, ↓Sk, ↓den, ↓denA, Sa, Sb, Sc, Se, O1.d, O2.d, O3.d, cmI, arI, envOf, putN, ↓reduceIte, Nat.reduceLT, Nat.reduceSub, Nat.reduceAdd, Int.reduceAdd, Int.reduceEq, Int.reduceLT, Int.reduceLE, arr_pos, arr_neg, tr_spec_l2Cond]
 refine D_pick _ _ _ hb (by omega) fun n _ _ => ?_
 simp (contextual := true) (maxSteps := 1000000) (disch := omega) only [↓Sd, ↓So, ↓Sk, ↓den, ↓denA, Sa, Sb, Sc, Se, O1.d, O2.d, O3.d, cmI, arI, envOf, putN, ↓reduceIte, Nat.reduceLT, Nat.reduceSub, Nat.reduceAdd, Int.reduceAdd, Int.reduceEq, Int.reduceLT, Int.reduceLE, arr_pos, arr_neg, ↓wpJoin, ]
 refine D_num _ _ _ hb (by omega) (by simp) (by simp) fun o o0 => ?_; simp (contextual := true) (maxSteps := 1000000) (disch := omega) only [↓Sd, ↓So, ↓Sk, ↓den, ↓denA, Sa, Sb, Sc, Se, O1.d, O2.d, O3.d, cmI, arI, envOf, putN, ↓reduceIte, Nat.reduceLT, Nat.reduceSub, Nat.reduceAdd, Int.reduceAdd, Int.reduceEq, Int.reduceLT, Int.reduceLE, arr_pos, arr_neg, ]
 simp (contextual := true) (maxSteps := 1000000) (disch := omega) only [↓Sd, ↓So, ↓Sk, ↓den, ↓denA, Sa, Sb, Sc, Se, O1.d, O2.d, O3.d, cmI, arI, envOf, putN, ↓reduceIte, Nat.reduceLT, Nat.reduceSub, Nat.reduceAdd, Int.reduceAdd, Int.reduceEq, Int.reduceLT, Int.reduceLE, arr_pos, arr_neg, ↓wpJoin, C_spec_l2VarOf, C_spec_l2Const]
 refine D_pick1 _ _ _ hb (by omega) (by omega) fun k k0 k1 => ?_; simp (contextual := true) (maxSteps := 1000000) (disch := omega) only [↓Sd, ↓So, ↓Sk, ↓den, ↓denA, Sa, Sb, Sc, Se, O1.d, O2.d, O3.d, cmI, arI, envOf, putN, ↓reduceIte, Nat.reduceLT, Nat.reduceSub, Nat.reduceAdd, Int.reduceAdd, Int.reduceEq, Int.reduceLT, Int.reduceLE, arr_pos, arr_neg, ]
 exact ⟨fun _ => h _ _ (by omega) (by simp), fun _ => h _ _ (by omega) (by simp)⟩
def mvT (t : Tm) (n : Int) : Tm := if 2 ≤ t.1 then (t.1, 0, IntKind.i64.wrap (t.2.2.1 + n), IntKind.i64.wrap (t.2.2.2 + n)) else t
theorem C_spec_l1Moved (t : Tm) (n : Int) (Q : List AV → Prop) : mc.C f_spec_l1Moved [⟨I, t.1⟩, ⟨I, t.2.1⟩, ⟨I, t.2.2.1⟩, ⟨I, t.2.2.2⟩, ⟨I, n⟩] Q = Q [⟨I, (mvT t n).1⟩, ⟨I, (mvT t n).2.1⟩, ⟨I, (mvT t n).2.2.1⟩, ⟨I, (mvT t n).2.2.2⟩] := by
 refine Mc.Ends.c (mc.ends F_spec_l1Moved ?_)
 unfold mvT
 by_cases g : 2 ≤ t.1
 ·rw [if_pos g]
  simp (contextual := true) (maxSteps := 1000000) (disch := omega) only [↓Sd, ↓So, ↓Sk, ↓den, ↓denA, Sa, Sb, Sc, Se, O1.d, O2.d, O3.d, cmI, arI, envOf, putN, ↓reduceIte, Nat.reduceLT, Nat.reduceSub, Nat.reduceAdd, Int.reduceAdd, Int.reduceEq, Int.reduceLT, Int.reduceLE, arr_pos, arr_neg, tr_spec_l1Moved]
 ·rw [if_neg g]
  simp (contextual := true) (maxSteps := 1000000) (disch := omega) only [↓Sd, ↓So, ↓Sk, ↓den, ↓denA, Sa, Sb, Sc, Se, O1.d, O2.d, O3.d, cmI, arI, envOf, putN, ↓reduceIte, Nat.reduceLT, Nat.reduceSub, Nat.reduceAdd, Int.reduceAdd, Int.reduceEq, Int.reduceLT, Int.reduceLE, arr_pos, arr_neg, tr_spec_l1Moved]
theorem C_spec_TermsValid (l : List Tm) (vars : Int) (hl : Few l) (Q : List AV → Prop) : mc.C f_spec_TermsValid [⟨L T4, l⟩, ⟨I, vars⟩] Q = Q [⟨B, decide (((kdsOf l vars).length : Int) > 0)⟩] := by
 refine Mc.Ends.c (mc.ends F_spec_TermsValid ?_)
 simp (contextual := true) (maxSteps := 1000000) (disch := omega) only [↓Sd, ↓So, ↓Sk, ↓den, ↓denA, Sa, Sb, Sc, Se, O1.d, O2.d, O3.d, cmI, arI, envOf, putN, ↓reduceIte, Nat.reduceLT, Nat.reduceSub, Nat.reduceAdd, Int.reduceAdd, Int.reduceEq, Int.reduceLT, Int.reduceLE, arr_pos, arr_neg, tr_spec_TermsValid, C_spec_KindsOf l vars hl]
theorem D_Joined (o : Int) (l m : List Tm) (vars : Int) (hl : l.length ≤ 1000) (hm : m.length ≤ 1000) {Q : List AV → Prop} (h : ∀ (r : List Tm), r.length ≤ l.length + m.length + 1 → Q [⟨L T4, r⟩]) : mc.C f_spec_Joined [⟨I, o⟩, ⟨L T4, l⟩, ⟨L T4, m⟩, ⟨I, vars⟩] Q := by
 have h1 : Few l := by unfold Few; omega
 have h2 : Few m := by unfold Few; omega
 refine mc.c_of F_spec_Joined ?_
 simp (contextual := true) (maxSteps := 1000000) (disch := omega) only [↓Sd, ↓So, ↓Sk, ↓den, ↓denA, Sa, Sb, Sc, Se, O1.d, O2.d, O3.d, cmI, arI, envOf, putN, ↓reduceIte, Nat.reduceLT, Nat.reduceSub, Nat.reduceAdd, Int.reduceAdd, Int.reduceEq, Int.reduceLT, Int.reduceLE, arr_pos, arr_neg, tr_spec_Joined, C_spec_TermsValid l vars h1, C_spec_TermsValid m vars h2]
 refine ⟨fun _ => h _ (by simp), fun _ => ⟨fun _ => h _ (by simp), fun _ => ?_⟩⟩
 refine mc.lp_for (List Tm) (fun i s => [⟨I, o⟩, ⟨L T4, l⟩, ⟨L T4, m⟩, ⟨I, vars⟩, ⟨I, (i : Int)⟩, ⟨L T4, s⟩]) (fun i s => s.length = i) l.length 0 [] _ rfl (Nat.zero_le _) rfl ?_ ?_
 ·rintro i s hi hs
  simp (contextual := true) (maxSteps := 1000000) (disch := omega) only [↓Sd, ↓So, ↓Sk, ↓den, ↓denA, Sa, Sb, Sc, Se, O1.d, O2.d, O3.d, cmI, arI, envOf, putN, ↓reduceIte, Nat.reduceLT, Nat.reduceSub, Nat.reduceAdd, Int.reduceAdd, Int.reduceEq, Int.reduceLT, Int.reduceLE, arr_pos, arr_neg, ]
  omega
 rintro s hs
 simp (contextual := true) (maxSteps := 1000000) (disch := omega) only [↓Sd, ↓So, ↓Sk, ↓den, ↓denA, Sa, Sb, Sc, Se, O1.d, O2.d, O3.d, cmI, arI, envOf, putN, ↓reduceIte, Nat.reduceLT, Nat.reduceSub, Nat.reduceAdd, Int.reduceAdd, Int.reduceEq, Int.reduceLT, Int.reduceLE, arr_pos, arr_neg, ↓wpJoin, ]
 refine mc.lp_for (List Tm) (fun i s => [⟨I, o⟩, ⟨L T4, l⟩, ⟨L T4, m⟩, ⟨I, vars⟩, ⟨I, (i : Int)⟩, ⟨L T4, s⟩]) (fun i s => s.length ≤ l.length + i) m.length 0 s _ rfl (Nat.zero_le _) (by omega) ?_ ?_
 ·rintro i s hi hs
  simp (contextual := true) (maxSteps := 1000000) (disch := omega) only [↓Sd, ↓So, ↓Sk, ↓den, ↓denA, Sa, Sb, Sc, Se, O1.d, O2.d, O3.d, cmI, arI, envOf, putN, ↓reduceIte, Nat.reduceLT, Nat.reduceSub, Nat.reduceAdd, Int.reduceAdd, Int.reduceEq, Int.reduceLT, Int.reduceLE, arr_pos, arr_neg, C_spec_l1One, C_spec_l1Moved]
  refine ⟨fun _ => by omega, fun g => ?_⟩
  have hf : Few (s ++ [((7 : Int), (0 : Int), (l.length : Int) - 1, (s.length : Int) - 1)]) := by unfold Few; simp only [List.length_append, List.length_singleton]; omega
  simp (contextual := true) (maxSteps := 1000000) (disch := omega) only [↓Sd, ↓So, ↓Sk, ↓den, ↓denA, Sa, Sb, Sc, Se, O1.d, O2.d, O3.d, cmI, arI, envOf, putN, ↓reduceIte, Nat.reduceLT, Nat.reduceSub, Nat.reduceAdd, Int.reduceAdd, Int.reduceEq, Int.reduceLT, Int.reduceLE, arr_pos, arr_neg, C_spec_TermsValid _ vars hf]
  exact ⟨fun _ => h _ (by simp), fun _ => h _ (by simp only [List.length_append, List.length_singleton]; omega)⟩
 ·rintro s hs
  simp (contextual := true) (maxSteps := 1000000) (disch := omega) only [↓Sd, ↓So, ↓Sk, ↓den, ↓denA, Sa, Sb, Sc, Se, O1.d, O2.d, O3.d, cmI, arI, envOf, putN, ↓reduceIte, Nat.reduceLT, Nat.reduceSub, Nat.reduceAdd, Int.reduceAdd, Int.reduceEq, Int.reduceLT, Int.reduceLE, arr_pos, arr_neg, ]
  refine ⟨fun _ => h _ (by simp), fun _ => ?_⟩
  have hf : Few (s ++ [(o, (0 : Int), (l.length : Int) - 1, (s.length : Int) - 1)]) := by unfold Few; simp only [List.length_append, List.length_singleton]; omega
  simp (contextual := true) (maxSteps := 1000000) (disch := omega) only [↓Sd, ↓So, ↓Sk, ↓den, ↓denA, Sa, Sb, Sc, Se, O1.d, O2.d, O3.d, cmI, arI, envOf, putN, ↓reduceIte, Nat.reduceLT, Nat.reduceSub, Nat.reduceAdd, Int.reduceAdd, Int.reduceEq, Int.reduceLT, Int.reduceLE, arr_pos, arr_neg, C_spec_TermsValid _ vars hf]
  exact ⟨fun _ => h _ (by simp), fun _ => h _ (by simp only [List.length_append, List.length_singleton]; omega)⟩
theorem D_l2When (b : List Int) (p : Int) (vs : List Vr) (hb : Rdy b) (hp : 0 ≤ p ∧ p ≤ 800000000) (hv : 1 ≤ vs.length) (hv2 : vs.length ≤ 1000) {Q : List AV → Prop} (h : ∀ (l : List Tm) (p' : Int), p ≤ p' ∧ p' ≤ p + 10 → l.length ≤ 9 → Q [⟨L T4, l⟩, ⟨RD, (b, p')⟩]) : mc.C f_spec_l2When [⟨RD, (b, p)⟩, ⟨L V3, vs⟩] Q := by
 refine mc.c_of F_spec_l2When ?_
 simp (contextual := true) (maxSteps := 1000000) (disch := omega) only [↓Sd, ↓So, ↓Sk, ↓den, ↓denA, Sa, Sb, Sc, Se, O1.d, O2.d, O3.d, cmI, arI, envOf, putN, ↓reduceIte, Nat.reduceLT, Nat.reduceSub, Nat.reduceAdd, Int.reduceAdd, Int.reduceEq, Int.reduceLT, Int.reduceLE, arr_pos, arr_neg, tr_spec_l2When]
 refine D_pick1 _ _ _ hb (by omega) (by omega) fun i i0 i1 => ?_; simp (contextual := true) (maxSteps := 1000000) (disch := omega) only [↓Sd, ↓So, ↓Sk, ↓den, ↓denA, Sa, Sb, Sc, Se, O1.d, O2.d, O3.d, cmI, arI, envOf, putN, ↓reduceIte, Nat.reduceLT, Nat.reduceSub, Nat.reduceAdd, Int.reduceAdd, Int.reduceEq, Int.reduceLT, Int.reduceLE, arr_pos, arr_neg, ]
 refine D_l2Cond _ _ (vs.getD i.toNat (0, 0, 0)) _ hb (by omega) fun l p1 hp1 hl => ?_
 simp (contextual := true) (maxSteps := 1000000) (disch := omega) only [↓Sd, ↓So, ↓Sk, ↓den, ↓denA, Sa, Sb, Sc, Se, O1.d, O2.d, O3.d, cmI, arI, envOf, putN, ↓reduceIte, Nat.reduceLT, Nat.reduceSub, Nat.reduceAdd, Int.reduceAdd, Int.reduceEq, Int.reduceLT, Int.reduceLE, arr_pos, arr_neg, ↓wpJoin, ]
 refine D_pick1 _ _ _ hb (by omega) (by omega) fun k k0 k1 => ?_; simp (contextual := true) (maxSteps := 1000000) (disch := omega) only [↓Sd, ↓So, ↓Sk, ↓den, ↓denA, Sa, Sb, Sc, Se, O1.d, O2.d, O3.d, cmI, arI, envOf, putN, ↓reduceIte, Nat.reduceLT, Nat.reduceSub, Nat.reduceAdd, Int.reduceAdd, Int.reduceEq, Int.reduceLT, Int.reduceLE, arr_pos, arr_neg, ]
 refine ⟨fun _ => ?_, fun _ => h _ _ (by omega) (by omega)⟩
 refine D_pick1 _ _ _ hb (by omega) (by omega) fun j j0 j1 => ?_; simp (contextual := true) (maxSteps := 1000000) (disch := omega) only [↓Sd, ↓So, ↓Sk, ↓den, ↓denA, Sa, Sb, Sc, Se, O1.d, O2.d, O3.d, cmI, arI, envOf, putN, ↓reduceIte, Nat.reduceLT, Nat.reduceSub, Nat.reduceAdd, Int.reduceAdd, Int.reduceEq, Int.reduceLT, Int.reduceLE, arr_pos, arr_neg, ]
 refine D_num _ _ _ hb (by omega) (by simp) (by simp) fun o o0 => ?_; simp (contextual := true) (maxSteps := 1000000) (disch := omega) only [↓Sd, ↓So, ↓Sk, ↓den, ↓denA, Sa, Sb, Sc, Se, O1.d, O2.d, O3.d, cmI, arI, envOf, putN, ↓reduceIte, Nat.reduceLT, Nat.reduceSub, Nat.reduceAdd, Int.reduceAdd, Int.reduceEq, Int.reduceLT, Int.reduceLE, arr_pos, arr_neg, ]
 refine D_l2Cond _ _ (vs.getD j.toNat (0, 0, 0)) _ hb (by omega) fun m p2 hp2 hm => ?_
 simp (contextual := true) (maxSteps := 1000000) (disch := omega) only [↓Sd, ↓So, ↓Sk, ↓den, ↓denA, Sa, Sb, Sc, Se, O1.d, O2.d, O3.d, cmI, arI, envOf, putN, ↓reduceIte, Nat.reduceLT, Nat.reduceSub, Nat.reduceAdd, Int.reduceAdd, Int.reduceEq, Int.reduceLT, Int.reduceLE, arr_pos, arr_neg, ]
 refine D_Joined _ _ _ _ (by omega) (by omega) fun r hr => ?_
 simp (contextual := true) (maxSteps := 1000000) (disch := omega) only [↓Sd, ↓So, ↓Sk, ↓den, ↓denA, Sa, Sb, Sc, Se, O1.d, O2.d, O3.d, cmI, arI, envOf, putN, ↓reduceIte, Nat.reduceLT, Nat.reduceSub, Nat.reduceAdd, Int.reduceAdd, Int.reduceEq, Int.reduceLT, Int.reduceLE, arr_pos, arr_neg, ↓wpJoin, ]
 exact h _ _ (by omega) (by omega)
theorem D_l1Terms (b : List Int) (p vars kind most : Int) (hb : Rdy b) (hp : 0 ≤ p ∧ p ≤ 800000000) (hv : 0 ≤ vars ∧ vars ≤ 5) (hm : 1 ≤ most ∧ most ≤ 12) {Q : List AV → Prop} (h : ∀ (l : List Tm) (p' : Int), p ≤ p' ∧ p' ≤ p + 400 → 1 ≤ l.length → l.length ≤ 16 → Q [⟨L T4, l⟩, ⟨RD, (b, p')⟩]) : mc.C f_spec_l1Terms [⟨RD, (b, p)⟩, ⟨I, vars⟩, ⟨I, kind⟩, ⟨I, most⟩] Q := by
 refine mc.c_of F_spec_l1Terms ?_
 simp (contextual := true) (maxSteps := 1000000) (disch := omega) only [↓Sd, ↓So, ↓Sk, ↓den, ↓denA, Sa, Sb, Sc, Se, O1.d, O2.d, O3.d, cmI, arI, envOf, putN, ↓reduceIte, Nat.reduceLT, Nat.reduceSub, Nat.reduceAdd, Int.reduceAdd, Int.reduceEq, Int.reduceLT, Int.reduceLE, arr_pos, arr_neg, tr_spec_l1Terms]
 refine D_pick1 _ _ _ hb (by omega) (by omega) fun n n0 n1 => ?_; simp (contextual := true) (maxSteps := 1000000) (disch := omega) only [↓Sd, ↓So, ↓Sk, ↓den, ↓denA, Sa, Sb, Sc, Se, O1.d, O2.d, O3.d, cmI, arI, envOf, putN, ↓reduceIte, Nat.reduceLT, Nat.reduceSub, Nat.reduceAdd, Int.reduceAdd, Int.reduceEq, Int.reduceLT, Int.reduceLE, arr_pos, arr_neg, ]
 obtain ⟨N, hN⟩ : ∃ N : Nat, n = N := ⟨n.toNat, by omega⟩
 subst hN
 refine mc.lp_inv (fun k us => ∃ (p1 : Int) (l : List Tm) (ks : List Int), us = [⟨I, vars⟩, ⟨I, kind⟩, ⟨I, (k : Int)⟩, ⟨L U, b⟩, ⟨I, p1⟩, ⟨L T4, l⟩, ⟨L I, ks⟩] ∧ l.length = ks.length ∧ l.length + k ≤ 2 + N ∧ p ≤ p1 ∧ p1 + 20 * k ≤ p + 1 + 20 * (2 + N)) (2 + N) _ ⟨p + 1, [], [], by simp, rfl, by simp, by omega, by omega⟩ ?_
 rintro k us ⟨p1, l, ks, rfl, i1, i2, i3, i4⟩
 cases k with
 | zero =>
  simp (contextual := true) (maxSteps := 1000000) (disch := omega) only [↓Sd, ↓So, ↓Sk, ↓den, ↓denA, Sa, Sb, Sc, Se, O1.d, O2.d, O3.d, cmI, arI, envOf, putN, ↓reduceIte, Nat.reduceLT, Nat.reduceSub, Nat.reduceAdd, Int.reduceAdd, Int.reduceEq, Int.reduceLT, Int.reduceLE, arr_pos, arr_neg, ]
  refine mc.wp_join (fun us => ∃ (l : List Tm) (ks : List Int), us = [⟨I, kind⟩, ⟨L U, b⟩, ⟨I, p1⟩, ⟨L T4, l⟩, ⟨L I, ks⟩] ∧ l.length = ks.length ∧ 1 ≤ l.length ∧ l.length ≤ 14) ?_ ?_
  ·simp (contextual := true) (maxSteps := 1000000) (disch := omega) only [↓Sd, ↓So, ↓Sk, ↓den, ↓denA, Sa, Sb, Sc, Se, O1.d, O2.d, O3.d, cmI, arI, envOf, putN, ↓reduceIte, Nat.reduceLT, Nat.reduceSub, Nat.reduceAdd, Int.reduceAdd, Int.reduceEq, Int.reduceLT, Int.reduceLE, arr_pos, arr_neg, ]
   refine ⟨fun g => ⟨_, _, ⟨rfl, rfl⟩, by simp [i1], by simp, ?_⟩, fun g => ⟨l, ks, ⟨rfl, rfl⟩, i1, by omega, by omega⟩⟩
   simp only [List.length_append, List.length_singleton]; omega
  ·rintro us ⟨l, ks, rfl, a1, a2, a3⟩
   refine mc.wp_join (fun us => ∃ (p2 : Int) (l : List Tm), us = [⟨L U, b⟩, ⟨I, p2⟩, ⟨L T4, l⟩] ∧ p ≤ p2 ∧ p2 ≤ p + 390 ∧ 1 ≤ l.length ∧ l.length ≤ 16) ?_ ?_
   ·have ln1 : ∀ x : Tm, 1 ≤ (l ++ [x]).length ∧ (l ++ [x]).length ≤ 16 := fun x => by simp only [List.length_append, List.length_singleton]; omega
    simp (contextual := true) (maxSteps := 1000000) (disch := omega) only [↓Sd, ↓So, ↓Sk, ↓den, ↓denA, Sa, Sb, Sc, Se, O1.d, O2.d, O3.d, cmI, arI, envOf, putN, ↓reduceIte, Nat.reduceLT, Nat.reduceSub, Nat.reduceAdd, Int.reduceAdd, Int.reduceEq, Int.reduceLT, Int.reduceLE, arr_pos, arr_neg, ]
    refine ⟨fun _ => ⟨fun _ => ?_, fun _ => ⟨_, _, ⟨rfl, rfl⟩, by omega, by omega, by omega, by omega⟩⟩, fun _ => ⟨fun _ => ⟨fun _ => ?_, fun _ => ⟨_, _, ⟨rfl, rfl⟩, by omega, by omega, by omega, by omega⟩⟩, fun _ => ⟨_, _, ⟨rfl, rfl⟩, by omega, by omega, by omega, by omega⟩⟩⟩
    ·refine D_num _ _ _ hb (by omega) (by simp) (by simp) fun o o0 => ?_; simp (contextual := true) (maxSteps := 1000000) (disch := omega) only [↓Sd, ↓So, ↓Sk, ↓den, ↓denA, Sa, Sb, Sc, Se, O1.d, O2.d, O3.d, cmI, arI, envOf, putN, ↓reduceIte, Nat.reduceLT, Nat.reduceSub, Nat.reduceAdd, Int.reduceAdd, Int.reduceEq, Int.reduceLT, Int.reduceLE, arr_pos, arr_neg, ]
     refine D_l1Pick _ _ _ _ hb (by omega) (by omega) (by omega) fun x hx => ?_
     simp (contextual := true) (maxSteps := 1000000) (disch := omega) only [↓Sd, ↓So, ↓Sk, ↓den, ↓denA, Sa, Sb, Sc, Se, O1.d, O2.d, O3.d, cmI, arI, envOf, putN, ↓reduceIte, Nat.reduceLT, Nat.reduceSub, Nat.reduceAdd, Int.reduceAdd, Int.reduceEq, Int.reduceLT, Int.reduceLE, arr_pos, arr_neg, ]
     exact ⟨_, _, ⟨rfl, rfl⟩, by omega, by omega, (ln1 _).1, (ln1 _).2⟩
    ·refine D_l1Pick _ _ _ _ hb (by omega) (by omega) (by omega) fun x hx => ?_
     simp (contextual := true) (maxSteps := 1000000) (disch := omega) only [↓Sd, ↓So, ↓Sk, ↓den, ↓denA, Sa, Sb, Sc, Se, O1.d, O2.d, O3.d, cmI, arI, envOf, putN, ↓reduceIte, Nat.reduceLT, Nat.reduceSub, Nat.reduceAdd, Int.reduceAdd, Int.reduceEq, Int.reduceLT, Int.reduceLE, arr_pos, arr_neg, ]
     refine D_num _ _ _ hb (by omega) (by simp) (by simp) fun o o0 => ?_; simp (contextual := true) (maxSteps := 1000000) (disch := omega) only [↓Sd, ↓So, ↓Sk, ↓den, ↓denA, Sa, Sb, Sc, Se, O1.d, O2.d, O3.d, cmI, arI, envOf, putN, ↓reduceIte, Nat.reduceLT, Nat.reduceSub, Nat.reduceAdd, Int.reduceAdd, Int.reduceEq, Int.reduceLT, Int.reduceLE, arr_pos, arr_neg, ]
     refine D_l1Pick _ _ _ _ hb (by omega) (by omega) (by omega) fun y hy => ?_
     simp (contextual := true) (maxSteps := 1000000) (disch := omega) only [↓Sd, ↓So, ↓Sk, ↓den, ↓denA, Sa, Sb, Sc, Se, O1.d, O2.d, O3.d, cmI, arI, envOf, putN, ↓reduceIte, Nat.reduceLT, Nat.reduceSub, Nat.reduceAdd, Int.reduceAdd, Int.reduceEq, Int.reduceLT, Int.reduceLE, arr_pos, arr_neg, ]
     exact ⟨_, _, ⟨rfl, rfl⟩, by omega, by omega, (ln1 _).1, (ln1 _).2⟩
   ·rintro us ⟨p2, l, rfl, c1, c2, c3, c4⟩
    simp (contextual := true) (maxSteps := 1000000) (disch := omega) only [↓Sd, ↓So, ↓Sk, ↓den, ↓denA, Sa, Sb, Sc, Se, O1.d, O2.d, O3.d, cmI, arI, envOf, putN, ↓reduceIte, Nat.reduceLT, Nat.reduceSub, Nat.reduceAdd, Int.reduceAdd, Int.reduceEq, Int.reduceLT, Int.reduceLE, arr_pos, arr_neg, ]
    exact h _ _ (by omega) (by omega) (by omega)
 | succ k =>
  simp (contextual := true) (maxSteps := 1000000) (disch := omega) only [↓Sd, ↓So, ↓Sk, ↓den, ↓denA, Sa, Sb, Sc, Se, O1.d, O2.d, O3.d, cmI, arI, envOf, putN, ↓reduceIte, Nat.reduceLT, Nat.reduceSub, Nat.reduceAdd, Int.reduceAdd, Int.reduceEq, Int.reduceLT, Int.reduceLE, arr_pos, arr_neg, ]
  refine mc.wp_join (fun us => ∃ (p2 : Int) (l : List Tm) (ks : List Int), us = [⟨I, vars⟩, ⟨I, kind⟩, ⟨I, (k : Int) + 1⟩, ⟨L U, b⟩, ⟨I, p2⟩, ⟨L T4, l⟩, ⟨L I, ks⟩] ∧ l.length = ks.length ∧ l.length + k ≤ 2 + N ∧ p ≤ p2 ∧ p2 + 20 * k ≤ p + 1 + 20 * (2 + N)) ?_ ?_
  ·simp (contextual := true) (maxSteps := 1000000) (disch := omega) only [↓Sd, ↓So, ↓Sk, ↓den, ↓denA, Sa, Sb, Sc, Se, O1.d, O2.d, O3.d, cmI, arI, envOf, putN, ↓reduceIte, Nat.reduceLT, Nat.reduceSub, Nat.reduceAdd, Int.reduceAdd, Int.reduceEq, Int.reduceLT, Int.reduceLE, arr_pos, arr_neg, ]
   refine D_num _ _ _ hb (by omega) (by simp) (by simp) fun o o0 => ?_; simp (contextual := true) (maxSteps := 1000000) (disch := omega) only [↓Sd, ↓So, ↓Sk, ↓den, ↓denA, Sa, Sb, Sc, Se, O1.d, O2.d, O3.d, cmI, arI, envOf, putN, ↓reduceIte, Nat.reduceLT, Nat.reduceSub, Nat.reduceAdd, Int.reduceAdd, Int.reduceEq, Int.reduceLT, Int.reduceLE, arr_pos, arr_neg, ]
   refine mc.wp_join (fun us => ∃ (p2 : Int) (t : Tm), us = [⟨I, vars⟩, ⟨I, kind⟩, ⟨I, (k : Int) + 1⟩, ⟨L U, b⟩, ⟨I, p2⟩, ⟨L T4, l⟩, ⟨L I, ks⟩, ⟨I, t.1⟩, ⟨I, t.2.1⟩, ⟨I, t.2.2.1⟩, ⟨I, t.2.2.2⟩] ∧ p ≤ p2 ∧ p2 ≤ p1 + 10) ?_ ?_
   ·simp (contextual := true) (maxSteps := 1000000) (disch := omega) only [↓Sd, ↓So, ↓Sk, ↓den, ↓denA, Sa, Sb, Sc, Se, O1.d, O2.d, O3.d, cmI, arI, envOf, putN, ↓reduceIte, Nat.reduceLT, Nat.reduceSub, Nat.reduceAdd, Int.reduceAdd, Int.reduceEq, Int.reduceLT, Int.reduceLE, arr_pos, arr_neg, ]
    refine ⟨fun g => ?_, fun g => ⟨fun g2 => ?_, fun g2 => ?_⟩⟩
    ·refine D_l1Number _ _ hb (by omega) fun x p2 hp2 => ?_
     simp (contextual := true) (maxSteps := 1000000) (disch := omega) only [↓Sd, ↓So, ↓Sk, ↓den, ↓denA, Sa, Sb, Sc, Se, O1.d, O2.d, O3.d, cmI, arI, envOf, putN, ↓reduceIte, Nat.reduceLT, Nat.reduceSub, Nat.reduceAdd, Int.reduceAdd, Int.reduceEq, Int.reduceLT, Int.reduceLE, arr_pos, arr_neg, ]
     refine ⟨fun _ => ⟨fun _ => ?_, fun _ => ⟨_, ((0 : Int), x, (0 : Int), (0 : Int)), ⟨rfl, rfl, rfl, rfl, rfl⟩, by omega, by omega⟩⟩, fun _ => ⟨_, ((0 : Int), x, (0 : Int), (0 : Int)), ⟨rfl, rfl, rfl, rfl, rfl⟩, by omega, by omega⟩⟩
     refine D_pick1 _ _ _ hb (by omega) (by omega) fun y y0 y1 => ?_; simp (contextual := true) (maxSteps := 1000000) (disch := omega) only [↓Sd, ↓So, ↓Sk, ↓den, ↓denA, Sa, Sb, Sc, Se, O1.d, O2.d, O3.d, cmI, arI, envOf, putN, ↓reduceIte, Nat.reduceLT, Nat.reduceSub, Nat.reduceAdd, Int.reduceAdd, Int.reduceEq, Int.reduceLT, Int.reduceLE, arr_pos, arr_neg, ]
     exact ⟨_, ((1 : Int), y, (0 : Int), (0 : Int)), ⟨rfl, rfl, rfl, rfl, rfl⟩, by omega, by omega⟩
    ·refine D_l1Number _ _ hb (by omega) fun x p2 hp2 => ?_
     simp (contextual := true) (maxSteps := 1000000) (disch := omega) only [↓Sd, ↓So, ↓Sk, ↓den, ↓denA, Sa, Sb, Sc, Se, O1.d, O2.d, O3.d, cmI, arI, envOf, putN, ↓reduceIte, Nat.reduceLT, Nat.reduceSub, Nat.reduceAdd, Int.reduceAdd, Int.reduceEq, Int.reduceLT, Int.reduceLE, arr_pos, arr_neg, ]
     refine ⟨fun _ => ⟨fun _ => ?_, fun _ => ⟨_, ((0 : Int), x, (0 : Int), (0 : Int)), ⟨rfl, rfl, rfl, rfl, rfl⟩, by omega, by omega⟩⟩, fun _ => ⟨_, ((0 : Int), x, (0 : Int), (0 : Int)), ⟨rfl, rfl, rfl, rfl, rfl⟩, by omega, by omega⟩⟩
     refine D_pick1 _ _ _ hb (by omega) (by omega) fun y y0 y1 => ?_; simp (contextual := true) (maxSteps := 1000000) (disch := omega) only [↓Sd, ↓So, ↓Sk, ↓den, ↓denA, Sa, Sb, Sc, Se, O1.d, O2.d, O3.d, cmI, arI, envOf, putN, ↓reduceIte, Nat.reduceLT, Nat.reduceSub, Nat.reduceAdd, Int.reduceAdd, Int.reduceEq, Int.reduceLT, Int.reduceLE, arr_pos, arr_neg, ]
     exact ⟨_, ((1 : Int), y, (0 : Int), (0 : Int)), ⟨rfl, rfl, rfl, rfl, rfl⟩, by omega, by omega⟩
    ·refine mc.wp_join (fun us => ∃ w : Int, us = [⟨I, vars⟩, ⟨I, kind⟩, ⟨I, (k : Int) + 1⟩, ⟨I, o⟩, ⟨I, w⟩, ⟨L U, b⟩, ⟨I, p1 + 1⟩, ⟨L T4, l⟩, ⟨L I, ks⟩, ⟨I, o⟩, ⟨I, (0 : Int)⟩, ⟨I, (0 : Int)⟩, ⟨I, (0 : Int)⟩]) ?_ ?_
     ·simp (contextual := true) (maxSteps := 1000000) (disch := omega) only [↓Sd, ↓So, ↓Sk, ↓den, ↓denA, Sa, Sb, Sc, Se, O1.d, O2.d, O3.d, cmI, arI, envOf, putN, ↓reduceIte, Nat.reduceLT, Nat.reduceSub, Nat.reduceAdd, Int.reduceAdd, Int.reduceEq, Int.reduceLT, Int.reduceLE, arr_pos, arr_neg, ]
      exact ⟨fun _ => ⟨2, rfl⟩, fun _ => ⟨1, rfl⟩⟩
     ·rintro us ⟨w, rfl⟩
      simp (contextual := true) (maxSteps := 1000000) (disch := omega) only [↓Sd, ↓So, ↓Sk, ↓den, ↓denA, Sa, Sb, Sc, Se, O1.d, O2.d, O3.d, cmI, arI, envOf, putN, ↓reduceIte, Nat.reduceLT, Nat.reduceSub, Nat.reduceAdd, Int.reduceAdd, Int.reduceEq, Int.reduceLT, Int.reduceLE, arr_pos, arr_neg, ]
      refine D_l1Pick _ _ _ _ hb (by omega) (by omega) (by omega) fun x hx => ?_
      simp (contextual := true) (maxSteps := 1000000) (disch := omega) only [↓Sd, ↓So, ↓Sk, ↓den, ↓denA, Sa, Sb, Sc, Se, O1.d, O2.d, O3.d, cmI, arI, envOf, putN, ↓reduceIte, Nat.reduceLT, Nat.reduceSub, Nat.reduceAdd, Int.reduceAdd, Int.reduceEq, Int.reduceLT, Int.reduceLE, arr_pos, arr_neg, ]
      refine D_l1Pick _ _ _ _ hb (by omega) (by omega) (by omega) fun y hy => ?_
      simp (contextual := true) (maxSteps := 1000000) (disch := omega) only [↓Sd, ↓So, ↓Sk, ↓den, ↓denA, Sa, Sb, Sc, Se, O1.d, O2.d, O3.d, cmI, arI, envOf, putN, ↓reduceIte, Nat.reduceLT, Nat.reduceSub, Nat.reduceAdd, Int.reduceAdd, Int.reduceEq, Int.reduceLT, Int.reduceLE, arr_pos, arr_neg, C_spec_l1One]
      exact ⟨fun _ => ⟨_, ((7 : Int), (0 : Int), x, x), ⟨rfl, rfl, rfl, rfl, rfl⟩, by omega, by omega⟩, fun _ => ⟨_, (o, (0 : Int), x, y), ⟨rfl, rfl, rfl, rfl, rfl⟩, by omega, by omega⟩⟩
   ·rintro us ⟨p2, t, rfl, c1, c2⟩
    simp (contextual := true) (maxSteps := 1000000) (disch := omega) only [↓Sd, ↓So, ↓Sk, ↓den, ↓denA, Sa, Sb, Sc, Se, O1.d, O2.d, O3.d, cmI, arI, envOf, putN, ↓reduceIte, Nat.reduceLT, Nat.reduceSub, Nat.reduceAdd, Int.reduceAdd, Int.reduceEq, Int.reduceLT, Int.reduceLE, arr_pos, arr_neg, C_spec_l1Kind t ks vars hv (by omega)]
    refine ⟨fun _ => ⟨_, _, _, ⟨rfl, rfl, rfl⟩, ?_, ?_, by omega, by omega⟩, fun _ => ⟨_, _, _, ⟨rfl, rfl, rfl⟩, i1, by omega, by omega, by omega⟩⟩
    ·simp only [List.length_append, List.length_singleton]; omega
    ·simp only [List.length_append, List.length_singleton]; omega
  ·rintro us ⟨p2, l, ks, rfl, a1, a2, a3, a4⟩
   simp (contextual := true) (maxSteps := 1000000) (disch := omega) only [↓Sd, ↓So, ↓Sk, ↓den, ↓denA, Sa, Sb, Sc, Se, O1.d, O2.d, O3.d, cmI, arI, envOf, putN, ↓reduceIte, Nat.reduceLT, Nat.reduceSub, Nat.reduceAdd, Int.reduceAdd, Int.reduceEq, Int.reduceLT, Int.reduceLE, arr_pos, arr_neg, ]
   exact ⟨k, by omega, p2, l, ks, ⟨rfl, rfl, rfl, rfl⟩, a1, a2, a3, a4⟩
theorem D_l2Value (b : List Int) (p : Int) (vs : List Vr) (k : Int) (i : Nat) (hk : k = i) (hb : Rdy b) (hp : 0 ≤ p ∧ p ≤ 700000000) (hv : vs.length ≤ 5) (hi : i < vs.length) {Q : List AV → Prop} (h : ∀ (l : List Tm) (p' : Int), p ≤ p' ∧ p' ≤ p + 500 → l.length ≤ 16 → Q [⟨L T4, l⟩, ⟨RD, (b, p')⟩]) : mc.C f_spec_l2Value [⟨RD, (b, p)⟩, ⟨L V3, vs⟩, ⟨I, k⟩] Q := by
 subst hk
 refine mc.c_of F_spec_l2Value ?_
 simp (contextual := true) (maxSteps := 1000000) (disch := omega) only [↓Sd, ↓So, ↓Sk, ↓den, ↓denA, Sa, Sb, Sc, Se, O1.d, O2.d, O3.d, cmI, arI, envOf, putN, ↓reduceIte, Nat.reduceLT, Nat.reduceSub, Nat.reduceAdd, Int.reduceAdd, Int.reduceEq, Int.reduceLT, Int.reduceLE, arr_pos, arr_neg, tr_spec_l2Value]
 refine D_pick1 _ _ _ hb (by omega) (by omega) fun k k0 k1 => ?_; simp (contextual := true) (maxSteps := 1000000) (disch := omega) only [↓Sd, ↓So, ↓Sk, ↓den, ↓denA, Sa, Sb, Sc, Se, O1.d, O2.d, O3.d, cmI, arI, envOf, putN, ↓reduceIte, Nat.reduceLT, Nat.reduceSub, Nat.reduceAdd, Int.reduceAdd, Int.reduceEq, Int.reduceLT, Int.reduceLE, arr_pos, arr_neg, ]
 refine ⟨fun _ => ?_, fun _ => ⟨fun _ => ?_, fun _ => ⟨fun _ => ?_, fun _ => ?_⟩⟩⟩
 ·simp (contextual := true) (maxSteps := 1000000) (disch := omega) only [↓Sd, ↓So, ↓Sk, ↓den, ↓denA, Sa, Sb, Sc, Se, O1.d, O2.d, O3.d, cmI, arI, envOf, putN, ↓reduceIte, Nat.reduceLT, Nat.reduceSub, Nat.reduceAdd, Int.reduceAdd, Int.reduceEq, Int.reduceLT, Int.reduceLE, arr_pos, arr_neg, C_spec_l2VarOf, C_spec_l2Const]
  refine D_num _ _ _ hb (by omega) (by simp) (by simp) fun o o0 => ?_; simp (contextual := true) (maxSteps := 1000000) (disch := omega) only [↓Sd, ↓So, ↓Sk, ↓den, ↓denA, Sa, Sb, Sc, Se, O1.d, O2.d, O3.d, cmI, arI, envOf, putN, ↓reduceIte, Nat.reduceLT, Nat.reduceSub, Nat.reduceAdd, Int.reduceAdd, Int.reduceEq, Int.reduceLT, Int.reduceLE, arr_pos, arr_neg, ]
  exact h _ _ (by omega) (by simp)
 ·refine D_pick _ _ _ hb (by omega) fun n _ _ => ?_
  simp (contextual := true) (maxSteps := 1000000) (disch := omega) only [↓Sd, ↓So, ↓Sk, ↓den, ↓denA, Sa, Sb, Sc, Se, O1.d, O2.d, O3.d, cmI, arI, envOf, putN, ↓reduceIte, Nat.reduceLT, Nat.reduceSub, Nat.reduceAdd, Int.reduceAdd, Int.reduceEq, Int.reduceLT, Int.reduceLE, arr_pos, arr_neg, ↓wpJoin, C_spec_l2Const]
  exact h _ _ (by omega) (by simp)
 ·refine D_pick1 _ _ _ hb (by omega) (by omega) fun n n0 n1 => ?_; simp (contextual := true) (maxSteps := 1000000) (disch := omega) only [↓Sd, ↓So, ↓Sk, ↓den, ↓denA, Sa, Sb, Sc, Se, O1.d, O2.d, O3.d, cmI, arI, envOf, putN, ↓reduceIte, Nat.reduceLT, Nat.reduceSub, Nat.reduceAdd, Int.reduceAdd, Int.reduceEq, Int.reduceLT, Int.reduceLE, arr_pos, arr_neg, ]
  simp (contextual := true) (maxSteps := 1000000) (disch := omega) only [↓Sd, ↓So, ↓Sk, ↓den, ↓denA, Sa, Sb, Sc, Se, O1.d, O2.d, O3.d, cmI, arI, envOf, putN, ↓reduceIte, Nat.reduceLT, Nat.reduceSub, Nat.reduceAdd, Int.reduceAdd, Int.reduceEq, Int.reduceLT, Int.reduceLE, arr_pos, arr_neg, C_spec_l2VarOf]
  exact h _ _ (by omega) (by simp)
 ·refine D_l1Terms _ _ _ _ _ hb (by omega) (by omega) (by omega) fun l p2 h1 h2 h3 => ?_
  simp (contextual := true) (maxSteps := 1000000) (disch := omega) only [↓Sd, ↓So, ↓Sk, ↓den, ↓denA, Sa, Sb, Sc, Se, O1.d, O2.d, O3.d, cmI, arI, envOf, putN, ↓reduceIte, Nat.reduceLT, Nat.reduceSub, Nat.reduceAdd, Int.reduceAdd, Int.reduceEq, Int.reduceLT, Int.reduceLE, arr_pos, arr_neg, ]
  exact h _ _ (by omega) (by omega)
def SmRu (r : Ru) : Prop := r.1.length ≤ 100 ∧ r.2.1.length ≤ 100 ∧ r.2.2.length ≤ 100 ∧ ∀ x ∈ r.2.2, x.length ≤ 100
def SmR5 (r : Ru) : Prop := r.1.length ≤ 50 ∧ r.2.1.length ≤ 50 ∧ r.2.2.length ≤ 50 ∧ ∀ x ∈ r.2.2, x.length ≤ 50
theorem SmR5.sm {r : Ru} (h : SmR5 r) : SmRu r := ⟨by have := h.1; omega, by have := h.2.1; omega, by have := h.2.2.1; omega, fun x hx => by have := h.2.2.2 x hx; omega⟩
def SmSy (s : Sy) : Prop := s.1.length ≤ 3 ∧ s.2.length ≤ 9 ∧ ∀ r ∈ s.2, SmRu r
theorem SmSy.few {s : Sy} (h : SmSy s) : FewSy s := by
 refine ⟨by have := h.1; unfold Few; omega, by have := h.2.1; unfold Few; omega, fun r hr => ?_⟩
 have h1 := h.2.2 r hr
 exact ⟨by have := h1.1; unfold Few; omega, by have := h1.2.1; unfold Few; omega, by have := h1.2.2.1; unfold Few; omega, fun x hx => by have := h1.2.2.2 x hx; unfold Few; omega⟩
theorem D_l2Rules (b : List Int) (p : Int) (vs : List Vr) (many : Nat) (hb : Rdy b) (hp : 0 ≤ p ∧ p ≤ 600000000) (hv1 : 1 ≤ vs.length) (hv : vs.length ≤ 3) (hm : many ≤ 9) {Q : List AV → Prop} (h : ∀ (l : List Ru) (p' : Int), p ≤ p' ∧ p' ≤ p + 20000 → l.length ≤ many → (∀ r ∈ l, SmR5 r) → Q [⟨L TR, l⟩, ⟨RD, (b, p')⟩]) : mc.C f_spec_l2Rules [⟨RD, (b, p)⟩, ⟨L V3, vs⟩, ⟨I, (many : Int)⟩] Q := by
 refine mc.c_of F_spec_l2Rules ?_
 simp (contextual := true) (maxSteps := 1000000) (disch := omega) only [↓Sd, ↓So, ↓Sk, ↓den, ↓denA, Sa, Sb, Sc, Se, O1.d, O2.d, O3.d, cmI, arI, envOf, putN, ↓reduceIte, Nat.reduceLT, Nat.reduceSub, Nat.reduceAdd, Int.reduceAdd, Int.reduceEq, Int.reduceLT, Int.reduceLE, arr_pos, arr_neg, tr_spec_l2Rules]
 refine mc.lp_for (Int × List Ru) (fun i s => [⟨L V3, vs⟩, ⟨I, (many : Int)⟩, ⟨I, (i : Int)⟩, ⟨L U, b⟩, ⟨I, s.1⟩, ⟨L TR, s.2⟩]) (fun i s => p ≤ s.1 ∧ s.1 ≤ p + 2000 * i ∧ s.2.length = i ∧ ∀ r ∈ s.2, SmR5 r) many 0 (p, []) _ rfl (Nat.zero_le _) ⟨by simp, by simp, rfl, by simp⟩ ?_ ?_
 ·rintro i ⟨p1, l⟩ hi ⟨a1, a2, a3, a4⟩
  simp only at a1 a2 a3 a4
  simp (contextual := true) (maxSteps := 1000000) (disch := omega) only [↓Sd, ↓So, ↓Sk, ↓den, ↓denA, Sa, Sb, Sc, Se, O1.d, O2.d, O3.d, cmI, arI, envOf, putN, ↓reduceIte, Nat.reduceLT, Nat.reduceSub, Nat.reduceAdd, Int.reduceAdd, Int.reduceEq, Int.reduceLT, Int.reduceLE, arr_pos, arr_neg, ]
  refine D_l2When _ _ _ hb (by omega) hv1 (by omega) fun w p2 hp2 hw => ?_
  simp (contextual := true) (maxSteps := 1000000) (disch := omega) only [↓Sd, ↓So, ↓Sk, ↓den, ↓denA, Sa, Sb, Sc, Se, O1.d, O2.d, O3.d, cmI, arI, envOf, putN, ↓reduceIte, Nat.reduceLT, Nat.reduceSub, Nat.reduceAdd, Int.reduceAdd, Int.reduceEq, Int.reduceLT, Int.reduceLE, arr_pos, arr_neg, ]
  refine mc.lp_for (Int × List Int × List (List Tm)) (fun j s => [⟨L V3, vs⟩, ⟨I, (many : Int)⟩, ⟨I, (i : Int)⟩, ⟨I, (j : Int)⟩, ⟨L U, b⟩, ⟨I, s.1⟩, ⟨L TR, l⟩, ⟨L T4, w⟩, ⟨L I, s.2.1⟩, ⟨L (L T4), s.2.2⟩]) (fun j s => p2 ≤ s.1 ∧ s.1 ≤ p2 + 510 * j ∧ s.2.1.length ≤ j ∧ s.2.2.length ≤ j ∧ ∀ x ∈ s.2.2, x.length ≤ 16) vs.length 0 (p2, [], []) _ rfl (Nat.zero_le _) ⟨by simp, by simp, by simp, by simp, by simp⟩ ?_ ?_
  ·rintro j ⟨p3, ss, ts⟩ hj ⟨c1, c2, c3, c4, c5⟩
   simp only at c1 c2 c3 c4 c5
   have app : ∀ (x : List Tm), x.length ≤ 16 → ∀ y ∈ ts ++ [x], y.length ≤ 16 := fun x hx y hy => (List.mem_append.1 hy).elim (c5 y) fun hy => by rw [List.mem_singleton.1 hy]; exact hx
   have l1 : ∀ x, (ss ++ [x]).length = ss.length + 1 := fun x => by simp
   have l2 : ∀ x, (ts ++ [x]).length = ts.length + 1 := fun x => by simp
   simp (contextual := true) (maxSteps := 1000000) (disch := omega) only [↓Sd, ↓So, ↓Sk, ↓den, ↓denA, Sa, Sb, Sc, Se, O1.d, O2.d, O3.d, cmI, arI, envOf, putN, ↓reduceIte, Nat.reduceLT, Nat.reduceSub, Nat.reduceAdd, Int.reduceAdd, Int.reduceEq, Int.reduceLT, Int.reduceLE, arr_pos, arr_neg, ↓wpJoin, ]
   refine D_pick1 _ _ _ hb (by omega) (by omega) fun a a0 a1 => ?_; simp (contextual := true) (maxSteps := 1000000) (disch := omega) only [↓Sd, ↓So, ↓Sk, ↓den, ↓denA, Sa, Sb, Sc, Se, O1.d, O2.d, O3.d, cmI, arI, envOf, putN, ↓reduceIte, Nat.reduceLT, Nat.reduceSub, Nat.reduceAdd, Int.reduceAdd, Int.reduceEq, Int.reduceLT, Int.reduceLE, arr_pos, arr_neg, ]
   refine ⟨fun _ => ?_, fun _ => ⟨fun _ => ⟨fun _ => ?_, fun _ => ?_⟩, fun _ => ?_⟩⟩
   ·refine D_l2Value _ _ _ _ j (by omega) hb (by omega) (by omega) hj fun x p4 hp4 hx => ?_
    simp (contextual := true) (maxSteps := 1000000) (disch := omega) only [↓Sd, ↓So, ↓Sk, ↓den, ↓denA, Sa, Sb, Sc, Se, O1.d, O2.d, O3.d, cmI, arI, envOf, putN, ↓reduceIte, Nat.reduceLT, Nat.reduceSub, Nat.reduceAdd, Int.reduceAdd, Int.reduceEq, Int.reduceLT, Int.reduceLE, arr_pos, arr_neg, ↓wpJoin, ]
    exact ⟨(_, _, _), ⟨rfl, rfl, rfl⟩, by dsimp only; omega, by dsimp only; omega, by dsimp only; rw [l1]; omega, by dsimp only; rw [l2]; omega, app x hx⟩
   ·refine D_pick1 _ _ _ hb (by omega) (by omega) fun c c0 c1 => ?_; simp (contextual := true) (maxSteps := 1000000) (disch := omega) only [↓Sd, ↓So, ↓Sk, ↓den, ↓denA, Sa, Sb, Sc, Se, O1.d, O2.d, O3.d, cmI, arI, envOf, putN, ↓reduceIte, Nat.reduceLT, Nat.reduceSub, Nat.reduceAdd, Int.reduceAdd, Int.reduceEq, Int.reduceLT, Int.reduceLE, arr_pos, arr_neg, ]
    refine ⟨fun _ => ?_, fun _ => ?_⟩
    ·refine D_l2Value _ _ _ _ j (by omega) hb (by omega) (by omega) hj fun x p4 hp4 hx => ?_
     simp (contextual := true) (maxSteps := 1000000) (disch := omega) only [↓Sd, ↓So, ↓Sk, ↓den, ↓denA, Sa, Sb, Sc, Se, O1.d, O2.d, O3.d, cmI, arI, envOf, putN, ↓reduceIte, Nat.reduceLT, Nat.reduceSub, Nat.reduceAdd, Int.reduceAdd, Int.reduceEq, Int.reduceLT, Int.reduceLE, arr_pos, arr_neg, ↓wpJoin, ]
     exact ⟨(_, _, _), ⟨rfl, rfl, rfl⟩, by dsimp only; omega, by dsimp only; omega, by dsimp only; rw [l1]; omega, by dsimp only; rw [l2]; omega, app x hx⟩
    ·exact ⟨(_, _, _), ⟨rfl, rfl, rfl⟩, by dsimp only; omega, by dsimp only; omega, by dsimp only; omega, by dsimp only; omega, c5⟩
   ·exact ⟨(_, _, _), ⟨rfl, rfl, rfl⟩, by dsimp only; omega, by dsimp only; omega, by dsimp only; omega, by dsimp only; omega, c5⟩
   ·exact ⟨(_, _, _), ⟨rfl, rfl, rfl⟩, by dsimp only; omega, by dsimp only; omega, by dsimp only; omega, by dsimp only; omega, c5⟩
  ·rintro ⟨p3, ss, ts⟩ ⟨c1, c2, c3, c4, c5⟩
   simp only at c1 c2 c3 c4 c5
   simp (contextual := true) (maxSteps := 1000000) (disch := omega) only [↓Sd, ↓So, ↓Sk, ↓den, ↓denA, Sa, Sb, Sc, Se, O1.d, O2.d, O3.d, cmI, arI, envOf, putN, ↓reduceIte, Nat.reduceLT, Nat.reduceSub, Nat.reduceAdd, Int.reduceAdd, Int.reduceEq, Int.reduceLT, Int.reduceLE, arr_pos, arr_neg, ]
   refine ⟨(_, _), ⟨rfl, rfl⟩, by dsimp only; omega, by dsimp only; omega, by dsimp only; simp [a3], fun r hr => ?_⟩
   rcases List.mem_append.1 hr with hr | hr
   ·exact a4 r hr
   ·rw [List.mem_singleton.1 hr]
    exact ⟨by dsimp only; omega, by dsimp only; omega, by dsimp only; omega, fun x hx => by have := c5 x hx; omega⟩
 ·rintro ⟨p1, l⟩ ⟨a1, a2, a3, a4⟩
  simp only at a1 a2 a3 a4
  simp (contextual := true) (maxSteps := 1000000) (disch := omega) only [↓Sd, ↓So, ↓Sk, ↓den, ↓denA, Sa, Sb, Sc, Se, O1.d, O2.d, O3.d, cmI, arI, envOf, putN, ↓reduceIte, Nat.reduceLT, Nat.reduceSub, Nat.reduceAdd, Int.reduceAdd, Int.reduceEq, Int.reduceLT, Int.reduceLE, arr_pos, arr_neg, ]
  exact h _ _ (by omega) (by omega) a4
theorem D_l2System (b : List Int) (p most : Int) (hb : Rdy b) (hp : 0 ≤ p ∧ p ≤ 500000000) {Q : List AV → Prop} (h : ∀ (s : Sy) (p' : Int), p ≤ p' ∧ p' ≤ p + 30000 → SmSy s → 1 ≤ s.1.length → s.2.length ≤ 4 → (∀ r ∈ s.2, SmR5 r) → Q [⟨L V3, s.1⟩, ⟨L TR, s.2⟩, ⟨RD, (b, p')⟩]) : mc.C f_spec_l2System [⟨RD, (b, p)⟩, ⟨I, most⟩] Q := by
 refine mc.c_of F_spec_l2System ?_
 simp (contextual := true) (maxSteps := 1000000) (disch := omega) only [↓Sd, ↓So, ↓Sk, ↓den, ↓denA, Sa, Sb, Sc, Se, O1.d, O2.d, O3.d, cmI, arI, envOf, putN, ↓reduceIte, Nat.reduceLT, Nat.reduceSub, Nat.reduceAdd, Int.reduceAdd, Int.reduceEq, Int.reduceLT, Int.reduceLE, arr_pos, arr_neg, tr_spec_l2System]
 refine D_pick1 _ _ _ hb (by omega) (by omega) fun n n0 n1 => ?_; simp (contextual := true) (maxSteps := 1000000) (disch := omega) only [↓Sd, ↓So, ↓Sk, ↓den, ↓denA, Sa, Sb, Sc, Se, O1.d, O2.d, O3.d, cmI, arI, envOf, putN, ↓reduceIte, Nat.reduceLT, Nat.reduceSub, Nat.reduceAdd, Int.reduceAdd, Int.reduceEq, Int.reduceLT, Int.reduceLE, arr_pos, arr_neg, ]
 obtain ⟨N, hN⟩ : ∃ N : Nat, n = N := ⟨n.toNat, by omega⟩
 subst hN
 refine mc.lp_inv (fun k us => ∃ (p1 m : Int) (l : List Vr), us = [⟨I, most⟩, ⟨I, m⟩, ⟨I, (k : Int)⟩, ⟨L U, b⟩, ⟨I, p1⟩, ⟨L V3, l⟩] ∧ l.length + k ≤ 1 + N ∧ p ≤ p1 ∧ p1 + 3 * k ≤ p + 1 + 3 * (1 + N)) (1 + N) _ ⟨p + 1, 1, [], by simp, by simp, by omega, by omega⟩ ?_
 rintro k us ⟨p1, m, l, rfl, i1, i2, i3⟩
 cases k with
 | zero =>
  simp (contextual := true) (maxSteps := 1000000) (disch := omega) only [↓Sd, ↓So, ↓Sk, ↓den, ↓denA, Sa, Sb, Sc, Se, O1.d, O2.d, O3.d, cmI, arI, envOf, putN, ↓reduceIte, Nat.reduceLT, Nat.reduceSub, Nat.reduceAdd, Int.reduceAdd, Int.reduceEq, Int.reduceLT, Int.reduceLE, arr_pos, arr_neg, ]
  refine mc.wp_join (fun us => ∃ (l : List Vr), us = [⟨L U, b⟩, ⟨I, p1⟩, ⟨L V3, l⟩] ∧ 1 ≤ l.length ∧ l.length ≤ 3) ?_ ?_
  ·simp (contextual := true) (maxSteps := 1000000) (disch := omega) only [↓Sd, ↓So, ↓Sk, ↓den, ↓denA, Sa, Sb, Sc, Se, O1.d, O2.d, O3.d, cmI, arI, envOf, putN, ↓reduceIte, Nat.reduceLT, Nat.reduceSub, Nat.reduceAdd, Int.reduceAdd, Int.reduceEq, Int.reduceLT, Int.reduceLE, arr_pos, arr_neg, ]
   exact ⟨fun _ => by omega, fun _ => by omega⟩
  ·rintro us ⟨l, rfl, a1, a2⟩
   simp (contextual := true) (maxSteps := 1000000) (disch := omega) only [↓Sd, ↓So, ↓Sk, ↓den, ↓denA, Sa, Sb, Sc, Se, O1.d, O2.d, O3.d, cmI, arI, envOf, putN, ↓reduceIte, Nat.reduceLT, Nat.reduceSub, Nat.reduceAdd, Int.reduceAdd, Int.reduceEq, Int.reduceLT, Int.reduceLE, arr_pos, arr_neg, ]
   refine D_num _ _ _ hb (by omega) (by simp) (by simp) fun x x0 => ?_; simp (contextual := true) (maxSteps := 1000000) (disch := omega) only [↓Sd, ↓So, ↓Sk, ↓den, ↓denA, Sa, Sb, Sc, Se, O1.d, O2.d, O3.d, cmI, arI, envOf, putN, ↓reduceIte, Nat.reduceLT, Nat.reduceSub, Nat.reduceAdd, Int.reduceAdd, Int.reduceEq, Int.reduceLT, Int.reduceLE, arr_pos, arr_neg, ]
   have hx : 0 ≤ x ∧ x ≤ 4 := by simp only [List.mem_append, List.mem_singleton] at x0; omega
   obtain ⟨y, hy⟩ : ∃ y : Nat, x = y := ⟨x.toNat, by omega⟩
   subst hy
   refine D_l2Rules _ _ _ _ hb (by omega) a1 a2 (by omega) fun rs p2 hp2 h1 h2 => ?_
   simp (contextual := true) (maxSteps := 1000000) (disch := omega) only [↓Sd, ↓So, ↓Sk, ↓den, ↓denA, Sa, Sb, Sc, Se, O1.d, O2.d, O3.d, cmI, arI, envOf, putN, ↓reduceIte, Nat.reduceLT, Nat.reduceSub, Nat.reduceAdd, Int.reduceAdd, Int.reduceEq, Int.reduceLT, Int.reduceLE, arr_pos, arr_neg, ↓wpJoin, ]
   exact h (l, rs) _ (by omega) ⟨a2, by dsimp only; omega, fun r hr => (h2 r hr).sm⟩ a1 (by dsimp only; omega) h2
 | succ k =>
  simp (contextual := true) (maxSteps := 1000000) (disch := omega) only [↓Sd, ↓So, ↓Sk, ↓den, ↓denA, Sa, Sb, Sc, Se, O1.d, O2.d, O3.d, cmI, arI, envOf, putN, ↓reduceIte, Nat.reduceLT, Nat.reduceSub, Nat.reduceAdd, Int.reduceAdd, Int.reduceEq, Int.reduceLT, Int.reduceLE, arr_pos, arr_neg, ]
  refine mc.wp_join (fun us => ∃ (p2 m : Int) (l : List Vr), us = [⟨I, most⟩, ⟨I, m⟩, ⟨I, (k : Int) + 1⟩, ⟨L U, b⟩, ⟨I, p2⟩, ⟨L V3, l⟩] ∧ l.length + k ≤ 1 + N ∧ p ≤ p2 ∧ p2 + 3 * k ≤ p + 1 + 3 * (1 + N)) ?_ ?_
  ·simp (contextual := true) (maxSteps := 1000000) (disch := omega) only [↓Sd, ↓So, ↓Sk, ↓den, ↓denA, Sa, Sb, Sc, Se, O1.d, O2.d, O3.d, cmI, arI, envOf, putN, ↓reduceIte, Nat.reduceLT, Nat.reduceSub, Nat.reduceAdd, Int.reduceAdd, Int.reduceEq, Int.reduceLT, Int.reduceLE, arr_pos, arr_neg, ]
   refine D_num _ _ _ hb (by omega) (by simp) (by simp) fun x x0 => ?_; simp (contextual := true) (maxSteps := 1000000) (disch := omega) only [↓Sd, ↓So, ↓Sk, ↓den, ↓denA, Sa, Sb, Sc, Se, O1.d, O2.d, O3.d, cmI, arI, envOf, putN, ↓reduceIte, Nat.reduceLT, Nat.reduceSub, Nat.reduceAdd, Int.reduceAdd, Int.reduceEq, Int.reduceLT, Int.reduceLE, arr_pos, arr_neg, ]
   have hx : 2 ≤ x ∧ x ≤ 5 := by simp only [List.mem_append, List.mem_singleton] at x0; omega
   refine ⟨fun _ => ?_, fun _ => ⟨_, _, _, ⟨rfl, rfl, rfl⟩, by omega, by omega, by omega⟩⟩
   refine D_num _ _ _ hb (by omega) (by simp) (by simp) fun lo lo0 => ?_; simp (contextual := true) (maxSteps := 1000000) (disch := omega) only [↓Sd, ↓So, ↓Sk, ↓den, ↓denA, Sa, Sb, Sc, Se, O1.d, O2.d, O3.d, cmI, arI, envOf, putN, ↓reduceIte, Nat.reduceLT, Nat.reduceSub, Nat.reduceAdd, Int.reduceAdd, Int.reduceEq, Int.reduceLT, Int.reduceLE, arr_pos, arr_neg, ]
   refine D_pick1 _ _ _ hb (by omega) (by omega) fun d d0 d1 => ?_; simp (contextual := true) (maxSteps := 1000000) (disch := omega) only [↓Sd, ↓So, ↓Sk, ↓den, ↓denA, Sa, Sb, Sc, Se, O1.d, O2.d, O3.d, cmI, arI, envOf, putN, ↓reduceIte, Nat.reduceLT, Nat.reduceSub, Nat.reduceAdd, Int.reduceAdd, Int.reduceEq, Int.reduceLT, Int.reduceLE, arr_pos, arr_neg, ]
   simp (contextual := true) (maxSteps := 1000000) (disch := omega) only [↓Sd, ↓So, ↓Sk, ↓den, ↓denA, Sa, Sb, Sc, Se, O1.d, O2.d, O3.d, cmI, arI, envOf, putN, ↓reduceIte, Nat.reduceLT, Nat.reduceSub, Nat.reduceAdd, Int.reduceAdd, Int.reduceEq, Int.reduceLT, Int.reduceLE, arr_pos, arr_neg, ↓wpJoin, ]
   exact ⟨_, _, _, ⟨rfl, rfl, rfl⟩, by simp only [List.length_append, List.length_singleton]; omega, by omega, by omega⟩
  ·rintro us ⟨p2, m, l, rfl, a1, a2, a3⟩
   simp (contextual := true) (maxSteps := 1000000) (disch := omega) only [↓Sd, ↓So, ↓Sk, ↓den, ↓denA, Sa, Sb, Sc, Se, O1.d, O2.d, O3.d, cmI, arI, envOf, putN, ↓reduceIte, Nat.reduceLT, Nat.reduceSub, Nat.reduceAdd, Int.reduceAdd, Int.reduceEq, Int.reduceLT, Int.reduceLE, arr_pos, arr_neg, ]
   exact ⟨k, by omega, p2, m, l, ⟨rfl, rfl, rfl, rfl⟩, a1, a2, a3⟩
theorem D_l2Any (b : List Int) (p most : Int) (hb : Rdy b) (hp : 0 ≤ p ∧ p ≤ 400000000) {Q : List AV → Prop} (h : ∀ (s : Sy) (p' : Int), p ≤ p' ∧ p' ≤ p + 31000 → SmSy s → Q [⟨L V3, s.1⟩, ⟨L TR, s.2⟩, ⟨RD, (b, p')⟩]) : mc.C f_spec_l2Any [⟨RD, (b, p)⟩, ⟨I, most⟩] Q := by
 refine mc.c_of F_spec_l2Any ?_
 simp (contextual := true) (maxSteps := 1000000) (disch := omega) only [↓Sd, ↓So, ↓Sk, ↓den, ↓denA, Sa, Sb, Sc, Se, O1.d, O2.d, O3.d, cmI, arI, envOf, putN, ↓reduceIte, Nat.reduceLT, Nat.reduceSub, Nat.reduceAdd, Int.reduceAdd, Int.reduceEq, Int.reduceLT, Int.reduceLE, arr_pos, arr_neg, tr_spec_l2Any]
 refine D_l2System _ _ _ hb (by omega) fun s p1 hp1 hs h1 h2 h5 => ?_
 simp (contextual := true) (maxSteps := 1000000) (disch := omega) only [↓Sd, ↓So, ↓Sk, ↓den, ↓denA, Sa, Sb, Sc, Se, O1.d, O2.d, O3.d, cmI, arI, envOf, putN, ↓reduceIte, Nat.reduceLT, Nat.reduceSub, Nat.reduceAdd, Int.reduceAdd, Int.reduceEq, Int.reduceLT, Int.reduceLE, arr_pos, arr_neg, ↓wpJoin, C_spec_l2Const]
 refine D_pick1 _ _ _ hb (by omega) (by omega) fun a a0 a1 => ?_; simp (contextual := true) (maxSteps := 1000000) (disch := omega) only [↓Sd, ↓So, ↓Sk, ↓den, ↓denA, Sa, Sb, Sc, Se, O1.d, O2.d, O3.d, cmI, arI, envOf, putN, ↓reduceIte, Nat.reduceLT, Nat.reduceSub, Nat.reduceAdd, Int.reduceAdd, Int.reduceEq, Int.reduceLT, Int.reduceLE, arr_pos, arr_neg, ]
 refine ⟨fun _ => ?_, fun _ => h _ _ (by omega) hs⟩
 have hV : ∀ (l : List Vr) (p' : Int), l.length ≤ 3 → p ≤ p' ∧ p' ≤ p + 31000 → Q [⟨L V3, l⟩, ⟨L TR, s.2⟩, ⟨RD, (b, p')⟩] := fun l p' hl hp' => h (l, s.2) p' hp' ⟨hl, hs.2.1, hs.2.2⟩
 have hR : ∀ (r : Ru) (p' : Int), SmRu r → p ≤ p' ∧ p' ≤ p + 31000 → Q [⟨L V3, s.1⟩, ⟨L TR, s.2.set 0 r⟩, ⟨RD, (b, p')⟩] := fun r p' hr hp' => h (s.1, s.2.set 0 r) p' hp' ⟨hs.1, by rw [List.length_set]; exact hs.2.1, fun x hx => (List.mem_or_eq_of_mem_set hx).elim (hs.2.2 x) fun e => by rw [e]; exact hr⟩
 have hS1 : (s.1.set 0 (s.1.getD 0 (0, 0, 0))).length ≤ 3 := by rw [List.length_set]; exact hs.1
 have hsl : ∀ x : Vr, (s.1.set 0 x).length ≤ 3 := fun x => by rw [List.length_set]; exact hs.1
 have hb0 : SmR5 (s.2.getD 0 ([], [], [])) := by
  by_cases g : 0 < s.2.length
  ·exact h5 _ (getD_mem g)
  ·rw [List.getD_eq_getElem?_getD, List.getElem?_eq_none (by omega)]; exact ⟨by simp, by simp, by simp, by simp⟩
 refine D_pick1 _ _ _ hb (by omega) (by omega) fun c c0 c1 => ?_; simp (contextual := true) (maxSteps := 1000000) (disch := omega) only [↓Sd, ↓So, ↓Sk, ↓den, ↓denA, Sa, Sb, Sc, Se, O1.d, O2.d, O3.d, cmI, arI, envOf, putN, ↓reduceIte, Nat.reduceLT, Nat.reduceSub, Nat.reduceAdd, Int.reduceAdd, Int.reduceEq, Int.reduceLT, Int.reduceLE, arr_pos, arr_neg, ]
 have q1 := hb0.2.1
 have q2 := hb0.2.2.1
 simp (contextual := true) (maxSteps := 1000000) (disch := omega) only [↓Sd, ↓So, ↓Sk, ↓den, ↓denA, Sa, Sb, Sc, Se, O1.d, O2.d, O3.d, cmI, arI, envOf, putN, ↓reduceIte, Nat.reduceLT, Nat.reduceSub, Nat.reduceAdd, Int.reduceAdd, Int.reduceEq, Int.reduceLT, Int.reduceLE, arr_pos, arr_neg, ↓wpJoin, C_spec_l2Const]
 repeat' first | apply And.intro | intro _
 all_goals first
  | exact hV _ _ (hsl _) (by omega)
  | exact hV _ _ (by simp) (by omega)
  | exact hV _ _ hs.1 (by omega)
  | exact hR _ _ ⟨by simp, hb0.sm.2.1, hb0.sm.2.2.1, hb0.sm.2.2.2⟩ (by omega)
  | exact hR _ _ ⟨hb0.sm.1, by simp only [List.length_append, List.length_singleton]; omega, hb0.sm.2.2.1, hb0.sm.2.2.2⟩ (by omega)
  | exact hR _ _ ⟨hb0.sm.1, hb0.sm.2.1, by simp only [List.length_append, List.length_singleton]; omega, fun x hx => (List.mem_append.1 hx).elim (hb0.sm.2.2.2 x) fun hx => by rw [List.mem_singleton.1 hx]; simp⟩ (by omega)
  | skip
 refine D_num _ _ _ hb (by omega) (by simp) (by simp) fun x x0 => ?_; simp (contextual := true) (maxSteps := 1000000) (disch := omega) only [↓Sd, ↓So, ↓Sk, ↓den, ↓denA, Sa, Sb, Sc, Se, O1.d, O2.d, O3.d, cmI, arI, envOf, putN, ↓reduceIte, Nat.reduceLT, Nat.reduceSub, Nat.reduceAdd, Int.reduceAdd, Int.reduceEq, Int.reduceLT, Int.reduceLE, arr_pos, arr_neg, ]
 simp (contextual := true) (maxSteps := 1000000) (disch := omega) only [↓Sd, ↓So, ↓Sk, ↓den, ↓denA, Sa, Sb, Sc, Se, O1.d, O2.d, O3.d, cmI, arI, envOf, putN, ↓reduceIte, Nat.reduceLT, Nat.reduceSub, Nat.reduceAdd, Int.reduceAdd, Int.reduceEq, Int.reduceLT, Int.reduceLE, arr_pos, arr_neg, ↓wpJoin, ]
 exact hV _ _ (hsl _) (by omega)
theorem C_impl_ReachOf (s : Sy) (hs : FewSy s) (Q : List AV → Prop) : mc.C f_impl_ReachOf [⟨L V3, s.1⟩, ⟨L TR, s.2⟩] Q = Q [⟨L I, if valid s then rset s else []⟩] := by
 refine Mc.Ends.c (mc.ends F_impl_ReachOf ?_)
 simp (contextual := true) (maxSteps := 1000000) (disch := omega) only [↓Sd, ↓So, ↓Sk, ↓den, ↓denA, Sa, Sb, Sc, Se, O1.d, O2.d, O3.d, cmI, arI, envOf, putN, ↓reduceIte, Nat.reduceLT, Nat.reduceSub, Nat.reduceAdd, Int.reduceAdd, Int.reduceEq, Int.reduceLT, Int.reduceLE, arr_pos, arr_neg, tr_impl_ReachOf, C_impl_SystemValid s hs]
 intro h
 have hz := szn_eq h
 simp (contextual := true) (maxSteps := 1000000) (disch := omega) only [↓Sd, ↓So, ↓Sk, ↓den, ↓denA, Sa, Sb, Sc, Se, O1.d, O2.d, O3.d, cmI, arI, envOf, putN, ↓reduceIte, Nat.reduceLT, Nat.reduceSub, Nat.reduceAdd, Int.reduceAdd, Int.reduceEq, Int.reduceLT, Int.reduceLE, arr_pos, arr_neg, C_impl_reachOf s h, C_impl_listOf_tab _ (szn s.1) (by omega : szn s.1 ≤ 1048576)]
 rfl
theorem D_l1Any (b : List Int) (p vars : Int) (hb : Rdy b) (hp : 0 ≤ p ∧ p ≤ 700000000) (hv : 0 ≤ vars ∧ vars ≤ 5) {Q : List AV → Prop} (h : ∀ (l : List Tm) (p' : Int), p ≤ p' ∧ p' ≤ p + 500 → 1 ≤ l.length → l.length ≤ 16 → Q [⟨L T4, l⟩, ⟨RD, (b, p')⟩]) : mc.C f_spec_l1Any [⟨RD, (b, p)⟩, ⟨I, vars⟩] Q := by
 refine mc.c_of F_spec_l1Any ?_
 simp (contextual := true) (maxSteps := 1000000) (disch := omega) only [↓Sd, ↓So, ↓Sk, ↓den, ↓denA, Sa, Sb, Sc, Se, O1.d, O2.d, O3.d, cmI, arI, envOf, putN, ↓reduceIte, Nat.reduceLT, Nat.reduceSub, Nat.reduceAdd, Int.reduceAdd, Int.reduceEq, Int.reduceLT, Int.reduceLE, arr_pos, arr_neg, tr_spec_l1Any]
 refine D_pick1 _ _ _ hb (by omega) (by omega) fun k k0 k1 => ?_; simp (contextual := true) (maxSteps := 1000000) (disch := omega) only [↓Sd, ↓So, ↓Sk, ↓den, ↓denA, Sa, Sb, Sc, Se, O1.d, O2.d, O3.d, cmI, arI, envOf, putN, ↓reduceIte, Nat.reduceLT, Nat.reduceSub, Nat.reduceAdd, Int.reduceAdd, Int.reduceEq, Int.reduceLT, Int.reduceLE, arr_pos, arr_neg, ]
 refine D_l1Terms _ _ _ _ _ hb (by omega) hv (by omega) fun l p2 h1 h2 h3 => ?_
 simp (contextual := true) (maxSteps := 1000000) (disch := omega) only [↓Sd, ↓So, ↓Sk, ↓den, ↓denA, Sa, Sb, Sc, Se, O1.d, O2.d, O3.d, cmI, arI, envOf, putN, ↓reduceIte, Nat.reduceLT, Nat.reduceSub, Nat.reduceAdd, Int.reduceAdd, Int.reduceEq, Int.reduceLT, Int.reduceLE, arr_pos, arr_neg, ↓wpJoin, ]
 refine D_pick1 _ _ _ hb (by omega) (by omega) fun a a0 a1 => ?_; simp (contextual := true) (maxSteps := 1000000) (disch := omega) only [↓Sd, ↓So, ↓Sk, ↓den, ↓denA, Sa, Sb, Sc, Se, O1.d, O2.d, O3.d, cmI, arI, envOf, putN, ↓reduceIte, Nat.reduceLT, Nat.reduceSub, Nat.reduceAdd, Int.reduceAdd, Int.reduceEq, Int.reduceLT, Int.reduceLE, arr_pos, arr_neg, ]
 refine ⟨fun _ => ?_, fun _ => h _ _ (by omega) h2 h3⟩
 refine D_pick1 _ _ _ hb (by omega) (by omega) fun i i0 i1 => ?_; simp (contextual := true) (maxSteps := 1000000) (disch := omega) only [↓Sd, ↓So, ↓Sk, ↓den, ↓denA, Sa, Sb, Sc, Se, O1.d, O2.d, O3.d, cmI, arI, envOf, putN, ↓reduceIte, Nat.reduceLT, Nat.reduceSub, Nat.reduceAdd, Int.reduceAdd, Int.reduceEq, Int.reduceLT, Int.reduceLE, arr_pos, arr_neg, ]
 refine D_pick1 _ _ _ hb (by omega) (by omega) fun f f0 f1 => ?_; simp (contextual := true) (maxSteps := 1000000) (disch := omega) only [↓Sd, ↓So, ↓Sk, ↓den, ↓denA, Sa, Sb, Sc, Se, O1.d, O2.d, O3.d, cmI, arI, envOf, putN, ↓reduceIte, Nat.reduceLT, Nat.reduceSub, Nat.reduceAdd, Int.reduceAdd, Int.reduceEq, Int.reduceLT, Int.reduceLE, arr_pos, arr_neg, ↓wpJoin, ]
 have hset : ∀ (x : Tm), 1 ≤ (l.set i.toNat x).length ∧ (l.set i.toNat x).length ≤ 16 := fun x => by rw [List.length_set]; exact ⟨h2, h3⟩
 refine ⟨fun _ => ?_, fun _ => ⟨fun _ => ?_, fun _ => ⟨fun _ => ?_, fun _ => ?_⟩⟩⟩
 ·refine D_num _ _ _ hb (by omega) (by simp) (by simp) fun x x0 => ?_; simp (contextual := true) (maxSteps := 1000000) (disch := omega) only [↓Sd, ↓So, ↓Sk, ↓den, ↓denA, Sa, Sb, Sc, Se, O1.d, O2.d, O3.d, cmI, arI, envOf, putN, ↓reduceIte, Nat.reduceLT, Nat.reduceSub, Nat.reduceAdd, Int.reduceAdd, Int.reduceEq, Int.reduceLT, Int.reduceLE, arr_pos, arr_neg, ]
  exact h _ _ (by omega) (hset _).1 (hset _).2
 ·refine D_num _ _ _ hb (by omega) (by simp) (by simp) fun x x0 => ?_; simp (contextual := true) (maxSteps := 1000000) (disch := omega) only [↓Sd, ↓So, ↓Sk, ↓den, ↓denA, Sa, Sb, Sc, Se, O1.d, O2.d, O3.d, cmI, arI, envOf, putN, ↓reduceIte, Nat.reduceLT, Nat.reduceSub, Nat.reduceAdd, Int.reduceAdd, Int.reduceEq, Int.reduceLT, Int.reduceLE, arr_pos, arr_neg, ]
  exact h _ _ (by omega) (hset _).1 (hset _).2
 ·refine D_num _ _ _ hb (by omega) (by simp) (by simp) fun x x0 => ?_; simp (contextual := true) (maxSteps := 1000000) (disch := omega) only [↓Sd, ↓So, ↓Sk, ↓den, ↓denA, Sa, Sb, Sc, Se, O1.d, O2.d, O3.d, cmI, arI, envOf, putN, ↓reduceIte, Nat.reduceLT, Nat.reduceSub, Nat.reduceAdd, Int.reduceAdd, Int.reduceEq, Int.reduceLT, Int.reduceLE, arr_pos, arr_neg, ]
  exact h _ _ (by omega) (hset _).1 (hset _).2
 ·refine D_num _ _ _ hb (by omega) (by simp) (by simp) fun x x0 => ?_; simp (contextual := true) (maxSteps := 1000000) (disch := omega) only [↓Sd, ↓So, ↓Sk, ↓den, ↓denA, Sa, Sb, Sc, Se, O1.d, O2.d, O3.d, cmI, arI, envOf, putN, ↓reduceIte, Nat.reduceLT, Nat.reduceSub, Nat.reduceAdd, Int.reduceAdd, Int.reduceEq, Int.reduceLT, Int.reduceLE, arr_pos, arr_neg, ]
  exact h _ _ (by omega) (hset _).1 (hset _).2
theorem C_spec_l5First (s : Sy) (hs : FewSy s) (hv : valid s) (Q : List AV → Prop) : mc.C f_spec_l5First [⟨L V3, s.1⟩, ⟨L TR, s.2⟩] Q = Q [⟨L B, tab (fun k => dB ((k : Int) ∈ [num s.1 (fst0 s.1)])) (szn s.1)⟩] := by
 have hz := szn_eq hv
 have hfi := fst0_in hv.2.2.1
 have hn := num_bd hv.2.2.1 hfi
 refine Mc.Ends.c (mc.ends F_spec_l5First ?_)
 simp (contextual := true) (maxSteps := 1000000) (disch := omega) only [↓Sd, ↓So, ↓Sk, ↓den, ↓denA, Sa, Sb, Sc, Se, O1.d, O2.d, O3.d, cmI, arI, envOf, putN, ↓reduceIte, Nat.reduceLT, Nat.reduceSub, Nat.reduceAdd, Int.reduceAdd, Int.reduceEq, Int.reduceLT, Int.reduceLE, arr_pos, arr_neg, tr_spec_l5First, C_spec_FirstState s hs hv, C_spec_l4Number s _ hv.1.2 hv.2.2.1 hfi, C_spec_SizeOf s hs, if_pos hv]
 simp (contextual := true) (maxSteps := 1000000) (disch := omega) only [↓Sd, ↓So, ↓Sk, ↓den, ↓denA, Sa, Sb, Sc, Se, O1.d, O2.d, O3.d, cmI, arI, envOf, putN, ↓reduceIte, Nat.reduceLT, Nat.reduceSub, Nat.reduceAdd, Int.reduceAdd, Int.reduceEq, Int.reduceLT, Int.reduceLE, arr_pos, arr_neg, ↓wpJoin, C_spec_l4Marks_i [num s.1 (fst0 s.1)] (sz s.1) (szn s.1) hz.1.symm (by omega) (by simp) (by intro x hx; simp only [List.mem_singleton] at hx; omega)]
theorem C_spec_StepsTo (s : Sy) (hs : FewSy s) (Q : List AV → Prop) : mc.C f_spec_StepsTo [⟨L V3, s.1⟩, ⟨L TR, s.2⟩] Q = Q [⟨L I, if valid s then ecc s else []⟩] := by
 refine Mc.Ends.c (mc.ends F_spec_StepsTo ?_)
 simp (contextual := true) (maxSteps := 1000000) (disch := omega) only [↓Sd, ↓So, ↓Sk, ↓den, ↓denA, Sa, Sb, Sc, Se, O1.d, O2.d, O3.d, cmI, arI, envOf, putN, ↓reduceIte, Nat.reduceLT, Nat.reduceSub, Nat.reduceAdd, Int.reduceAdd, Int.reduceEq, Int.reduceLT, Int.reduceLE, arr_pos, arr_neg, tr_spec_StepsTo, C_spec_SystemValid s hs]
 intro hv
 have hz := szn_eq hv
 have hfi := fst0_in hv.2.2.1
 have hn := num_bd hv.2.2.1 hfi
 simp (contextual := true) (maxSteps := 1000000) (disch := omega) only [↓Sd, ↓So, ↓Sk, ↓den, ↓denA, Sa, Sb, Sc, Se, O1.d, O2.d, O3.d, cmI, arI, envOf, putN, ↓reduceIte, Nat.reduceLT, Nat.reduceSub, Nat.reduceAdd, Int.reduceAdd, Int.reduceEq, Int.reduceLT, Int.reduceLE, arr_pos, arr_neg, C_spec_l4Steps s hs hv, C_spec_l5First s hs hv, C_spec_l5Steps (steps s) _ [num s.1 (fst0 s.1)] (szn s.1) (by omega) (steps_tbl hv) (by intro x hx; simp only [List.mem_singleton] at hx; omega) (fun k _ => dB_iff)]
 rfl
theorem C_spec_l5Told (f : Nat → Int) (n : Nat) (hn : n ≤ 1048576) (Q : List AV → Prop) : mc.C f_spec_l5Told [⟨L I, tab f n⟩] Q = Q [⟨L B, tab (fun k => decide (f k ≥ 0)) n⟩] := by
 refine Mc.Ends.c (mc.ends F_spec_l5Told ?_)
 have hl : (tab f n).length = n := tab_len
 simp (contextual := true) (maxSteps := 1000000) (disch := omega) only [↓Sd, ↓So, ↓Sk, ↓den, ↓denA, Sa, Sb, Sc, Se, O1.d, O2.d, O3.d, cmI, arI, envOf, putN, ↓reduceIte, Nat.reduceLT, Nat.reduceSub, Nat.reduceAdd, Int.reduceAdd, Int.reduceEq, Int.reduceLT, Int.reduceLE, arr_pos, arr_neg, tr_spec_l5Told, hl]
 refine mc.lp_for (List Bool) (fun i o => [⟨L I, tab f n⟩, ⟨I, (i : Int)⟩, ⟨L B, o⟩]) (fun i o => o = tab (fun k => if k < i then decide (f k ≥ 0) else false) n) n 0 (List.replicate n false) _ rfl (Nat.zero_le _) ?_ ?_ ?_
 ·rw [rep_tab]; rfl
 ·rintro i o hi rfl
  simp (contextual := true) (maxSteps := 1000000) (disch := omega) only [↓Sd, ↓So, ↓Sk, ↓den, ↓denA, Sa, Sb, Sc, Se, O1.d, O2.d, O3.d, cmI, arI, envOf, putN, ↓reduceIte, Nat.reduceLT, Nat.reduceSub, Nat.reduceAdd, Int.reduceAdd, Int.reduceEq, Int.reduceLT, Int.reduceLE, arr_pos, arr_neg, hl, tab_len, tab_get hi, tab_set']
  refine tab_congr fun k _ => ?_
  by_cases e : k = i
  ·subst e; rw [if_pos rfl, if_pos (by omega)]
  ·rw [if_neg e]
   by_cases e2 : k < i
   ·rw [if_pos e2, if_pos (by omega)]
   ·rw [if_neg e2, if_neg (by omega)]
 ·rintro o rfl
  simp (contextual := true) (maxSteps := 1000000) (disch := omega) only [↓Sd, ↓So, ↓Sk, ↓den, ↓denA, Sa, Sb, Sc, Se, O1.d, O2.d, O3.d, cmI, arI, envOf, putN, ↓reduceIte, Nat.reduceLT, Nat.reduceSub, Nat.reduceAdd, Int.reduceAdd, Int.reduceEq, Int.reduceLT, Int.reduceLE, arr_pos, arr_neg, hl]
  exact tab_congr fun k hk => if_pos hk
theorem C_spec_ReachOf (s : Sy) (hs : FewSy s) (Q : List AV → Prop) : mc.C f_spec_ReachOf [⟨L V3, s.1⟩, ⟨L TR, s.2⟩] Q = Q [⟨L I, if valid s then rset s else []⟩] := by
 refine Mc.Ends.c (mc.ends F_spec_ReachOf ?_)
 by_cases hv : valid s
 ·have hz := szn_eq hv
  have e : rset s = upTo (fun k => decide (dst (steps s) [num s.1 (fst0 s.1)] k ≥ 0)) (szn s.1) := upTo_congr fun k _ => by
   rw [← dB_eq]; exact dB_congr dst_rch.symm
  rw [if_pos hv, e]
  simp (contextual := true) (maxSteps := 1000000) (disch := omega) only [↓Sd, ↓So, ↓Sk, ↓den, ↓denA, Sa, Sb, Sc, Se, O1.d, O2.d, O3.d, cmI, arI, envOf, putN, ↓reduceIte, Nat.reduceLT, Nat.reduceSub, Nat.reduceAdd, Int.reduceAdd, Int.reduceEq, Int.reduceLT, Int.reduceLE, arr_pos, arr_neg, tr_spec_ReachOf, C_spec_StepsTo s hs, if_pos hv, ecc, C_spec_l5Told _ (szn s.1) (by omega : szn s.1 ≤ 1048576), C_spec_l4List_tab _ (szn s.1) (by omega : szn s.1 ≤ 1048576)]
 ·rw [if_neg hv]
  have e : ([] : List Int) = tab (fun _ => 0) 0 := rfl
  have e2 : ([] : List Int) = upTo (fun k => decide ((0 : Int) ≥ 0)) 0 := rfl
  simp (contextual := true) (maxSteps := 1000000) (disch := omega) only [↓Sd, ↓So, ↓Sk, ↓den, ↓denA, Sa, Sb, Sc, Se, O1.d, O2.d, O3.d, cmI, arI, envOf, putN, ↓reduceIte, Nat.reduceLT, Nat.reduceSub, Nat.reduceAdd, Int.reduceAdd, Int.reduceEq, Int.reduceLT, Int.reduceLE, arr_pos, arr_neg, tr_spec_ReachOf, C_spec_StepsTo s hs, if_neg hv]
  rw [e]
  simp (contextual := true) (maxSteps := 1000000) (disch := omega) only [↓Sd, ↓So, ↓Sk, ↓den, ↓denA, Sa, Sb, Sc, Se, O1.d, O2.d, O3.d, cmI, arI, envOf, putN, ↓reduceIte, Nat.reduceLT, Nat.reduceSub, Nat.reduceAdd, Int.reduceAdd, Int.reduceEq, Int.reduceLT, Int.reduceLE, arr_pos, arr_neg, C_spec_l5Told (fun _ => 0) 0 (by omega), C_spec_l4List_tab (fun _ => decide ((0 : Int) ≥ 0)) 0 (by omega)]
  rfl
noncomputable def mix (f : Bool → Bool → Bool) (a b : List Int) : List Int := if lset a 400 ∧ lset b 400 then upTo (fun k => f (dB ((k : Int) ∈ a)) (dB ((k : Int) ∈ b))) 400 else []
end Go.Proofs.YtdcdnfcmllfmlaaGreat
namespace Go.Proofs.YtdcdnfcmllfmlaaGreat
open Go Go.Sm Go.Sm.Q
set_option linter.unusedSimpArgs false
set_option linter.unusedVariables false
theorem C_spec_SetWithout_a (a b : List Int) (ha : a.length ≤ 1048576) (hb : b.length ≤ 1048576) (Q : List AV → Prop) : mc.C f_spec_SetWithout [⟨L I, a⟩, ⟨L I, b⟩] Q = Q [⟨L I, mix (fun x y => x && !y) a b⟩] := by
 by_cases h1 : lset a 400
 ·by_cases h2 : lset b 400
  ·rw [C_spec_SetWithout a b h1 h2, mix, if_pos ⟨h1, h2⟩]
  ·rw [mix, if_neg fun h => h2 h.2]
   have e : mc.C f_spec_l4Mix [⟨L I, a⟩, ⟨L I, b⟩, ⟨I, 2⟩] = fun Q => Q [⟨L I, []⟩] := by
    funext Q
    refine Mc.Ends.c (mc.ends F_spec_l4Mix ?_)
    simp (contextual := true) (maxSteps := 1000000) (disch := omega) only [↓Sd, ↓So, ↓Sk, ↓den, ↓denA, Sa, Sb, Sc, Se, O1.d, O2.d, O3.d, cmI, arI, envOf, putN, ↓reduceIte, Nat.reduceLT, Nat.reduceSub, Nat.reduceAdd, Int.reduceAdd, Int.reduceEq, Int.reduceLT, Int.reduceLE, arr_pos, arr_neg, tr_spec_l4Mix, C_spec_l4Set a ha, C_spec_l4Set b hb, h1, h2]
   refine Mc.Ends.c (mc.ends F_spec_SetWithout ?_)
   simp (contextual := true) (maxSteps := 1000000) (disch := omega) only [↓Sd, ↓So, ↓Sk, ↓den, ↓denA, Sa, Sb, Sc, Se, O1.d, O2.d, O3.d, cmI, arI, envOf, putN, ↓reduceIte, Nat.reduceLT, Nat.reduceSub, Nat.reduceAdd, Int.reduceAdd, Int.reduceEq, Int.reduceLT, Int.reduceLE, arr_pos, arr_neg, tr_spec_SetWithout, e]
 ·rw [mix, if_neg fun h => h1 h.1]
  have e : mc.C f_spec_l4Mix [⟨L I, a⟩, ⟨L I, b⟩, ⟨I, 2⟩] = fun Q => Q [⟨L I, []⟩] := by
   funext Q
   refine Mc.Ends.c (mc.ends F_spec_l4Mix ?_)
   simp (contextual := true) (maxSteps := 1000000) (disch := omega) only [↓Sd, ↓So, ↓Sk, ↓den, ↓denA, Sa, Sb, Sc, Se, O1.d, O2.d, O3.d, cmI, arI, envOf, putN, ↓reduceIte, Nat.reduceLT, Nat.reduceSub, Nat.reduceAdd, Int.reduceAdd, Int.reduceEq, Int.reduceLT, Int.reduceLE, arr_pos, arr_neg, tr_spec_l4Mix, C_spec_l4Set a ha, C_spec_l4Set b hb, h1]
  refine Mc.Ends.c (mc.ends F_spec_SetWithout ?_)
  simp (contextual := true) (maxSteps := 1000000) (disch := omega) only [↓Sd, ↓So, ↓Sk, ↓den, ↓denA, Sa, Sb, Sc, Se, O1.d, O2.d, O3.d, cmI, arI, envOf, putN, ↓reduceIte, Nat.reduceLT, Nat.reduceSub, Nat.reduceAdd, Int.reduceAdd, Int.reduceEq, Int.reduceLT, Int.reduceLE, arr_pos, arr_neg, tr_spec_SetWithout, e]
theorem mix_without {a b : List Int} (ha : lset a 400) (hb : lset b 400) : (mix (fun x y => x && !y) a b).length = 0 ↔ ∀ x ∈ a, x ∈ b := by
 rw [mix, if_pos ⟨ha, hb⟩, upTo_nil]
 constructor
 ·intro h x hx
  have h1 := lset_mem ha x hx
  have h2 := h x.toNat (by omega)
  rw [show ((x.toNat : Nat) : Int) = x by omega, dB_t hx] at h2
  have h3 : dB (x ∈ b) = true := by simpa using h2
  exact dB_iff.1 h3
 ·intro h k _
  by_cases g : (k : Int) ∈ a
  ·rw [dB_t g, dB_t (h _ g)]; rfl
  ·rw [dB_f g]; rfl
theorem beq_dB {a b : Int} : (a == b) = dB (a = b) := by
 by_cases h : a = b
 ·rw [dB_t h]; simpa using h
 ·rw [dB_f h]; simpa using h
def clo (s : Sy) (l : List Int) : Prop := setV s l ∧ num s.1 (fst0 s.1) ∈ l ∧ ∀ x ∈ nextN s l, x ∈ l
theorem rset_set {s : Sy} (h : valid s) : lset (rset s) 400 := lset_mono (upTo_lset (m := szn s.1) (Nat.le_refl _)) (by have := szn_eq h; omega)
theorem nextN_mem {s : Sy} {l : List Int} (h : setV s l) {x : Int} : x ∈ nextN s l ↔ ∃ k : Nat, k < szn s.1 ∧ x = (k : Int) ∧ ∃ y ∈ l, (k : Int) ∈ (steps s).getD y.toNat [] := by
 rw [nextN, upTo_mem]
 constructor
 ·rintro ⟨k, h1, h2, h3⟩
  exact ⟨k, h1, h2, (behind_mem h.mem).1 (dB_iff.1 h3)⟩
 ·rintro ⟨k, h1, h2, h3⟩
  exact ⟨k, h1, h2, dB_t ((behind_mem h.mem).2 h3)⟩
theorem C_impl_closed (s : Sy) (l : List Int) (h : setV s l) (Q : List AV → Prop) : mc.C f_impl_closed [⟨L V3, s.1⟩, ⟨L TR, s.2⟩, ⟨L I, l⟩] Q = Q [⟨B, dB (clo s l)⟩] := by
 have hv := h.1
 have hz := szn_eq hv
 have hll := h.len
 have hfi := fst0_in hv.2.2.1
 have hn := num_bd hv.2.2.1 hfi
 obtain ⟨m, hm, hmn⟩ := first_n hv
 refine Mc.Ends.c (mc.ends F_impl_closed ?_)
 generalize hK : dB (clo s l) = K
 simp (contextual := true) (maxSteps := 1000000) (disch := omega) only [↓Sd, ↓So, ↓Sk, ↓den, ↓denA, Sa, Sb, Sc, Se, O1.d, O2.d, O3.d, cmI, arI, envOf, putN, ↓reduceIte, Nat.reduceLT, Nat.reduceSub, Nat.reduceAdd, Int.reduceAdd, Int.reduceEq, Int.reduceLT, Int.reduceLE, arr_pos, arr_neg, tr_impl_closed, C_impl_size s.1 hv.1.2 hv.2.2.1, C_impl_marks_i l (sz s.1) (szn s.1) hz.1.symm (by omega) (by omega) h.mem, C_impl_first s hv.1.2, C_impl_number s _ hv.1.2 hv.2.2.1 hfi, hm, tab_len, tab_get hmn]
 refine ⟨fun g => ?_, fun g => ?_⟩
 ·have e : upTo (ovr (steps s) l) (szn s.1) = nextN s l := upTo_congr fun k _ => ovr_mem h.mem
  have hX : ∀ x ∈ nextN s l, 0 ≤ x ∧ x < (szn s.1 : Int) := fun x hx => by obtain ⟨k, h1, rfl, _⟩ := upTo_mem.1 hx; omega
  have hc : clo s l ↔ ∀ x ∈ nextN s l, x ∈ l := ⟨fun h => h.2.2, fun h2 => ⟨h, by rw [hm]; exact dB_iff.1 g, h2⟩⟩
  have hXl : (nextN s l).length ≤ szn s.1 := upTo_len
  simp (contextual := true) (maxSteps := 1000000) (disch := omega) only [↓Sd, ↓So, ↓Sk, ↓den, ↓denA, Sa, Sb, Sc, Se, O1.d, O2.d, O3.d, cmI, arI, envOf, putN, ↓reduceIte, Nat.reduceLT, Nat.reduceSub, Nat.reduceAdd, Int.reduceAdd, Int.reduceEq, Int.reduceLT, Int.reduceLE, arr_pos, arr_neg, C_impl_nexts s hv, C_impl_over (steps s) l (szn s.1) (by omega) (steps_tbl hv) (by omega) h.mem, e]
  refine lp_all (fun i => [⟨I, ((nextN s l).length : Int)⟩, ⟨I, (i : Int)⟩, ⟨L I, nextN s l⟩, ⟨L B, tab (fun k => dB ((k : Int) ∈ l)) (szn s.1)⟩]) (fun i => (nextN s l).getD i 0 ∈ l) (nextN s l).length _ rfl ?_ ?_
  ·intro i hi
   have h3 := hX _ (getD_mem (d := 0) hi)
   obtain ⟨x, hx⟩ : ∃ x : Nat, (nextN s l).getD i 0 = x := ⟨((nextN s l).getD i 0).toNat, by omega⟩
   have hxn : x < szn s.1 := by omega
   simp (contextual := true) (maxSteps := 1000000) (disch := omega) only [↓Sd, ↓So, ↓Sk, ↓den, ↓denA, Sa, Sb, Sc, Se, O1.d, O2.d, O3.d, cmI, arI, envOf, putN, ↓reduceIte, Nat.reduceLT, Nat.reduceSub, Nat.reduceAdd, Int.reduceAdd, Int.reduceEq, Int.reduceLT, Int.reduceLE, arr_pos, arr_neg, hx, Int.toNat_natCast, tab_len, tab_get hxn]
   refine ⟨fun g2 => ?_, fun g2 => dB_iff.1 (by simpa using g2)⟩
   have h6 : ¬ clo s l := by
    intro h4
    have h5 := hc.1 h4 _ (getD_mem (d := 0) hi)
    rw [hx] at h5
    rw [dB_t h5] at g2
    cases g2
   rw [← hK, dB_f h6]
   simp
  ·intro h4
   simp (contextual := true) (maxSteps := 1000000) (disch := omega) only [↓Sd, ↓So, ↓Sk, ↓den, ↓denA, Sa, Sb, Sc, Se, O1.d, O2.d, O3.d, cmI, arI, envOf, putN, ↓reduceIte, Nat.reduceLT, Nat.reduceSub, Nat.reduceAdd, Int.reduceAdd, Int.reduceEq, Int.reduceLT, Int.reduceLE, arr_pos, arr_neg, ]
   rw [← hK, dB_t (hc.2 (all_get (d := 0) h4))]
   rfl
 ·rw [← hK, dB_f]
  intro h2
  have := h2.2.1
  rw [hm] at this
  exact g (dB_t this)
theorem C_impl_Closed (s : Sy) (l : List Int) (hs : FewSy s) (hl : l.length ≤ 1048576) (Q : List AV → Prop) : mc.C f_impl_Closed [⟨L V3, s.1⟩, ⟨L TR, s.2⟩, ⟨L I, l⟩] Q = Q [⟨B, dB (clo s l)⟩] := by
 refine Mc.Ends.c (mc.ends F_impl_Closed ?_)
 simp (contextual := true) (maxSteps := 1000000) (disch := omega) only [↓Sd, ↓So, ↓Sk, ↓den, ↓denA, Sa, Sb, Sc, Se, O1.d, O2.d, O3.d, cmI, arI, envOf, putN, ↓reduceIte, Nat.reduceLT, Nat.reduceSub, Nat.reduceAdd, Int.reduceAdd, Int.reduceEq, Int.reduceLT, Int.reduceLE, arr_pos, arr_neg, tr_impl_Closed, C_impl_SetValid s l hs hl]
 refine ⟨fun h => ?_, fun h => ?_⟩
 ·simp (contextual := true) (maxSteps := 1000000) (disch := omega) only [↓Sd, ↓So, ↓Sk, ↓den, ↓denA, Sa, Sb, Sc, Se, O1.d, O2.d, O3.d, cmI, arI, envOf, putN, ↓reduceIte, Nat.reduceLT, Nat.reduceSub, Nat.reduceAdd, Int.reduceAdd, Int.reduceEq, Int.reduceLT, Int.reduceLE, arr_pos, arr_neg, C_impl_closed s l h]
 ·rw [dB_f fun g => h g.1]
theorem C_impl_InRange (s : Sy) (st : List Int) (hs : FewSy s) (hv : valid s) (hl : st.length ≤ 1048576) (Q : List AV → Prop) : mc.C f_impl_InRange [⟨L V3, s.1⟩, ⟨L TR, s.2⟩, ⟨L I, st⟩] Q = Q [⟨B, decide (inR s.1 st)⟩] := by
 refine Mc.Ends.c (mc.ends F_impl_InRange ?_)
 simp (contextual := true) (maxSteps := 1000000) (disch := omega) only [↓Sd, ↓So, ↓Sk, ↓den, ↓denA, Sa, Sb, Sc, Se, O1.d, O2.d, O3.d, cmI, arI, envOf, putN, ↓reduceIte, Nat.reduceLT, Nat.reduceSub, Nat.reduceAdd, Int.reduceAdd, Int.reduceEq, Int.reduceLT, Int.reduceLE, arr_pos, arr_neg, tr_impl_InRange, C_impl_SystemValid s hs, hv, C_impl_inRange s st hv.1.2 hl]
def hw1 (s : Sy) (l : List Tm) (X : List Int) (x : Int) : Prop := holdsN s l x.toNat = true → ∀ y ∈ (steps s).getD x.toNat [], y ∈ X → holdsN s l y.toNat = true
def hw (s : Sy) (l : List Tm) (X : List Int) : Prop := ∀ x ∈ X, hw1 s l X x
noncomputable def whr (s : Sy) (l : List Tm) : List Int := if valid s ∧ kf l s.1.length = 2 then upTo (holdsN s l) (szn s.1) else []
theorem whr_len {s : Sy} {l : List Tm} : (whr s l).length ≤ 400 := by
 unfold whr
 exact ite_few fun h => upTo_few h.1
theorem whr_set {s : Sy} {l : List Tm} (h : valid s ∧ kf l s.1.length = 2) : lset (whr s l) 400 := by
 have := szn_eq h.1
 rw [whr, if_pos h]
 exact lset_mono (upTo_lset (m := szn s.1) (Nat.le_refl _)) (by omega)
theorem whr_mem {s : Sy} {l : List Tm} (h : valid s ∧ kf l s.1.length = 2) {x : Int} : x ∈ whr s l ↔ 0 ≤ x ∧ x < (szn s.1 : Int) ∧ holdsN s l x.toNat = true := by
 rw [whr, if_pos h, upTo_mem]
 constructor
 ·rintro ⟨k, h1, rfl, h2⟩; exact ⟨by omega, by omega, by rw [Int.toNat_natCast]; exact h2⟩
 ·rintro ⟨h1, h2, h3⟩; exact ⟨x.toNat, by omega, by omega, h3⟩
def prv (s : Sy) (l : List Tm) (X : List Int) : Prop := kf l s.1.length = 2 ∧ clo s X ∧ ∀ x ∈ X, holdsN s l x.toNat = true
theorem C_impl_Proves (s : Sy) (l : List Tm) (X : List Int) (hs : FewSy s) (hf : Few l) (hl : X.length ≤ 1048576) (Q : List AV → Prop) : mc.C f_impl_Proves [⟨L V3, s.1⟩, ⟨L TR, s.2⟩, ⟨L T4, l⟩, ⟨L I, X⟩] Q = Q [⟨B, dB (prv s l X)⟩] := by
 refine Mc.Ends.c (mc.ends F_impl_Proves ?_)
 generalize hK : dB (prv s l X) = K
 by_cases h : valid s ∧ kf l s.1.length = 2
 ·simp (contextual := true) (maxSteps := 1000000) (disch := omega) only [↓Sd, ↓So, ↓Sk, ↓den, ↓denA, Sa, Sb, Sc, Se, O1.d, O2.d, O3.d, cmI, arI, envOf, putN, ↓reduceIte, Nat.reduceLT, Nat.reduceSub, Nat.reduceAdd, Int.reduceAdd, Int.reduceEq, Int.reduceLT, Int.reduceLE, arr_pos, arr_neg, tr_impl_Proves, C_impl_truthOf s l hs hf, h.1, h.2, C_impl_Closed s X hs hl]
  refine ⟨fun g => ?_, fun g => ?_⟩
  ·have hc := dB_iff.1 g
   have hz := szn_eq h.1
   simp (contextual := true) (maxSteps := 1000000) (disch := omega) only [↓Sd, ↓So, ↓Sk, ↓den, ↓denA, Sa, Sb, Sc, Se, O1.d, O2.d, O3.d, cmI, arI, envOf, putN, ↓reduceIte, Nat.reduceLT, Nat.reduceSub, Nat.reduceAdd, Int.reduceAdd, Int.reduceEq, Int.reduceLT, Int.reduceLE, arr_pos, arr_neg, C_impl_size s.1 h.1.1.2 h.1.2.2.1, C_impl_marks_i X (sz s.1) (szn s.1) hz.1.symm (by omega) hl hc.1.mem, C_impl_always s l _ h.1 (by omega : kf l s.1.length ≠ 0)]
   rw [← hK]
   refine dB_congr ⟨fun g1 => ⟨h.2, hc, fun x hx => ?_⟩, fun g1 k hk hk2 => ?_⟩
   ·have hx2 := hc.1.mem x hx
    exact g1 x.toNat (by omega) (dB_t (by rw [show ((x.toNat : Nat) : Int) = x by omega]; exact hx))
   ·have := g1.2.2 _ (dB_iff.1 hk2)
    rwa [Int.toNat_natCast] at this
  ·rw [← hK, dB_f fun h => g (dB_t h.2.1)]
 ·simp (contextual := true) (maxSteps := 1000000) (disch := omega) only [↓Sd, ↓So, ↓Sk, ↓den, ↓denA, Sa, Sb, Sc, Se, O1.d, O2.d, O3.d, cmI, arI, envOf, putN, ↓reduceIte, Nat.reduceLT, Nat.reduceSub, Nat.reduceAdd, Int.reduceAdd, Int.reduceEq, Int.reduceLT, Int.reduceLE, arr_pos, arr_neg, tr_impl_Proves, C_impl_truthOf s l hs hf, h]
  rw [← hK, dB_f fun g => h ⟨g.2.1.1.1, g.1⟩]
theorem dg_num {l : List Vr} {st : List Int} (hv : ∀ v ∈ l, vOk v) (hst : inR l st) : ∀ {j : Nat}, j ≤ l.length → dg (l.drop (l.length - j)) (num l st) = (numN l st (l.length - j), st.drop (l.length - j))
 | 0, _ => by
  have h1 : l.drop (l.length - 0) = [] := by simp
  have h2 : st.drop (l.length - 0) = [] := by rw [← hst.1]; simp
  rw [h1, h2]; rfl
 | j + 1, hj => by
  have ih := dg_num hv hst (j := j) (by omega)
  obtain ⟨k, hk⟩ : ∃ k, l.length - (j + 1) = k := ⟨_, rfl⟩
  have hk1 : l.length - j = k + 1 := by omega
  have hkl : k < l.length := by omega
  rw [hk1] at ih
  rw [hk, dg_next hkl, ih]
  have h1 := hst.2 k hkl
  have h3 := wd_ok (hv _ (getD_mem (d := (0, 0, 0)) hkl))
  have h6 : wd (l.getD k (0, 0, 0)) = (l.getD k (0, 0, 0)).2.1 - (l.getD k (0, 0, 0)).1 + 1 := rfl
  have hst1 := hst.1
  rw [drop_cons (l := st) (d := 0) (show k < st.length by omega)]
  simp only [numN]
  generalize wd (l.getD k (0, 0, 0)) = w at *
  generalize (l.getD k (0, 0, 0)) = v at *
  generalize st.getD k 0 = x at *
  generalize numN l st k = a at *
  have e : a * w + x - v.1 = (x - v.1) + a * w := by omega
  have e1 : (x - v.1 + a * w) / w = a := by rw [Int.add_mul_ediv_right _ _ (by omega), Int.ediv_eq_zero_of_lt (by omega) (by omega)]; omega
  have e2 : (x - v.1 + a * w) % w = x - v.1 := by rw [Int.add_mul_emod_self_right, Int.emod_eq_of_lt (by omega) (by omega)]
  rw [e, e1, e2]
  congr 2
  omega
theorem stAt_num {l : List Vr} {st : List Int} (hv : ∀ v ∈ l, vOk v) (hst : inR l st) : stAt l (num l st) = st := by
 have := dg_num hv hst (Nat.le_refl _)
 rw [Nat.sub_self, List.drop_zero, List.drop_zero] at this
 rw [stAt, this]
theorem nxtN_rule {s : Sy} {st x : List Int} : ∀ {k : Nat}, x ∈ nxtN s st k → ∃ r, r < k ∧ useM s.1 (s.2.getD r ([], [], [])) st = x ∧ x ≠ []
 | 0, h => by simp [nxtN] at h
 | k + 1, h => by
  simp only [nxtN] at h
  split at h
  ·obtain ⟨r, h1, h2⟩ := nxtN_rule h; exact ⟨r, by omega, h2⟩
  ·rename_i h1
   rcases putM_mem h with rfl | h
   ·exact ⟨k, by omega, rfl, h1⟩
   ·obtain ⟨r, h1, h2⟩ := nxtN_rule h; exact ⟨r, by omega, h2⟩
theorem step_rule {s : Sy} (h : valid s) {a k : Nat} (ha : a < szn s.1) (hk : (k : Int) ∈ (steps s).getD a []) : ∃ r, r < s.2.length ∧ useM s.1 (s.2.getD r ([], [], [])) (stN s a) = stN s k ∧ stN s k ≠ [] := by
 rw [steps, tab_get ha, stepR] at hk
 obtain ⟨x, h1, h2⟩ := List.mem_map.1 hk
 obtain ⟨r, h3, h4, h5⟩ := nxtN_rule h1
 have h6 : stN s k = x := by rw [stN, ← h2]; exact stAt_num h.2.2.1 (nxt_in x h1)
 exact ⟨r, h3, by rw [h6]; exact h4, by rw [h6]; exact h5⟩
theorem stN_first {s : Sy} (h : valid s) {m : Nat} (hm : num s.1 (fst0 s.1) = m) : stN s m = fst0 s.1 := by rw [stN, ← hm]; exact stAt_num h.2.2.1 (fst0_in h.2.2.1)
def fst1 (p : Nat → Bool) : Nat → Int
 | 0 => -1
 | n + 1 => if 0 ≤ fst1 p n then fst1 p n else if p n = true then (n : Int) else -1
theorem fst1_none {p : Nat → Bool} : ∀ {n : Nat}, (∀ j, j < n → ¬ p j = true) → fst1 p n = -1
 | 0, _ => rfl
 | n + 1, h => by rw [fst1, fst1_none fun j hj => h j (by omega), if_neg (by omega), if_neg (h n (by omega))]
theorem fst1_hit {p : Nat → Bool} {i : Nat} (hp : p i = true) (h : ∀ j, j < i → ¬ p j = true) : ∀ {n : Nat}, i < n → fst1 p n = i
 | 0, hi => absurd hi (Nat.not_lt_zero _)
 | n + 1, hi => by
  rw [fst1]
  by_cases g : i < n
  ·rw [fst1_hit hp h g, if_pos (by omega)]
  ·have : i = n := by omega
   subst this
   rw [fst1_none h, if_neg (by omega), if_pos hp]
theorem fst1_ge {p : Nat → Bool} {i n : Nat} (hi : i < n) (hp : p i = true) : 0 ≤ fst1 p n := by
 obtain ⟨d, h1, h2⟩ := least (P := fun i => p i = true) ⟨i, hp⟩
 have : ¬ i < d := fun g => h2 i g hp
 rw [fst1_hit h1 h2 (show d < n by omega)]; omega
def rbt (s : Sy) (a b : List Int) : Int := fst1 (fun r => decide (useM s.1 (s.2.getD r ([], [], [])) a ≠ [] ∧ useM s.1 (s.2.getD r ([], [], [])) a = b)) s.2.length
theorem rbt_step {s : Sy} (h : valid s) {a k : Nat} (ha : a < szn s.1) (hk : (k : Int) ∈ (steps s).getD a []) : 0 ≤ rbt s (stN s a) (stN s k) := by
 obtain ⟨r, h1, h2, h3⟩ := step_rule h ha hk
 exact fst1_ge h1 (decide_eq_true ⟨by rw [h2]; exact h3, h2⟩)
def IsPrd (T : List (List Int)) (f : Nat → Int) (n k a : Nat) : Prop := a < n ∧ f a + 1 = f k ∧ (k : Int) ∈ T.getD a [] ∧ ∀ b, b < a → ¬ (f b + 1 = f k ∧ (k : Int) ∈ T.getD b [])
theorem prd_ex {T : List (List Int)} {F : List Int} {n k : Nat} (ht : Tbl T n) (hF : ∀ x ∈ F, x < n) (h : 0 < dst T F k) : ∃ a, IsPrd T (dst T F) n k a := by
 have key : ∃ a, dst T F a + 1 = dst T F k ∧ (k : Int) ∈ T.getD a [] := by
  obtain ⟨d, hd⟩ : ∃ d : Nat, dst T F k = ((d + 1 : Nat) : Int) := ⟨(dst T F k).toNat - 1, by omega⟩
  have h1 : Lay T F (d + 1) k := dst_le.2 ⟨by omega, by omega⟩
  have h2 : ¬ Lay T F d k := fun g => by have := dst_le.1 g; omega
  rcases h1 with h1 | ⟨a, h1, h3⟩
  ·exact absurd h1 h2
  ·have h4 := dst_le.1 h1
   refine ⟨a, ?_, h3⟩
   have h5 : Lay T F ((dst T F a).toNat + 1) k := .inr ⟨a, dst_le.2 ⟨h4.1, by omega⟩, h3⟩
   have h6 := dst_le.1 h5
   omega
 obtain ⟨a, h1, h2⟩ := least key
 refine ⟨a, ?_, h1.1, h1.2, h2⟩
 have : Rch T F a := dst_rch.1 (by omega)
 exact this.lt ht hF
def Chain (T : List (List Int)) (f : Nat → Int) (n k D : Nat) (ch : Nat → Nat) : Prop := ch D = k ∧ (∀ e, e < D → IsPrd T f n (ch (e + 1)) (ch e)) ∧ ∀ e, e ≤ D → ch e < n ∧ f (ch e) = e
theorem chain_ex {T : List (List Int)} {F : List Int} {n : Nat} (ht : Tbl T n) (hF : ∀ x ∈ F, x < n) : ∀ {D k : Nat}, k < n → dst T F k = D → ∃ ch, Chain T (dst T F) n k D ch
 | 0, k, hk, h => ⟨fun _ => k, rfl, fun e he => absurd he (Nat.not_lt_zero _), fun e he => ⟨hk, by rw [h, show e = 0 by omega]⟩⟩
 | D + 1, k, hk, h => by
  obtain ⟨a, ha⟩ := prd_ex ht hF (show 0 < dst T F k by omega)
  obtain ⟨ch, h1, h2, h3⟩ := chain_ex ht hF (D := D) ha.1 (by have := ha.2.1; omega)
  refine ⟨fun e => if e ≤ D then ch e else k, if_neg (by omega), fun e he => ?_, fun e he => ?_⟩
  ·show IsPrd T (dst T F) n (if e + 1 ≤ D then ch (e + 1) else k) (if e ≤ D then ch e else k)
   by_cases g : e < D
   ·rw [if_pos (show e ≤ D by omega), if_pos (show e + 1 ≤ D by omega)]; exact h2 e g
   ·have : e = D := by omega
    subst this
    rw [if_pos (Nat.le_refl _), if_neg (by omega), h1]; exact ha
  ·show (if e ≤ D then ch e else k) < n ∧ dst T F (if e ≤ D then ch e else k) = e
   by_cases g : e ≤ D
   ·rw [if_pos g]; exact h3 e g
   ·have : e = D + 1 := by omega
    subst this
    rw [if_neg (by omega)]; exact ⟨hk, h⟩
theorem Chain.few {T : List (List Int)} {f : Nat → Int} {n k D : Nat} {ch : Nat → Nat} (h : Chain T f n k D ch) : D < n := by
 have key : ∀ e, e ≤ D → e < (upTo (fun k => decide (0 ≤ f k ∧ f k ≤ (e : Int))) n).length := by
  intro e
  induction e with
  | zero =>
   intro _
   have h1 := h.2.2 0 (by omega)
   exact upTo_pos.2 ⟨ch 0, h1.1, decide_eq_true (by omega)⟩
  | succ e ih =>
   intro he
   have h1 := ih (by omega)
   have h2 := h.2.2 (e + 1) he
   have h3 := upTo_mono (p := fun k => decide (0 ≤ f k ∧ f k ≤ (e : Int))) (q := fun k => decide (0 ≤ f k ∧ f k ≤ ((e + 1 : Nat) : Int))) (n := n) fun k _ hk => decide_eq_true (by have := of_decide_eq_true hk; omega)
   by_cases g : (upTo (fun k => decide (0 ≤ f k ∧ f k ≤ ((e + 1 : Nat) : Int))) n).length ≤ (upTo (fun k => decide (0 ≤ f k ∧ f k ≤ (e : Int))) n).length
   ·have h4 := h3.2 g (ch (e + 1)) h2.1 (decide_eq_true (by omega))
    have h5 := of_decide_eq_true h4
    omega
   ·omega
 have h1 := key D (Nat.le_refl _)
 have h2 := @upTo_len (fun k => decide (0 ≤ f k ∧ f k ≤ (D : Int))) n
 omega
def bst1 (f : Nat → Int) (b x : Int) : Int := if 0 ≤ f x.toNat ∧ (b < 0 ∨ f x.toNat < f b.toNat) then x else b
def bstL (f : Nat → Int) (l : List Int) : Int := l.foldl (bst1 f) (-1)
theorem bstL_snoc {f : Nat → Int} {l : List Int} {x : Int} : bstL f (l ++ [x]) = bst1 f (bstL f l) x := by simp [bstL, List.foldl_append]
def near (p : Nat → Bool) (f : Nat → Int) (n : Nat) : Int := bstL f (upTo p n)
theorem near_next {p : Nat → Bool} {f : Nat → Int} {n : Nat} : near p f (n + 1) = if p n = true then bst1 f (near p f n) n else near p f n := by
 unfold near
 by_cases g : p n = true
 ·rw [upTo_s g, if_pos g, bstL_snoc]
 ·rw [upTo_n g, if_neg g]
theorem near_spec {p : Nat → Bool} {f : Nat → Int} : ∀ {n : Nat}, (near p f n = -1 ∧ ∀ k, k < n → p k = true → f k < 0) ∨ ∃ b : Nat, near p f n = b ∧ b < n ∧ p b = true ∧ 0 ≤ f b ∧ ∀ k, k < n → p k = true → 0 ≤ f k → f b ≤ f k
 | 0 => .inl ⟨rfl, fun k hk => absurd hk (Nat.not_lt_zero _)⟩
 | n + 1 => by
  rw [near_next]
  by_cases g : p n = true
  ·rw [if_pos g, bst1, Int.toNat_natCast]
   rcases @near_spec p f n with ⟨h1, h2⟩ | ⟨b, h1, h2, h3, h4, h5⟩
   ·rw [h1]
    by_cases g2 : 0 ≤ f n
    ·rw [if_pos ⟨g2, .inl (by omega)⟩]
     refine .inr ⟨n, rfl, by omega, g, g2, fun k hk hp hf => ?_⟩
     by_cases e : k = n
     ·subst e; exact Int.le_refl _
     ·have := h2 k (by omega) hp; omega
    ·rw [if_neg fun h => g2 h.1]
     refine .inl ⟨rfl, fun k hk hp => ?_⟩
     by_cases e : k = n
     ·subst e; omega
     ·exact h2 k (by omega) hp
   ·rw [h1, Int.toNat_natCast]
    by_cases g2 : 0 ≤ f n ∧ f n < f b
    ·rw [if_pos ⟨g2.1, .inr g2.2⟩]
     refine .inr ⟨n, rfl, by omega, g, g2.1, fun k hk hp hf => ?_⟩
     by_cases e : k = n
     ·subst e; exact Int.le_refl _
     ·have := h5 k (by omega) hp hf; omega
    ·rw [if_neg fun h => g2 ⟨h.1, h.2.elim (fun h => by omega) id⟩]
     refine .inr ⟨b, rfl, by omega, h3, h4, fun k hk hp hf => ?_⟩
     by_cases e : k = n
     ·subst e; omega
     ·exact h5 k (by omega) hp hf
  ·rw [if_neg g]
   rcases @near_spec p f n with ⟨h1, h2⟩ | ⟨b, h1, h2, h3, h4, h5⟩
   ·refine .inl ⟨h1, fun k hk hp => ?_⟩
    by_cases e : k = n
    ·subst e; exact absurd hp g
    ·exact h2 k (by omega) hp
   ·refine .inr ⟨b, h1, by omega, h3, h4, fun k hk hp hf => ?_⟩
    by_cases e : k = n
    ·subst e; exact absurd hp g
    ·exact h5 k (by omega) hp hf
theorem dst_bd {T : List (List Int)} {F : List Int} {n k : Nat} (ht : Tbl T n) (hF : ∀ x ∈ F, x < n) (hk : k < n) : -1 ≤ dst T F k ∧ dst T F k < n := by
 have h1 : -1 ≤ dst T F k := by unfold dst; split <;> omega
 refine ⟨h1, ?_⟩
 by_cases g : 0 ≤ dst T F k
 ·obtain ⟨ch, hc⟩ := chain_ex ht hF (D := (dst T F k).toNat) hk (by omega)
  have := hc.few
  omega
 ·omega
theorem pastL_lt {T : List (List Int)} {k m : Nat} : ∀ x ∈ pastL T k m, x < (m : Int) := fun x hx => by
 obtain ⟨a, h1, rfl, _⟩ := pastL_mem.1 hx
 omega
theorem pastL_sorted {T : List (List Int)} {k : Nat} : ∀ {m : Nat}, (pastL T k m).Pairwise (· ≤ ·)
 | 0 => List.Pairwise.nil
 | m + 1 => by
  simp only [pastL]
  refine List.pairwise_append.2 ⟨pastL_sorted, ?_, fun x hx y hy => ?_⟩
  ·exact List.pairwise_replicate.2 (.inr (Int.le_refl _))
  ·have h1 := pastL_lt x hx
   have h2 := (List.mem_replicate.1 hy).2
   omega
theorem sorted_get {l : List Int} (h : l.Pairwise (· ≤ ·)) {i j : Nat} (hij : i ≤ j) (hj : j < l.length) : l.getD i 0 ≤ l.getD j 0 := by
 by_cases e : i = j
 ·subst e; exact Int.le_refl _
 ·rw [getD_lt hj, getD_lt (by omega)]
  exact List.pairwise_iff_getElem.1 h i j (by omega) hj (by omega)
noncomputable def dS (s : Sy) (k : Nat) : Int := dst (steps s) [num s.1 (fst0 s.1)] k
noncomputable def nearS (s : Sy) (l : List Tm) : Int := near (holdsN s l) (dS s) (szn s.1)
theorem first_lt {s : Sy} (h : valid s) : ∀ x ∈ [num s.1 (fst0 s.1)], x < (szn s.1 : Int) := fun x hx => by
 have h1 := num_bd h.2.2.1 (fst0_in h.2.2.1)
 have h2 := szn_eq h
 simp only [List.mem_singleton] at hx
 omega
theorem dS_bd {s : Sy} (h : valid s) {k : Nat} (hk : k < szn s.1) : -1 ≤ dS s k ∧ dS s k < szn s.1 := dst_bd (steps_tbl h) (first_lt h) hk
theorem useM_few {s : Sy} (h : valid s) {r : Ru} {a : List Int} : (useM s.1 r a).length ≤ 1048576 := by
 by_cases h0 : useM s.1 r a = []
 ·rw [h0]; simp
 ·have h1 := (useM_in h0).1; have h2 := h.1.2; omega
theorem rbt_next {s : Sy} {a b : List Int} {i : Nat} (hp : ∀ j, j < i → ¬ (¬ useM s.1 (s.2.getD j ([], [], [])) a = [] ∧ useM s.1 (s.2.getD j ([], [], [])) a = b)) : ¬ (¬ useM s.1 (s.2.getD i ([], [], [])) a = [] ∧ useM s.1 (s.2.getD i ([], [], [])) a = b) →
  ∀ j, j < i + 1 → ¬ (¬ useM s.1 (s.2.getD j ([], [], [])) a = [] ∧ useM s.1 (s.2.getD j ([], [], [])) a = b) := by
 intro hn j hj
 rcases Nat.lt_succ_iff_lt_or_eq.1 hj with hj | rfl
 ·exact hp j hj
 ·exact hn
theorem C_slices_Equal (a b : List Int) (ha : a.length ≤ 1048576) (hb : b.length ≤ 1048576) (Q : List AV → Prop) : mc.C f_slices_Equal_Sint_int [⟨L I, a⟩, ⟨L I, b⟩] Q = Q [⟨B, decide (a = b)⟩] := by
 refine Mc.Ends.c (mc.ends F_slices_Equal_Sint_int ?_)
 generalize hK : decide (a = b) = K
 simp (contextual := true) (maxSteps := 1000000) (disch := omega) only [↓Sd, ↓So, ↓Sk, ↓den, ↓denA, Sa, Sb, Sc, Se, O1.d, O2.d, O3.d, cmI, arI, envOf, putN, ↓reduceIte, Nat.reduceLT, Nat.reduceSub, Nat.reduceAdd, Int.reduceAdd, Int.reduceEq, Int.reduceLT, Int.reduceLE, arr_pos, arr_neg, tr_slices_Equal_Sint_int]
 refine ⟨fun g => ?_, fun g => ?_⟩
 ·rw [← hK, decide_eq_false]; intro h; rw [h] at g; exact g rfl
 ·have hl : a.length = b.length := by omega
  refine lp_all (fun i => [⟨L I, a⟩, ⟨L I, b⟩, ⟨I, (a.length : Int)⟩, ⟨I, (i : Int)⟩]) (fun i => a.getD i 0 = b.getD i 0) a.length _ ?_ ?_ ?_
  ·rw [hl]; rfl
  ·intro i hi
   simp (contextual := true) (maxSteps := 1000000) (disch := omega) only [↓Sd, ↓So, ↓Sk, ↓den, ↓denA, Sa, Sb, Sc, Se, O1.d, O2.d, O3.d, cmI, arI, envOf, putN, ↓reduceIte, Nat.reduceLT, Nat.reduceSub, Nat.reduceAdd, Int.reduceAdd, Int.reduceEq, Int.reduceLT, Int.reduceLE, arr_pos, arr_neg, ]
   intro h
   rw [← hK, decide_eq_false]
   intro h2; rw [h2] at h; exact h rfl
  ·intro h
   simp (contextual := true) (maxSteps := 1000000) (disch := omega) only [↓Sd, ↓So, ↓Sk, ↓den, ↓denA, Sa, Sb, Sc, Se, O1.d, O2.d, O3.d, cmI, arI, envOf, putN, ↓reduceIte, Nat.reduceLT, Nat.reduceSub, Nat.reduceAdd, Int.reduceAdd, Int.reduceEq, Int.reduceLT, Int.reduceLE, arr_pos, arr_neg, ]
   rw [← hK, decide_eq_true]
   refine List.ext_getElem hl fun i h1 h2 => ?_
   have := h i h1
   rwa [getD_lt h1, getD_lt h2] at this
theorem C_impl_ruleBetween (s : Sy) (a b : List Int) (h : valid s) (ha : inR s.1 a) (hb : b.length ≤ 1048576) (Q : List AV → Prop) : mc.C f_impl_ruleBetween [⟨L V3, s.1⟩, ⟨L TR, s.2⟩, ⟨L I, a⟩, ⟨L I, b⟩] Q = Q [⟨I, rbt s a b⟩] := by
 refine Mc.Ends.c (mc.ends F_impl_ruleBetween ?_)
 generalize hK : rbt s a b = K
 simp (contextual := true) (maxSteps := 1000000) (disch := omega) only [↓Sd, ↓So, ↓Sk, ↓den, ↓denA, Sa, Sb, Sc, Se, O1.d, O2.d, O3.d, cmI, arI, envOf, putN, ↓reduceIte, Nat.reduceLT, Nat.reduceSub, Nat.reduceAdd, Int.reduceAdd, Int.reduceEq, Int.reduceLT, Int.reduceLE, arr_pos, arr_neg, tr_impl_ruleBetween]
 refine mc.lp_for Unit (fun i _ => [⟨L I, a⟩, ⟨L I, b⟩, ⟨I, (s.2.length : Int)⟩, ⟨I, (i : Int)⟩, ⟨L V3, s.1⟩, ⟨L TR, s.2⟩]) (fun i _ => ∀ j, j < i → ¬ (¬ useM s.1 (s.2.getD j ([], [], [])) a = [] ∧ useM s.1 (s.2.getD j ([], [], [])) a = b)) s.2.length 0 () _ rfl (Nat.zero_le _) (fun j hj => absurd hj (Nat.not_lt_zero _)) ?_ ?_
 ·rintro i - hi hp
  have hu : (useM s.1 (s.2.getD i ([], [], [])) a).length ≤ 1048576 := useM_few h
  have next := rbt_next (s := s) (a := a) (b := b) hp
  have h8 := h.2.1
  have hit : (¬ useM s.1 (s.2.getD i ([], [], [])) a = [] ∧ useM s.1 (s.2.getD i ([], [], [])) a = b) → (i : Int) = K := fun hh => by
   rw [← hK, rbt, fst1_hit (i := i) (decide_eq_true hh) (fun j hj h => hp j hj (of_decide_eq_true h)) hi]
  simp (contextual := true) (maxSteps := 1000000) (disch := omega) only [↓Sd, ↓So, ↓Sk, ↓den, ↓denA, Sa, Sb, Sc, Se, O1.d, O2.d, O3.d, cmI, arI, envOf, putN, ↓reduceIte, Nat.reduceLT, Nat.reduceSub, Nat.reduceAdd, Int.reduceAdd, Int.reduceEq, Int.reduceLT, Int.reduceLE, arr_pos, arr_neg, ↓wpJoin, C_impl_use s a i h ha hi, C_slices_Equal _ b hu hb]
  exact ⟨fun g1 => ⟨fun g2 => hit ⟨g1, g2⟩, fun g2 => next fun h => g2 h.2⟩, fun g1 => next fun h => h.1 g1⟩
 ·rintro - hp
  simp (contextual := true) (maxSteps := 1000000) (disch := omega) only [↓Sd, ↓So, ↓Sk, ↓den, ↓denA, Sa, Sb, Sc, Se, O1.d, O2.d, O3.d, cmI, arI, envOf, putN, ↓reduceIte, Nat.reduceLT, Nat.reduceSub, Nat.reduceAdd, Int.reduceAdd, Int.reduceEq, Int.reduceLT, Int.reduceLE, arr_pos, arr_neg, ]
  rw [← hK, rbt, fst1_none fun j hj h => hp j hj (of_decide_eq_true h)]
theorem C_impl_RuleBetween (s : Sy) (a b : List Int) (hs : FewSy s) (h : valid s) (ha : inR s.1 a) (hb : inR s.1 b) (Q : List AV → Prop) : mc.C f_impl_RuleBetween [⟨L V3, s.1⟩, ⟨L TR, s.2⟩, ⟨L I, a⟩, ⟨L I, b⟩] Q = Q [⟨I, rbt s a b⟩] := by
 have hla : a.length ≤ 1048576 := by have := ha.1; have := h.1.2; omega
 have hlb : b.length ≤ 1048576 := by have := hb.1; have := h.1.2; omega
 refine Mc.Ends.c (mc.ends F_impl_RuleBetween ?_)
 simp (contextual := true) (maxSteps := 1000000) (disch := omega) only [↓Sd, ↓So, ↓Sk, ↓den, ↓denA, Sa, Sb, Sc, Se, O1.d, O2.d, O3.d, cmI, arI, envOf, putN, ↓reduceIte, Nat.reduceLT, Nat.reduceSub, Nat.reduceAdd, Int.reduceAdd, Int.reduceEq, Int.reduceLT, Int.reduceLE, arr_pos, arr_neg, tr_impl_RuleBetween, C_impl_InRange s a hs h hla, C_impl_inRange s b h.1.2 hlb, ha, hb, C_impl_ruleBetween s a b h ha hlb]
theorem C_impl_lists (l : List (List Int)) (hl : l.length ≤ 1048576) (h : ∀ x ∈ l, x.length ≤ 1048576) (Q : List AV → Prop) : mc.C f_impl_lists [⟨L (L I), l⟩] Q = Q [⟨L (L I), l⟩] := by
 refine Mc.Ends.c (mc.ends F_impl_lists ?_)
 simp (contextual := true) (maxSteps := 1000000) (disch := omega) only [↓Sd, ↓So, ↓Sk, ↓den, ↓denA, Sa, Sb, Sc, Se, O1.d, O2.d, O3.d, cmI, arI, envOf, putN, ↓reduceIte, Nat.reduceLT, Nat.reduceSub, Nat.reduceAdd, Int.reduceAdd, Int.reduceEq, Int.reduceLT, Int.reduceLE, arr_pos, arr_neg, tr_impl_lists]
 refine mc.lp_for (List (List Int)) (fun i o => [⟨L (L I), l⟩, ⟨I, (l.length : Int)⟩, ⟨I, (i : Int)⟩, ⟨L (L I), o⟩]) (fun i o => o = l.take i) l.length 0 [] _ rfl (Nat.zero_le _) rfl ?_ ?_
 ·rintro i o hi rfl
  have h1 := h _ (getD_mem (d := []) hi)
  have h2 : (l.take i).length ≤ 1048576 := by rw [List.length_take]; omega
  simp (contextual := true) (maxSteps := 1000000) (disch := omega) only [↓Sd, ↓So, ↓Sk, ↓den, ↓denA, Sa, Sb, Sc, Se, O1.d, O2.d, O3.d, cmI, arI, envOf, putN, ↓reduceIte, Nat.reduceLT, Nat.reduceSub, Nat.reduceAdd, Int.reduceAdd, Int.reduceEq, Int.reduceLT, Int.reduceLE, arr_pos, arr_neg, C_impl_clone_int (l.getD i []) h1]
  exact take_next hi
 ·rintro o rfl
  simp (contextual := true) (maxSteps := 1000000) (disch := omega) only [↓Sd, ↓So, ↓Sk, ↓den, ↓denA, Sa, Sb, Sc, Se, O1.d, O2.d, O3.d, cmI, arI, envOf, putN, ↓reduceIte, Nat.reduceLT, Nat.reduceSub, Nat.reduceAdd, Int.reduceAdd, Int.reduceEq, Int.reduceLT, Int.reduceLE, arr_pos, arr_neg, C_impl_clone_Sint _ (by rw [List.length_take]; omega : (l.take l.length).length ≤ 1048576)]
  rw [List.take_length]
structure IsRun (s : Sy) (D : Nat) (f : Nat → List Int) : Prop where
 few : D < 500
 first : f 0 = fst0 s.1
 inr : ∀ e, e ≤ D → inR s.1 (f e)
 rule : ∀ e, e < D → 0 ≤ rbt s (f e) (f (e + 1))
def rules (s : Sy) (f : Nat → List Int) (D : Nat) : List Int := tab (fun e => rbt s (f e) (f (e + 1))) D
theorem IsRun.len {s : Sy} {D : Nat} {f : Nat → List Int} (hv : valid s) (h : IsRun s D f) {e : Nat} (he : e ≤ D) : (f e).length ≤ 1048576 := by
 have := (h.inr e he).1
 have := hv.1.2
 omega
theorem C_impl_TraceOf (s : Sy) (D : Nat) (f : Nat → List Int) (hs : FewSy s) (h : valid s) (hr : IsRun s D f) (Q : List AV → Prop) : mc.C f_impl_TraceOf [⟨L V3, s.1⟩, ⟨L TR, s.2⟩, ⟨L (L I), tab f (D + 1)⟩] Q = Q [⟨L (L I), tab f (D + 1)⟩, ⟨L I, rules s f D⟩, ⟨B, true⟩] := by
 have hl : (tab f (D + 1)).length = D + 1 := tab_len
 have hd := hr.few
 have h0 : (tab f (D + 1)).getD 0 [] = fst0 s.1 := by rw [tab_get (by omega)]; exact hr.first
 have hfl : (fst0 s.1).length ≤ 1048576 := by rw [← hr.first]; exact hr.len h (by omega)
 have hall : ∀ x ∈ tab f (D + 1), x.length ≤ 1048576 := fun x hx => by
  obtain ⟨e, he, rfl⟩ := List.mem_map.1 hx
  exact hr.len h (by have := List.mem_range.1 he; omega)
 refine Mc.Ends.c (mc.ends F_impl_TraceOf ?_)
 simp (contextual := true) (maxSteps := 1000000) (disch := omega) only [↓Sd, ↓So, ↓Sk, ↓den, ↓denA, Sa, Sb, Sc, Se, O1.d, O2.d, O3.d, cmI, arI, envOf, putN, ↓reduceIte, Nat.reduceLT, Nat.reduceSub, Nat.reduceAdd, Int.reduceAdd, Int.reduceEq, Int.reduceLT, Int.reduceLE, arr_pos, arr_neg, tr_impl_TraceOf, C_impl_SystemValid s hs, h, hl, C_impl_in, h0, C_impl_first s h.1.2, C_slices_Equal _ _ hfl hfl, C_impl_lists (tab f (D + 1)) (by omega) hall]
 refine mc.lp_for (List Int) (fun i o => [⟨L (L I), tab f (D + 1)⟩, ⟨I, (i : Int)⟩, ⟨L V3, s.1⟩, ⟨L TR, s.2⟩, ⟨L (L I), tab f (D + 1)⟩, ⟨L I, o⟩]) (fun i o => 1 ≤ i ∧ o = rules s f (i - 1)) (D + 1) 1 [] _ rfl (by omega) ⟨Nat.le_refl _, rfl⟩ ?_ ?_
 ·rintro i o hi ⟨h1, rfl⟩
  obtain ⟨e, rfl⟩ : ∃ e, i = e + 1 := ⟨i - 1, by omega⟩
  have e1 : (((e + 1 : Nat) : Int) - 1).toNat = e := by omega
  have e2 : ((e : Int) + 1).toNat = e + 1 := by omega
  have h2 := hr.rule e (by omega)
  have h3 : (rules s f e).length = e := tab_len
  simp (contextual := true) (maxSteps := 1000000) (disch := omega) only [↓Sd, ↓So, ↓Sk, ↓den, ↓denA, Sa, Sb, Sc, Se, O1.d, O2.d, O3.d, cmI, arI, envOf, putN, ↓reduceIte, Nat.reduceLT, Nat.reduceSub, Nat.reduceAdd, Int.reduceAdd, Int.reduceEq, Int.reduceLT, Int.reduceLE, arr_pos, arr_neg, hl, e1, e2, tab_get (show e < D + 1 by omega), tab_get (show e + 1 < D + 1 by omega), C_impl_RuleBetween s (f e) (f (e + 1)) hs h (hr.inr e (by omega)) (hr.inr (e + 1) (by omega)), Nat.add_sub_cancel]
  exact ⟨by omega, tab_next⟩
 ·rintro o ⟨-, rfl⟩
  have h3 : (rules s f D).length = D := tab_len
  simp (contextual := true) (maxSteps := 1000000) (disch := omega) only [↓Sd, ↓So, ↓Sk, ↓den, ↓denA, Sa, Sb, Sc, Se, O1.d, O2.d, O3.d, cmI, arI, envOf, putN, ↓reduceIte, Nat.reduceLT, Nat.reduceSub, Nat.reduceAdd, Int.reduceAdd, Int.reduceEq, Int.reduceLT, Int.reduceLE, arr_pos, arr_neg, hl, Nat.add_sub_cancel, C_impl_clone_int (rules s f D) (by omega)]
structure IsWay (s : Sy) (l : List Tm) (b D : Nat) (ch : Nat → Nat) : Prop where
 near : nearS s l = b
 lt : b < szn s.1
 holds : holdsN s l b = true
 chain : Chain (steps s) (dS s) (szn s.1) b D ch
theorem way_ex {s : Sy} {l : List Tm} (h : valid s) : nearS s l = -1 ∨ ∃ b D ch, IsWay s l b D ch := by
 rcases @near_spec (holdsN s l) (dS s) (szn s.1) with ⟨h1, -⟩ | ⟨b, h1, h2, h3, h4, -⟩
 ·exact .inl h1
 ·obtain ⟨ch, hc⟩ := chain_ex (steps_tbl h) (first_lt h) (D := (dS s b).toNat) h2 (by have : dst (steps s) [num s.1 (fst0 s.1)] b = dS s b := rfl; omega)
  exact .inr ⟨b, _, ch, h1, h2, h3, hc⟩
noncomputable def wst (s : Sy) (ch : Nat → Nat) (e : Nat) : List Int := stN s (ch e)
theorem Chain.run {s : Sy} {b D : Nat} {ch : Nat → Nat} (h : valid s) (hc : Chain (steps s) (dS s) (szn s.1) b D ch) : IsRun s D (wst s ch) := by
 obtain ⟨m, hm, hmn⟩ := first_n h
 have hz := szn_eq h
 refine ⟨by have := hc.few; omega, ?_, fun e he => stN_in h (hc.2.2 e he).1, fun e he => ?_⟩
 ·have h1 := hc.2.2 0 (by omega)
  have h2 : Lay (steps s) [num s.1 (fst0 s.1)] 0 (ch 0) := dst_le.2 ⟨by have : dst (steps s) [num s.1 (fst0 s.1)] (ch 0) = dS s (ch 0) := rfl; omega, by have : dst (steps s) [num s.1 (fst0 s.1)] (ch 0) = dS s (ch 0) := rfl; omega⟩
  have h3 : ((ch 0 : Nat) : Int) = num s.1 (fst0 s.1) := by simpa [Lay] using h2
  exact stN_first h h3.symm
 ·exact rbt_step h (hc.2.2 e (by omega)).1 (hc.2.1 e he).2.2.1
theorem C_impl_WayTo_no (s : Sy) (l : List Tm) (hs : FewSy s) (hf : Few l) (h : ¬ (valid s ∧ kf l s.1.length = 2)) (Q : List AV → Prop) : mc.C f_impl_WayTo [⟨L V3, s.1⟩, ⟨L TR, s.2⟩, ⟨L T4, l⟩] Q = Q [⟨L (L I), []⟩, ⟨L I, []⟩, ⟨B, false⟩] := by
 refine Mc.Ends.c (mc.ends F_impl_WayTo ?_)
 simp (contextual := true) (maxSteps := 1000000) (disch := omega) only [↓Sd, ↓So, ↓Sk, ↓den, ↓denA, Sa, Sb, Sc, Se, O1.d, O2.d, O3.d, cmI, arI, envOf, putN, ↓reduceIte, Nat.reduceLT, Nat.reduceSub, Nat.reduceAdd, Int.reduceAdd, Int.reduceEq, Int.reduceLT, Int.reduceLE, arr_pos, arr_neg, tr_impl_WayTo, C_impl_truthOf s l hs hf, h]
theorem bstL_bd {f : Nat → Int} {l : List Int} {n : Nat} (h : ∀ x ∈ l, 0 ≤ x ∧ x < (n : Int)) : ∀ {i : Nat}, i ≤ l.length → bstL f (l.take i) = -1 ∨ ∃ k : Nat, bstL f (l.take i) = k ∧ k < n
 | 0, _ => .inl rfl
 | i + 1, hi => by
  have ih := bstL_bd (f := f) h (i := i) (by omega)
  have hx := h _ (getD_mem (d := 0) (show i < l.length by omega))
  rw [← take_next (d := 0) (show i < l.length by omega), bstL_snoc, bst1]
  split
  ·exact .inr ⟨(l.getD i 0).toNat, by omega, by omega⟩
  ·exact ih
theorem prd_first {T : List (List Int)} {f : Nat → Int} {n k a i : Nat} (h : IsPrd T f n k a) (hi : i < (pastL T k n).length) (h1 : f ((pastL T k n).getD i 0).toNat = f k - 1) (h2 : ∀ j, j < i → ¬ f ((pastL T k n).getD j 0).toNat = f k - 1) : (pastL T k n).getD i 0 = a := by
 obtain ⟨x, hx, hxe, hxT⟩ := pastL_mem.1 (getD_mem (d := 0) hi)
 rw [hxe, Int.toNat_natCast] at h1
 have h3 : ¬ x < a := fun g => h.2.2.2 x g ⟨by omega, hxT⟩
 have ha : (a : Int) ∈ pastL T k n := pastL_mem.2 ⟨a, h.1, rfl, h.2.2.1⟩
 obtain ⟨j, hj, hja⟩ := List.mem_iff_getElem.1 ha
 have hja2 : (pastL T k n).getD j 0 = a := by rw [getD_lt hj]; exact hja
 have h4 : ¬ j < i := fun g => h2 j g (by rw [hja2, Int.toNat_natCast]; have := h.2.1; omega)
 have h5 := sorted_get (pastL_sorted (T := T) (k := k) (m := n)) (i := i) (j := j) (by omega) hj
 rw [hja2, hxe] at h5
 rw [hxe]
 omega
theorem prd_some {T : List (List Int)} {f : Nat → Int} {n k a : Nat} (h : IsPrd T f n k a) (h2 : ∀ j, j < (pastL T k n).length → ¬ f ((pastL T k n).getD j 0).toNat = f k - 1) : False := by
 have ha : (a : Int) ∈ pastL T k n := pastL_mem.2 ⟨a, h.1, rfl, h.2.2.1⟩
 obtain ⟨j, hj, hja⟩ := List.mem_iff_getElem.1 ha
 have hja2 : (pastL T k n).getD j 0 = a := by rw [getD_lt hj]; exact hja
 exact h2 j hj (by rw [hja2, Int.toNat_natCast]; have := h.2.1; omega)
theorem C_impl_WayTo_none (s : Sy) (l : List Tm) (hs : FewSy s) (hf : Few l) (h : valid s ∧ kf l s.1.length = 2) (hne : nearS s l = -1) (Q : List AV → Prop) : mc.C f_impl_WayTo [⟨L V3, s.1⟩, ⟨L TR, s.2⟩, ⟨L T4, l⟩] Q = Q [⟨L (L I), []⟩, ⟨L I, []⟩, ⟨B, false⟩] := by
 have hv := h.1
 have hz := szn_eq hv
 have hfi := fst0_in hv.2.2.1
 obtain ⟨m, hm, hmn⟩ := first_n hv
 have htb := steps_tb8 hv
 have hdb := fun k hk => @dS_bd s hv k hk
 have e2 : tab (dst (steps s) [(m : Int)]) (szn s.1) = tab (dS s) (szn s.1) := by rw [← hm]; rfl
 obtain ⟨n, hn⟩ : ∃ n, szn s.1 = n := ⟨_, rfl⟩
 obtain ⟨W, hW⟩ : ∃ W, upTo (holdsN s l) n = W := ⟨_, rfl⟩
 have hWm : ∀ x ∈ W, 0 ≤ x ∧ x < (n : Int) := fun x hx => by rw [← hW] at hx; obtain ⟨k, h1, rfl, _⟩ := upTo_mem.1 hx; omega
 have hWl : W.length ≤ n := by rw [← hW]; exact upTo_len
 have hN : bstL (dS s) (W.take W.length) = -1 := by rw [List.take_length, ← hW, ← hn]; exact hne
 rw [hn] at hz hmn htb e2 hdb
 refine Mc.Ends.c (mc.ends F_impl_WayTo ?_)
 simp (contextual := true) (maxSteps := 1000000) (disch := omega) only [↓Sd, ↓So, ↓Sk, ↓den, ↓denA, Sa, Sb, Sc, Se, O1.d, O2.d, O3.d, cmI, arI, envOf, putN, ↓reduceIte, Nat.reduceLT, Nat.reduceSub, Nat.reduceAdd, Int.reduceAdd, Int.reduceEq, Int.reduceLT, Int.reduceLE, arr_pos, arr_neg, ↓wpJoin, tr_impl_WayTo, C_impl_truthOf s l hs hf, hv, h.2, C_impl_where s l hv (by omega : kf l s.1.length ≠ 0), hn, C_impl_listOf_tab _ n (by omega : n ≤ 1048576), hW, C_impl_nexts s hv, C_impl_first s hv.1.2, C_impl_number s _ hv.1.2 hv.2.2.1 hfi, hm, C_impl_steps (steps s) m n (by omega) (by omega) htb.1, e2]
 refine mc.lp_for Int (fun i b => [⟨I, b⟩, ⟨I, (W.length : Int)⟩, ⟨I, (i : Int)⟩, ⟨L V3, s.1⟩, ⟨L TR, s.2⟩, ⟨L (L I), steps s⟩, ⟨L I, tab (dS s) n⟩, ⟨L I, W⟩]) (fun i b => b = bstL (dS s) (W.take i)) W.length 0 (-1) _ rfl (Nat.zero_le _) rfl ?_ ?_
 ·rintro i bst hi rfl
  have hx := hWm _ (getD_mem (d := 0) hi)
  obtain ⟨x, hxe⟩ : ∃ x : Nat, W.getD i 0 = x := ⟨(W.getD i 0).toNat, by omega⟩
  have hxn : x < n := by omega
  have nx := bstL_snoc (f := dS s) (l := W.take i) (x := (x : Int))
  rw [← hxe, take_next (d := 0) hi, hxe, bst1, Int.toNat_natCast] at nx
  rw [nx]
  rcases bstL_bd (f := dS s) hWm (i := i) (by omega) with hb | ⟨k, hb, hk⟩
  ·rw [hb]
   simp (contextual := true) (maxSteps := 1000000) (disch := omega) only [↓Sd, ↓So, ↓Sk, ↓den, ↓denA, Sa, Sb, Sc, Se, O1.d, O2.d, O3.d, cmI, arI, envOf, putN, ↓reduceIte, Nat.reduceLT, Nat.reduceSub, Nat.reduceAdd, Int.reduceAdd, Int.reduceEq, Int.reduceLT, Int.reduceLE, arr_pos, arr_neg, ↓wpJoin, hxe, Int.toNat_natCast, tab_len, tab_get hxn]
   exact fun _ => by simp
  ·rw [hb, Int.toNat_natCast]
   simp (contextual := true) (maxSteps := 1000000) (disch := omega) only [↓Sd, ↓So, ↓Sk, ↓den, ↓denA, Sa, Sb, Sc, Se, O1.d, O2.d, O3.d, cmI, arI, envOf, putN, ↓reduceIte, Nat.reduceLT, Nat.reduceSub, Nat.reduceAdd, Int.reduceAdd, Int.reduceEq, Int.reduceLT, Int.reduceLE, arr_pos, arr_neg, ↓wpJoin, hxe, Int.toNat_natCast, tab_len, tab_get hxn, tab_get hk]
   exact fun _ => ⟨fun _ => by simp, fun _ => by simp⟩
 ·rintro bst rfl
  simp (contextual := true) (maxSteps := 1000000) (disch := omega) only [↓Sd, ↓So, ↓Sk, ↓den, ↓denA, Sa, Sb, Sc, Se, O1.d, O2.d, O3.d, cmI, arI, envOf, putN, ↓reduceIte, Nat.reduceLT, Nat.reduceSub, Nat.reduceAdd, Int.reduceAdd, Int.reduceEq, Int.reduceLT, Int.reduceLE, arr_pos, arr_neg, ↓wpJoin, hN]
theorem C_impl_WayTo_way (s : Sy) (l : List Tm) (b D : Nat) (ch : Nat → Nat) (hs : FewSy s) (hf : Few l) (h : valid s ∧ kf l s.1.length = 2) (hw : IsWay s l b D ch) (Q : List AV → Prop) : mc.C f_impl_WayTo [⟨L V3, s.1⟩, ⟨L TR, s.2⟩, ⟨L T4, l⟩] Q = Q [⟨L (L I), tab (wst s ch) (D + 1)⟩, ⟨L I, rules s (wst s ch) D⟩, ⟨B, true⟩] := by
 have hv := h.1
 have hz := szn_eq hv
 have hfi := fst0_in hv.2.2.1
 obtain ⟨m, hm, hmn⟩ := first_n hv
 have htb := steps_tb8 hv
 have hdb := fun k hk => @dS_bd s hv k hk
 have e2 : tab (dst (steps s) [(m : Int)]) (szn s.1) = tab (dS s) (szn s.1) := by rw [← hm]; rfl
 obtain ⟨n, hn⟩ : ∃ n, szn s.1 = n := ⟨_, rfl⟩
 obtain ⟨W, hW⟩ : ∃ W, upTo (holdsN s l) n = W := ⟨_, rfl⟩
 have hWm : ∀ x ∈ W, 0 ≤ x ∧ x < (n : Int) := fun x hx => by rw [← hW] at hx; obtain ⟨k, h1, rfl, _⟩ := upTo_mem.1 hx; omega
 have hWl : W.length ≤ n := by rw [← hW]; exact upTo_len
 have hN : bstL (dS s) (W.take W.length) = b := by rw [List.take_length, ← hW, ← hn]; exact hw.near
 rw [hn] at hz hmn htb e2 hdb
 refine Mc.Ends.c (mc.ends F_impl_WayTo ?_)
 simp (contextual := true) (maxSteps := 1000000) (disch := omega) only [↓Sd, ↓So, ↓Sk, ↓den, ↓denA, Sa, Sb, Sc, Se, O1.d, O2.d, O3.d, cmI, arI, envOf, putN, ↓reduceIte, Nat.reduceLT, Nat.reduceSub, Nat.reduceAdd, Int.reduceAdd, Int.reduceEq, Int.reduceLT, Int.reduceLE, arr_pos, arr_neg, ↓wpJoin, tr_impl_WayTo, C_impl_truthOf s l hs hf, hv, h.2, C_impl_where s l hv (by omega : kf l s.1.length ≠ 0), hn, C_impl_listOf_tab _ n (by omega : n ≤ 1048576), hW, C_impl_nexts s hv, C_impl_first s hv.1.2, C_impl_number s _ hv.1.2 hv.2.2.1 hfi, hm, C_impl_steps (steps s) m n (by omega) (by omega) htb.1, e2]
 refine mc.lp_for Int (fun i b => [⟨I, b⟩, ⟨I, (W.length : Int)⟩, ⟨I, (i : Int)⟩, ⟨L V3, s.1⟩, ⟨L TR, s.2⟩, ⟨L (L I), steps s⟩, ⟨L I, tab (dS s) n⟩, ⟨L I, W⟩]) (fun i b => b = bstL (dS s) (W.take i)) W.length 0 (-1) _ rfl (Nat.zero_le _) rfl ?_ ?_
 ·rintro i bst hi rfl
  have hx := hWm _ (getD_mem (d := 0) hi)
  obtain ⟨x, hxe⟩ : ∃ x : Nat, W.getD i 0 = x := ⟨(W.getD i 0).toNat, by omega⟩
  have hxn : x < n := by omega
  have nx := bstL_snoc (f := dS s) (l := W.take i) (x := (x : Int))
  rw [← hxe, take_next (d := 0) hi, hxe, bst1, Int.toNat_natCast] at nx
  rw [nx]
  rcases bstL_bd (f := dS s) hWm (i := i) (by omega) with hb | ⟨k, hb, hk⟩
  ·rw [hb]
   simp (contextual := true) (maxSteps := 1000000) (disch := omega) only [↓Sd, ↓So, ↓Sk, ↓den, ↓denA, Sa, Sb, Sc, Se, O1.d, O2.d, O3.d, cmI, arI, envOf, putN, ↓reduceIte, Nat.reduceLT, Nat.reduceSub, Nat.reduceAdd, Int.reduceAdd, Int.reduceEq, Int.reduceLT, Int.reduceLE, arr_pos, arr_neg, ↓wpJoin, hxe, Int.toNat_natCast, tab_len, tab_get hxn]
   exact fun _ => by simp
  ·rw [hb, Int.toNat_natCast]
   simp (contextual := true) (maxSteps := 1000000) (disch := omega) only [↓Sd, ↓So, ↓Sk, ↓den, ↓denA, Sa, Sb, Sc, Se, O1.d, O2.d, O3.d, cmI, arI, envOf, putN, ↓reduceIte, Nat.reduceLT, Nat.reduceSub, Nat.reduceAdd, Int.reduceAdd, Int.reduceEq, Int.reduceLT, Int.reduceLE, arr_pos, arr_neg, ↓wpJoin, hxe, Int.toNat_natCast, tab_len, tab_get hxn, tab_get hk]
   exact fun _ => ⟨fun _ => by simp, fun _ => by simp⟩
 ·rintro bst rfl
  have hb := hw.lt
  simp (contextual := true) (maxSteps := 1000000) (disch := omega) only [↓Sd, ↓So, ↓Sk, ↓den, ↓denA, Sa, Sb, Sc, Se, O1.d, O2.d, O3.d, cmI, arI, envOf, putN, ↓reduceIte, Nat.reduceLT, Nat.reduceSub, Nat.reduceAdd, Int.reduceAdd, Int.reduceEq, Int.reduceLT, Int.reduceLE, arr_pos, arr_neg, ↓wpJoin, hN, C_impl_pasts (steps s) n htb]
  have hc := hw.chain
  rw [hn] at hc hb
  have hfew := hc.few
  have hpl : (pasts (steps s) n).length = n := pasts_len
  obtain ⟨way, hway⟩ : ∃ way : Nat → List Int, way = fun e => tab (fun i => ((ch (e + i) : Nat) : Int)) (D + 1 - e) := ⟨_, rfl⟩
  have wlen : ∀ e, e ≤ D → (way e).length = D + 1 - e := fun e _ => by rw [hway]; exact tab_len
  have whead : ∀ e, e ≤ D → (way e).getD 0 0 = (ch e : Nat) := fun e he => by rw [hway]; exact tab_get (by omega)
  have wnext : ∀ e, e < D → [((ch e : Nat) : Int)] ++ way (e + 1) = way e := fun e he => by
   rw [hway]
   simp only [tab]
   rw [show D + 1 - e = (D + 1 - (e + 1)) + 1 by omega, List.range_succ_eq_map, List.map_cons, List.map_map]
   simp only [Nat.add_zero, List.singleton_append, List.cons.injEq, true_and]
   refine List.map_congr_left fun i _ => ?_
   simp only [Function.comp]
   rw [show e + 1 + i = e + i.succ by omega]
  refine mc.lp_down Unit (fun e _ => [⟨L V3, s.1⟩, ⟨L TR, s.2⟩, ⟨L I, tab (dS s) n⟩, ⟨L I, way e⟩, ⟨L (L I), pasts (steps s) n⟩]) (fun e _ => e ≤ D) D () _ ?_ (Nat.le_refl _) ?_ ?_
  ·rw [hway]
   simp only [show D + 1 - D = 1 by omega]
   rw [← hc.1]
   rfl
  ·rintro e - he
   have h1 := hc.2.2 (e + 1) he
   have h0 := hc.2.2 e (by omega)
   have h2 := hc.2.1 e (by omega)
   have hl := wlen (e + 1) he
   have hh := whead (e + 1) he
   have hp := @pastL_len (steps s) (ch (e + 1)) htb.2.2 n
   obtain ⟨row, hrow⟩ : ∃ row, pastL (steps s) (ch (e + 1)) n = row := ⟨_, rfl⟩
   have hpg : (pasts (steps s) n).getD (ch (e + 1)) [] = row := by rw [pasts_get h1.1, hrow]
   have hrm : ∀ x ∈ row, 0 ≤ x ∧ x < (n : Int) := fun x hx => by rw [← hrow] at hx; obtain ⟨a, b1, rfl, _⟩ := pastL_mem.1 hx; omega
   rw [hrow] at hp
   simp (contextual := true) (maxSteps := 1000000) (disch := omega) only [↓Sd, ↓So, ↓Sk, ↓den, ↓denA, Sa, Sb, Sc, Se, O1.d, O2.d, O3.d, cmI, arI, envOf, putN, ↓reduceIte, Nat.reduceLT, Nat.reduceSub, Nat.reduceAdd, Int.reduceAdd, Int.reduceEq, Int.reduceLT, Int.reduceLE, arr_pos, arr_neg, hl, hh, Int.toNat_natCast, tab_len, tab_get h1.1, h1.2]
   refine mc.wp_join (fun us => ∃ j : Nat, j < row.length ∧ row.getD j 0 = (ch e : Nat) ∧ us = [⟨I, (j : Int)⟩, ⟨L V3, s.1⟩, ⟨L TR, s.2⟩, ⟨L I, tab (dS s) n⟩, ⟨L I, way (e + 1)⟩, ⟨L (L I), pasts (steps s) n⟩, ⟨I, ((ch (e + 1) : Nat) : Int)⟩]) ?_ ?_
   ·simp (contextual := true) (maxSteps := 1000000) (disch := omega) only [↓Sd, ↓So, ↓Sk, ↓den, ↓denA, Sa, Sb, Sc, Se, O1.d, O2.d, O3.d, cmI, arI, envOf, putN, ↓reduceIte, Nat.reduceLT, Nat.reduceSub, Nat.reduceAdd, Int.reduceAdd, Int.reduceEq, Int.reduceLT, Int.reduceLE, arr_pos, arr_neg, hl, hh, Int.toNat_natCast, tab_len, hpl, hpg]
    refine mc.lp_for Unit (fun i _ => [⟨I, ((ch (e + 1) : Nat) : Int)⟩, ⟨I, (row.length : Int)⟩, ⟨I, (i : Int)⟩, ⟨L (L I), pasts (steps s) n⟩, ⟨L I, tab (dS s) n⟩, ⟨I, ((ch (e + 1) : Nat) : Int)⟩, ⟨L V3, s.1⟩, ⟨L TR, s.2⟩, ⟨L I, way (e + 1)⟩]) (fun i _ => ∀ j, j < i → ¬ dS s (row.getD j 0).toNat = (e : Int)) row.length 0 () _ rfl (Nat.zero_le _) (fun j hj => absurd hj (Nat.not_lt_zero _)) ?_ ?_
    ·rintro i - hi hno
     have hx := hrm _ (getD_mem (d := 0) hi)
     obtain ⟨x, hxe⟩ : ∃ x : Nat, row.getD i 0 = x := ⟨(row.getD i 0).toNat, by omega⟩
     have hxn : x < n := by omega
     simp (contextual := true) (maxSteps := 1000000) (disch := omega) only [↓Sd, ↓So, ↓Sk, ↓den, ↓denA, Sa, Sb, Sc, Se, O1.d, O2.d, O3.d, cmI, arI, envOf, putN, ↓reduceIte, Nat.reduceLT, Nat.reduceSub, Nat.reduceAdd, Int.reduceAdd, Int.reduceEq, Int.reduceLT, Int.reduceLE, arr_pos, arr_neg, Int.toNat_natCast, tab_len, hpg, hxe, tab_get hxn, tab_get h1.1, h1.2]
     refine ⟨fun g => ⟨i, hi, ?_, rfl⟩, fun g j hj => ?_⟩
     ·have := prd_first h2 (i := i) (by rw [hrow]; exact hi) (by rw [hrow, hxe, Int.toNat_natCast, g, h1.2]; omega) (fun j hj => by rw [hrow, h1.2]; intro h; exact hno j hj (by omega))
      rwa [hrow] at this
     ·rcases Nat.lt_succ_iff_lt_or_eq.1 hj with hj | rfl
      ·exact hno j hj
      ·rw [hxe, Int.toNat_natCast]; exact g
    ·rintro - hno
     exact (prd_some h2 (fun j hj => by rw [hrow] at hj ⊢; rw [h1.2]; intro h; exact hno j hj (by omega))).elim
   ·rintro us ⟨j, hj, hje, rfl⟩
    simp (contextual := true) (maxSteps := 1000000) (disch := omega) only [↓Sd, ↓So, ↓Sk, ↓den, ↓denA, Sa, Sb, Sc, Se, O1.d, O2.d, O3.d, cmI, arI, envOf, putN, ↓reduceIte, Nat.reduceLT, Nat.reduceSub, Nat.reduceAdd, Int.reduceAdd, Int.reduceEq, Int.reduceLT, Int.reduceLE, arr_pos, arr_neg, Int.toNat_natCast, hpl, hpg, hje, hl]
    exact ⟨wnext e he, by omega⟩
  ·rintro - -
   have h1 := hc.2.2 0 (by omega)
   have hl := wlen 0 (by omega)
   have hh := whead 0 (by omega)
   simp (contextual := true) (maxSteps := 1000000) (disch := omega) only [↓Sd, ↓So, ↓Sk, ↓den, ↓denA, Sa, Sb, Sc, Se, O1.d, O2.d, O3.d, cmI, arI, envOf, putN, ↓reduceIte, Nat.reduceLT, Nat.reduceSub, Nat.reduceAdd, Int.reduceAdd, Int.reduceEq, Int.reduceLT, Int.reduceLE, arr_pos, arr_neg, hl, hh, Int.toNat_natCast, tab_len, tab_get h1.1, h1.2]
   refine mc.lp_for (List (List Int)) (fun i o => [⟨I, ((D + 1 - 0 : Nat) : Int)⟩, ⟨I, (i : Int)⟩, ⟨L V3, s.1⟩, ⟨L TR, s.2⟩, ⟨L (L I), o⟩, ⟨L I, way 0⟩]) (fun i o => o = tab (wst s ch) i) (D + 1 - 0) 0 [] _ rfl (Nat.zero_le _) rfl ?_ ?_
   ·rintro i o hi rfl
    have hg : (way 0).getD i 0 = (ch i : Nat) := by rw [hway]; simp only []; rw [tab_get (by omega), Nat.zero_add]
    have h3 := hc.2.2 i (by omega)
    have h4 : (tab (wst s ch) i).length = i := tab_len
    simp (contextual := true) (maxSteps := 1000000) (disch := omega) only [↓Sd, ↓So, ↓Sk, ↓den, ↓denA, Sa, Sb, Sc, Se, O1.d, O2.d, O3.d, cmI, arI, envOf, putN, ↓reduceIte, Nat.reduceLT, Nat.reduceSub, Nat.reduceAdd, Int.reduceAdd, Int.reduceEq, Int.reduceLT, Int.reduceLE, arr_pos, arr_neg, hl, hg, C_impl_stateAt s _ hv.1.2 hv.2.2.1 (by omega : (0 : Int) ≤ ((ch i : Nat) : Int) ∧ ((ch i : Nat) : Int) ≤ 3200000)]
    exact tab_next
   ·rintro o rfl
    rw [Nat.sub_zero]
    have hrun : IsRun s D (wst s ch) := hw.chain.run hv
    have hem : (tab (wst s ch) (D + 1)).isEmpty = false := by rw [List.isEmpty_eq_false_iff]; intro h; have := congrArg List.length h; rw [tab_len] at this; simp at this
    simp (contextual := true) (maxSteps := 1000000) (disch := omega) only [↓Sd, ↓So, ↓Sk, ↓den, ↓denA, Sa, Sb, Sc, Se, O1.d, O2.d, O3.d, cmI, arI, envOf, putN, ↓reduceIte, Nat.reduceLT, Nat.reduceSub, Nat.reduceAdd, Int.reduceAdd, Int.reduceEq, Int.reduceLT, Int.reduceLE, arr_pos, arr_neg, ↓wpJoin, C_impl_TraceOf s D (wst s ch) hs hv hrun, hem]
theorem rbt_spec {s : Sy} {a b : List Int} (h : 0 ≤ rbt s a b) : ∃ r : Nat, rbt s a b = r ∧ r < s.2.length ∧ useM s.1 (s.2.getD r ([], [], [])) a ≠ [] ∧ useM s.1 (s.2.getD r ([], [], [])) a = b := by
 by_cases g : ∃ r, r < s.2.length ∧ (useM s.1 (s.2.getD r ([], [], [])) a ≠ [] ∧ useM s.1 (s.2.getD r ([], [], [])) a = b)
 ·obtain ⟨r, h1, h2⟩ := least g
  refine ⟨r, ?_, h1.1, h1.2.1, h1.2.2⟩
  refine fst1_hit (decide_eq_true h1.2) (fun j hj hp => ?_) h1.1
  have := of_decide_eq_true hp
  exact h2 j hj ⟨by omega, this⟩
 ·rw [rbt, fst1_none fun j hj hp => g ⟨j, hj, of_decide_eq_true hp⟩] at h
  omega
theorem C_impl_TraceValid (s : Sy) (D : Nat) (f : Nat → List Int) (hs : FewSy s) (h : valid s) (hr : IsRun s D f) (Q : List AV → Prop) : mc.C f_impl_TraceValid [⟨L V3, s.1⟩, ⟨L TR, s.2⟩, ⟨L (L I), tab f (D + 1)⟩, ⟨L I, rules s f D⟩] Q = Q [⟨B, true⟩] := by
 have hl : (tab f (D + 1)).length = D + 1 := tab_len
 have hlr : (rules s f D).length = D := tab_len
 have hd := hr.few
 have h8 := h.2.1
 have h0 : (tab f (D + 1)).getD 0 [] = fst0 s.1 := by rw [tab_get (by omega)]; exact hr.first
 have hfl : (fst0 s.1).length ≤ 1048576 := by rw [← hr.first]; exact hr.len h (by omega)
 refine Mc.Ends.c (mc.ends F_impl_TraceValid ?_)
 simp (contextual := true) (maxSteps := 1000000) (disch := omega) only [↓Sd, ↓So, ↓Sk, ↓den, ↓denA, Sa, Sb, Sc, Se, O1.d, O2.d, O3.d, cmI, arI, envOf, putN, ↓reduceIte, Nat.reduceLT, Nat.reduceSub, Nat.reduceAdd, Int.reduceAdd, Int.reduceEq, Int.reduceLT, Int.reduceLE, arr_pos, arr_neg, tr_impl_TraceValid, C_impl_SystemValid s hs, h, hl, hlr, C_impl_in, h0, C_impl_first s h.1.2, C_slices_Equal _ _ hfl hfl]
 refine mc.lp_for Unit (fun i _ => [⟨L I, rules s f D⟩, ⟨I, (D : Int)⟩, ⟨I, (i : Int)⟩, ⟨L V3, s.1⟩, ⟨L TR, s.2⟩, ⟨L (L I), tab f (D + 1)⟩, ⟨L I, rules s f D⟩]) (fun _ _ => True) D 0 () _ rfl (Nat.zero_le _) trivial ?_ ?_
 ·rintro i - hi -
  obtain ⟨r, h1, h2, h3, h4⟩ := rbt_spec (hr.rule i hi)
  have hg : (rules s f D).getD i 0 = (r : Int) := by rw [rules, tab_get hi, h1]
  have e2 : ((i : Int) + 1).toNat = i + 1 := by omega
  have h6 := hr.len h (show i + 1 ≤ D by omega)
  have h7 : f (i + 1) ≠ [] := by rw [← h4]; exact h3
  simp (contextual := true) (maxSteps := 1000000) (disch := omega) only [↓Sd, ↓So, ↓Sk, ↓den, ↓denA, Sa, Sb, Sc, Se, O1.d, O2.d, O3.d, cmI, arI, envOf, putN, ↓reduceIte, Nat.reduceLT, Nat.reduceSub, Nat.reduceAdd, Int.reduceAdd, Int.reduceEq, Int.reduceLT, Int.reduceLE, arr_pos, arr_neg, hl, hlr, hg, C_impl_in, tab_get (show i < D + 1 by omega), C_impl_use s (f i) r h (hr.inr i (by omega)) h2, h4, h7, e2, tab_get (show i + 1 < D + 1 by omega), C_slices_Equal (f (i + 1)) (f (i + 1)) h6 h6]
 ·rintro - -
  simp (contextual := true) (maxSteps := 1000000) (disch := omega) only [↓Sd, ↓So, ↓Sk, ↓den, ↓denA, Sa, Sb, Sc, Se, O1.d, O2.d, O3.d, cmI, arI, envOf, putN, ↓reduceIte, Nat.reduceLT, Nat.reduceSub, Nat.reduceAdd, Int.reduceAdd, Int.reduceEq, Int.reduceLT, Int.reduceLE, arr_pos, arr_neg, ]
theorem D_l5Draw (b : List Int) (hb : Byt b) (hl : Lt63 b) {Q : List AV → Prop} (h : ∀ (b' : List Int) (p : Int) (s : Sy) (l : List Tm), SmSy s → l.length ≤ 16 → Q [⟨RD, (b', p)⟩, ⟨L V3, s.1⟩, ⟨L TR, s.2⟩, ⟨L T4, l⟩]) : mc.C f_spec_l5Draw [⟨L U, b⟩] Q := by
 refine mc.c_of F_spec_l5Draw ?_
 simp (contextual := true) (maxSteps := 1000000) (disch := omega) only [↓Sd, ↓So, ↓Sk, ↓den, ↓denA, Sa, Sb, Sc, Se, O1.d, O2.d, O3.d, cmI, arI, envOf, putN, ↓reduceIte, Nat.reduceLT, Nat.reduceSub, Nat.reduceAdd, Int.reduceAdd, Int.reduceEq, Int.reduceLT, Int.reduceLE, arr_pos, arr_neg, tr_spec_l5Draw]
 refine D_open b hb hl fun b hb => ?_
 simp (contextual := true) (maxSteps := 1000000) (disch := omega) only [↓Sd, ↓So, ↓Sk, ↓den, ↓denA, Sa, Sb, Sc, Se, O1.d, O2.d, O3.d, cmI, arI, envOf, putN, ↓reduceIte, Nat.reduceLT, Nat.reduceSub, Nat.reduceAdd, Int.reduceAdd, Int.reduceEq, Int.reduceLT, Int.reduceLE, arr_pos, arr_neg, ]
 refine D_l2Any _ _ _ hb (by omega) fun s p' _ hs => ?_
 have h3 := hs.1
 simp (contextual := true) (maxSteps := 1000000) (disch := omega) only [↓Sd, ↓So, ↓Sk, ↓den, ↓denA, Sa, Sb, Sc, Se, O1.d, O2.d, O3.d, cmI, arI, envOf, putN, ↓reduceIte, Nat.reduceLT, Nat.reduceSub, Nat.reduceAdd, Int.reduceAdd, Int.reduceEq, Int.reduceLT, Int.reduceLE, arr_pos, arr_neg, ]
 refine ⟨fun g => ?_, fun g => ?_⟩
 ·refine D_l1Any _ _ _ hb (by omega) (by omega) fun l p2 h1 h2 h4 => ?_
  simp (contextual := true) (maxSteps := 1000000) (disch := omega) only [↓Sd, ↓So, ↓Sk, ↓den, ↓denA, Sa, Sb, Sc, Se, O1.d, O2.d, O3.d, cmI, arI, envOf, putN, ↓reduceIte, Nat.reduceLT, Nat.reduceSub, Nat.reduceAdd, Int.reduceAdd, Int.reduceEq, Int.reduceLT, Int.reduceLE, arr_pos, arr_neg, ↓wpJoin, ]
  exact h _ _ s l hs h4
 ·refine D_pick1 _ _ _ hb (by omega) (by omega) fun a a0 a1 => ?_; simp (contextual := true) (maxSteps := 1000000) (disch := omega) only [↓Sd, ↓So, ↓Sk, ↓den, ↓denA, Sa, Sb, Sc, Se, O1.d, O2.d, O3.d, cmI, arI, envOf, putN, ↓reduceIte, Nat.reduceLT, Nat.reduceSub, Nat.reduceAdd, Int.reduceAdd, Int.reduceEq, Int.reduceLT, Int.reduceLE, arr_pos, arr_neg, ]
  refine ⟨fun _ => ?_, fun _ => ?_⟩
  ·refine D_l1Any _ _ _ hb (by omega) (by omega) fun l p2 h1 h2 h4 => ?_
   simp (contextual := true) (maxSteps := 1000000) (disch := omega) only [↓Sd, ↓So, ↓Sk, ↓den, ↓denA, Sa, Sb, Sc, Se, O1.d, O2.d, O3.d, cmI, arI, envOf, putN, ↓reduceIte, Nat.reduceLT, Nat.reduceSub, Nat.reduceAdd, Int.reduceAdd, Int.reduceEq, Int.reduceLT, Int.reduceLE, arr_pos, arr_neg, ↓wpJoin, ]
   exact h _ _ s l hs h4
  ·refine mc.lp_for (List Vr) (fun i vs => [⟨I, (i : Int)⟩, ⟨L U, b⟩, ⟨I, p' + 1⟩, ⟨L V3, s.1⟩, ⟨L TR, s.2⟩, ⟨L V3, vs⟩]) (fun i vs => vs.length = i) s.1.length 0 [] _ rfl (Nat.zero_le _) rfl ?_ ?_
   ·rintro i vs hi hv
    simp (contextual := true) (maxSteps := 1000000) (disch := omega) only [↓Sd, ↓So, ↓Sk, ↓den, ↓denA, Sa, Sb, Sc, Se, O1.d, O2.d, O3.d, cmI, arI, envOf, putN, ↓reduceIte, Nat.reduceLT, Nat.reduceSub, Nat.reduceAdd, Int.reduceAdd, Int.reduceEq, Int.reduceLT, Int.reduceLE, arr_pos, arr_neg, ↓wpJoin, C_spec_l2Var (s.1.getD i (0, 0, 0))]
    exact ⟨fun _ => by omega, fun _ => by omega⟩
   ·rintro vs hv
    simp (contextual := true) (maxSteps := 1000000) (disch := omega) only [↓Sd, ↓So, ↓Sk, ↓den, ↓denA, Sa, Sb, Sc, Se, O1.d, O2.d, O3.d, cmI, arI, envOf, putN, ↓reduceIte, Nat.reduceLT, Nat.reduceSub, Nat.reduceAdd, Int.reduceAdd, Int.reduceEq, Int.reduceLT, Int.reduceLE, arr_pos, arr_neg, ]
    refine D_l2When _ _ _ hb (by omega) (by omega) (by omega) fun l p2 h1 h2 => ?_
    simp (contextual := true) (maxSteps := 1000000) (disch := omega) only [↓Sd, ↓So, ↓Sk, ↓den, ↓denA, Sa, Sb, Sc, Se, O1.d, O2.d, O3.d, cmI, arI, envOf, putN, ↓reduceIte, Nat.reduceLT, Nat.reduceSub, Nat.reduceAdd, Int.reduceAdd, Int.reduceEq, Int.reduceLT, Int.reduceLE, arr_pos, arr_neg, ↓wpJoin, ]
    exact h _ _ s l hs (by omega)
theorem D_DrawWayTo (b : List Int) (hb : Byt b) (hl : Lt63 b) {Q : List AV → Prop} (h : ∀ (s : Sy) (l : List Tm), SmSy s → l.length ≤ 16 → Q [⟨L V3, s.1⟩, ⟨L TR, s.2⟩, ⟨L T4, l⟩]) : mc.C f_spec_DrawWayTo [⟨L U, b⟩] Q := by
 refine mc.c_of F_spec_DrawWayTo ?_
 simp (contextual := true) (maxSteps := 1000000) (disch := omega) only [↓Sd, ↓So, ↓Sk, ↓den, ↓denA, Sa, Sb, Sc, Se, O1.d, O2.d, O3.d, cmI, arI, envOf, putN, ↓reduceIte, Nat.reduceLT, Nat.reduceSub, Nat.reduceAdd, Int.reduceAdd, Int.reduceEq, Int.reduceLT, Int.reduceLE, arr_pos, arr_neg, tr_spec_DrawWayTo]
 refine D_l5Draw b hb hl fun b p s l hs h2 => ?_
 simp (contextual := true) (maxSteps := 1000000) (disch := omega) only [↓Sd, ↓So, ↓Sk, ↓den, ↓denA, Sa, Sb, Sc, Se, O1.d, O2.d, O3.d, cmI, arI, envOf, putN, ↓reduceIte, Nat.reduceLT, Nat.reduceSub, Nat.reduceAdd, Int.reduceAdd, Int.reduceEq, Int.reduceLT, Int.reduceLE, arr_pos, arr_neg, ]
 exact h s l hs h2
theorem C_spec_Always (s : Sy) (l : List Tm) (hs : FewSy s) (hf : Few l) (Q : List AV → Prop) : mc.C f_spec_Always [⟨L V3, s.1⟩, ⟨L TR, s.2⟩, ⟨L T4, l⟩] Q = Q [⟨B, dB (valid s ∧ kf l s.1.length = 2 ∧ allIf (rchB s) (holdsN s l) (szn s.1))⟩] := by
 refine Mc.Ends.c (mc.ends F_spec_Always ?_)
 generalize hK : dB (valid s ∧ kf l s.1.length = 2 ∧ allIf (rchB s) (holdsN s l) (szn s.1)) = K
 simp (contextual := true) (maxSteps := 1000000) (disch := omega) only [↓Sd, ↓So, ↓Sk, ↓den, ↓denA, Sa, Sb, Sc, Se, O1.d, O2.d, O3.d, cmI, arI, envOf, putN, ↓reduceIte, Nat.reduceLT, Nat.reduceSub, Nat.reduceAdd, Int.reduceAdd, Int.reduceEq, Int.reduceLT, Int.reduceLE, arr_pos, arr_neg, tr_spec_Always, C_spec_SystemValid s hs, C_spec_l2Is l s.1.length 2 hf (by omega)]
 refine ⟨fun g => by rw [← hK, dB_f fun h => g h.1], fun hv => ⟨fun g => by rw [← hK, dB_f fun h => g h.2.1], fun hk => ?_⟩⟩
 have e : upTo (holdsN s l) (szn s.1) = whr s l := by rw [whr, if_pos ⟨hv, hk⟩]
 have hr := rset_len hv
 have hw := @whr_len s l
 simp (contextual := true) (maxSteps := 1000000) (disch := omega) only [↓Sd, ↓So, ↓Sk, ↓den, ↓denA, Sa, Sb, Sc, Se, O1.d, O2.d, O3.d, cmI, arI, envOf, putN, ↓reduceIte, Nat.reduceLT, Nat.reduceSub, Nat.reduceAdd, Int.reduceAdd, Int.reduceEq, Int.reduceLT, Int.reduceLE, arr_pos, arr_neg, C_spec_ReachOf s hs, if_pos hv, C_spec_StatesWhere s l hs hf hv hk, e, C_spec_SetWithout_a (rset s) (whr s l) (by omega) (by omega)]
 have e2 := mix_without (rset_set hv) (whr_set ⟨hv, hk⟩)
 rw [← hK, beq_dB]
 refine dB_congr ⟨fun g => ⟨hv, hk, fun k hk1 hk2 => ?_⟩, fun g => ?_⟩
 ·have := (whr_mem ⟨hv, hk⟩).1 (e2.1 (by omega) _ (upTo_mem.2 ⟨k, hk1, rfl, hk2⟩))
  rw [Int.toNat_natCast] at this
  exact this.2.2
 ·have := e2.2 fun x hx => by
   obtain ⟨k, h1, rfl, h2⟩ := upTo_mem.1 hx
   exact (whr_mem ⟨hv, hk⟩).2 ⟨by omega, by omega, by rw [Int.toNat_natCast]; exact g.2.2 k h1 h2⟩
  omega
def neg (l : List Tm) : List Tm := l ++ [((7 : Int), (0 : Int), (l.length : Int) - 1, (l.length : Int) - 1)]
def negV (l : List Tm) (vars : Int) : List Tm := if 0 < (kdsOf l vars).length ∧ 0 < (kdsOf (neg l) vars).length then neg l else []
theorem neg_len {l : List Tm} : (neg l).length = l.length + 1 := by simp [neg]
theorem kds_snoc {vars : Int} {t : Tm} : ∀ {l : List Tm} {ks o : List Int}, kds vars (l ++ [t]) ks = some o → ∃ o', kds vars l ks = some o' ∧ kd t o' vars ≠ 0 ∧ o = o' ++ [kd t o' vars]
 | [], ks, o, h => by
  simp only [List.nil_append, kds] at h
  split at h
  ·cases h
  ·rename_i g; exact ⟨ks, rfl, g, (Option.some.inj h).symm⟩
 | x :: l, ks, o, h => by
  simp only [List.cons_append, kds] at h ⊢
  split at h
  ·cases h
  ·rename_i g
   rw [if_neg g]
   exact kds_snoc h
theorem evs_snoc {st : List Int} {t : Tm} : ∀ {l : List Tm} {vs : List Int}, evs st (l ++ [t]) vs = evs st l vs ++ [ev1 st t (evs st l vs)]
 | [], vs => rfl
 | x :: l, vs => by simp only [List.cons_append, evs]; exact evs_snoc
theorem neg_kf {l : List Tm} {vars : Int} (h : 0 < (kdsOf (neg l) vars).length) : kf l vars = 2 ∧ kf (neg l) vars = 2 := by
 have hl := @neg_len l
 have hn : kf (neg l) vars ≠ 0 := by
  rw [← kf_last h]
  unfold kdsOf at h ⊢
  split at h
  ·rename_i h1
   rw [if_pos h1]
   cases ho : kds vars (neg l) [] with
   | none => rw [ho] at h; simp at h
   | some o =>
    obtain ⟨o', h2, h3, rfl⟩ := kds_snoc ho
    simpa using h3
  ·simp at h
 obtain ⟨o, h1, h2, h3⟩ := kf_some hn
 obtain ⟨o', h4, h5, rfl⟩ := kds_snoc h1
 have h6 := kds_len h4
 simp only [List.length_nil, Nat.zero_add] at h6
 have h7 : kd ((7 : Int), (0 : Int), (l.length : Int) - 1, (l.length : Int) - 1) o' vars = 2 := by rw [kd_low h5]; simp
 have h8 : 0 ≤ (l.length : Int) - 1 ∧ o'.getD ((l.length : Int) - 1).toNat 0 = 2 := by
  rcases kd_ne h5 with h | h | h
  ·exact absurd h.1 (show ¬ (7 : Int) = 0 by decide)
  ·exact absurd h.1 (show ¬ (7 : Int) = 1 by decide)
  ·exact ⟨h.2.1.1, (h.2.2.2 (show (7 : Int) ≤ 7 by decide)).1⟩
 constructor
 ·have h9 : (0 ≤ vars ∧ vars ≤ 5) ∧ 1 ≤ l.length ∧ l.length ≤ 40 := by
   unfold kdsOf at h
   split at h
   ·rename_i g; exact ⟨g.1, by omega, by omega⟩
   ·simp at h
  unfold kf kdsOf
  rw [if_pos h9, h4, Option.getD_some, List.getLastD_eq_getLast?, List.getLast?_eq_getElem?, h6]
  have : ((l.length : Int) - 1).toNat = l.length - 1 := by omega
  rw [this, List.getD_eq_getElem?_getD] at h8
  exact h8.2
 ·rw [h3, hl, h7]
  simp only [Nat.add_sub_cancel]
  rw [← h6]
  simp
theorem neg_evl {l : List Tm} {st : List Int} (hl : 1 ≤ l.length) : evl (neg l) st = 1 - evl l st := by
 have h1 := @evs_len st l []
 simp only [List.length_nil, Nat.zero_add] at h1
 have h2 : ((l.length : Int) - 1).toNat = l.length - 1 := by omega
 unfold evl
 rw [neg_len, Nat.add_sub_cancel, neg, evs_snoc, getD_snoc, if_neg (by omega), if_pos h1.symm]
 simp only [ev1, doM, h2]
 simp
theorem negV_few {l : List Tm} {vars : Int} (h : l.length ≤ 1000) : (negV l vars).length ≤ 1001 := by
 unfold negV
 split
 ·rw [neg_len]; omega
 ·simp
theorem C_impl_TermsValid (l : List Tm) (vars : Int) (hl : Few l) (Q : List AV → Prop) : mc.C f_impl_TermsValid [⟨L T4, l⟩, ⟨I, vars⟩] Q = Q [⟨B, !(kdsOf l vars).isEmpty⟩] := by
 refine Mc.Ends.c (mc.ends F_impl_TermsValid ?_)
 simp (contextual := true) (maxSteps := 1000000) (disch := omega) only [↓Sd, ↓So, ↓Sk, ↓den, ↓denA, Sa, Sb, Sc, Se, O1.d, O2.d, O3.d, cmI, arI, envOf, putN, ↓reduceIte, Nat.reduceLT, Nat.reduceSub, Nat.reduceAdd, Int.reduceAdd, Int.reduceEq, Int.reduceLT, Int.reduceLE, arr_pos, arr_neg, tr_impl_TermsValid, C_impl_kindsOf l vars hl]
theorem C_impl_clone_Term (l : List Tm) (hl : l.length ≤ 1048576) (Q : List AV → Prop) : mc.C f_impl_clone_impl_Term [⟨L T4, l⟩] Q = Q [⟨L T4, l⟩] := by
 refine Mc.Ends.c (mc.ends F_impl_clone_impl_Term ?_)
 simp (contextual := true) (maxSteps := 1000000) (disch := omega) only [↓Sd, ↓So, ↓Sk, ↓den, ↓denA, Sa, Sb, Sc, Se, O1.d, O2.d, O3.d, cmI, arI, envOf, putN, ↓reduceIte, Nat.reduceLT, Nat.reduceSub, Nat.reduceAdd, Int.reduceAdd, Int.reduceEq, Int.reduceLT, Int.reduceLE, arr_pos, arr_neg, tr_impl_clone_impl_Term, overL_rep]
 intro h
 exact (List.eq_nil_of_length_eq_zero (by omega)).symm
theorem C_impl_joined7 (l m : List Tm) (hl : 1 ≤ l.length) (hl2 : l.length ≤ 1000) (Q : List AV → Prop) : mc.C f_impl_joined [⟨I, 7⟩, ⟨L T4, l⟩, ⟨L T4, m⟩] Q = Q [⟨L T4, neg l⟩] := by
 have e : mc.C f_slices_Clone_Simpl_Term_impl_Term [⟨L T4, l⟩] = fun Q => Q [⟨L T4, l⟩] := by
  funext Q
  have he : l.isEmpty = false := by rw [List.isEmpty_eq_false_iff]; intro h; rw [h] at hl; simp at hl
  refine Mc.Ends.c (mc.ends F_slices_Clone_Simpl_Term_impl_Term ?_)
  simp (contextual := true) (maxSteps := 1000000) (disch := omega) only [↓Sd, ↓So, ↓Sk, ↓den, ↓denA, Sa, Sb, Sc, Se, O1.d, O2.d, O3.d, cmI, arI, envOf, putN, ↓reduceIte, Nat.reduceLT, Nat.reduceSub, Nat.reduceAdd, Int.reduceAdd, Int.reduceEq, Int.reduceLT, Int.reduceLE, arr_pos, arr_neg, tr_slices_Clone_Simpl_Term_impl_Term, he, List.nil_append]
 refine Mc.Ends.c (mc.ends F_impl_joined ?_)
 simp (contextual := true) (maxSteps := 1000000) (disch := omega) only [↓Sd, ↓So, ↓Sk, ↓den, ↓denA, Sa, Sb, Sc, Se, O1.d, O2.d, O3.d, cmI, arI, envOf, putN, ↓reduceIte, Nat.reduceLT, Nat.reduceSub, Nat.reduceAdd, Int.reduceAdd, Int.reduceEq, Int.reduceLT, Int.reduceLE, arr_pos, arr_neg, tr_impl_joined, e]
 rfl
theorem C_impl_Joined7 (l : List Tm) (vars : Int) (hl : l.length ≤ 1000) (Q : List AV → Prop) : mc.C f_impl_Joined [⟨I, 7⟩, ⟨L T4, l⟩, ⟨L T4, l⟩, ⟨I, vars⟩] Q = Q [⟨L T4, negV l vars⟩] := by
 have hf : Few l := by unfold Few; omega
 have hf2 : Few (neg l) := by unfold Few; rw [neg_len]; omega
 refine Mc.Ends.c (mc.ends F_impl_Joined ?_)
 unfold negV
 by_cases h1 : 0 < (kdsOf l vars).length
 ·have h1e : (kdsOf l vars).isEmpty = false := by rw [List.isEmpty_eq_false_iff]; exact List.length_pos_iff.1 h1
  have hpos : 1 ≤ l.length := by
   unfold kdsOf at h1
   split at h1
   ·rename_i g; exact g.2.1
   ·simp at h1
  by_cases h2 : 0 < (kdsOf (neg l) vars).length
  ·have h2e : (kdsOf (neg l) vars).isEmpty = false := by rw [List.isEmpty_eq_false_iff]; exact List.length_pos_iff.1 h2
   rw [if_pos ⟨h1, h2⟩]
   simp (contextual := true) (maxSteps := 1000000) (disch := omega) only [↓Sd, ↓So, ↓Sk, ↓den, ↓denA, Sa, Sb, Sc, Se, O1.d, O2.d, O3.d, cmI, arI, envOf, putN, ↓reduceIte, Nat.reduceLT, Nat.reduceSub, Nat.reduceAdd, Int.reduceAdd, Int.reduceEq, Int.reduceLT, Int.reduceLE, arr_pos, arr_neg, tr_impl_Joined, C_impl_TermsValid l vars hf, h1e, Bool.not_false, Bool.not_true, C_impl_in, C_impl_joined7 l l hpos hl, C_impl_TermsValid (neg l) vars hf2, h2e, C_impl_clone_Term (neg l) hf2]
  ·have h2e : (kdsOf (neg l) vars).isEmpty = true := by rw [List.isEmpty_iff]; exact List.eq_nil_of_length_eq_zero (by omega)
   rw [if_neg fun h => h2 h.2]
   simp (contextual := true) (maxSteps := 1000000) (disch := omega) only [↓Sd, ↓So, ↓Sk, ↓den, ↓denA, Sa, Sb, Sc, Se, O1.d, O2.d, O3.d, cmI, arI, envOf, putN, ↓reduceIte, Nat.reduceLT, Nat.reduceSub, Nat.reduceAdd, Int.reduceAdd, Int.reduceEq, Int.reduceLT, Int.reduceLE, arr_pos, arr_neg, tr_impl_Joined, C_impl_TermsValid l vars hf, h1e, Bool.not_false, Bool.not_true, C_impl_in, C_impl_joined7 l l hpos hl, C_impl_TermsValid (neg l) vars hf2, h2e]
 ·have h1e : (kdsOf l vars).isEmpty = true := by rw [List.isEmpty_iff]; exact List.eq_nil_of_length_eq_zero (by omega)
  rw [if_neg fun h => h1 h.1]
  simp (contextual := true) (maxSteps := 1000000) (disch := omega) only [↓Sd, ↓So, ↓Sk, ↓den, ↓denA, Sa, Sb, Sc, Se, O1.d, O2.d, O3.d, cmI, arI, envOf, putN, ↓reduceIte, Nat.reduceLT, Nat.reduceSub, Nat.reduceAdd, Int.reduceAdd, Int.reduceEq, Int.reduceLT, Int.reduceLE, arr_pos, arr_neg, tr_impl_Joined, C_impl_TermsValid l vars hf, h1e, Bool.not_false, Bool.not_true]
theorem C_impl_stateOk (st : List Int) (h5 : st.length ≤ 5) (h : ∀ i, i < st.length → -9999 ≤ st.getD i 0 ∧ st.getD i 0 ≤ 9999) (Q : List AV → Prop) : mc.C f_impl_stateOk [⟨L I, st⟩] Q = Q [⟨B, true⟩] := by
 refine Mc.Ends.c (mc.ends F_impl_stateOk ?_)
 simp (contextual := true) (maxSteps := 1000000) (disch := omega) only [↓Sd, ↓So, ↓Sk, ↓den, ↓denA, Sa, Sb, Sc, Se, O1.d, O2.d, O3.d, cmI, arI, envOf, putN, ↓reduceIte, Nat.reduceLT, Nat.reduceSub, Nat.reduceAdd, Int.reduceAdd, Int.reduceEq, Int.reduceLT, Int.reduceLE, arr_pos, arr_neg, tr_impl_stateOk]
 refine mc.lp_for Unit (fun i _ => [⟨L I, st⟩, ⟨I, (st.length : Int)⟩, ⟨I, (i : Int)⟩]) (fun _ _ => True) st.length 0 () _ rfl (Nat.zero_le _) trivial ?_ ?_
 ·rintro i - hi -
  have h1 := h i hi
  simp (contextual := true) (maxSteps := 1000000) (disch := omega) only [↓Sd, ↓So, ↓Sk, ↓den, ↓denA, Sa, Sb, Sc, Se, O1.d, O2.d, O3.d, cmI, arI, envOf, putN, ↓reduceIte, Nat.reduceLT, Nat.reduceSub, Nat.reduceAdd, Int.reduceAdd, Int.reduceEq, Int.reduceLT, Int.reduceLE, arr_pos, arr_neg, C_impl_in, h1]
 ·rintro - -
  simp (contextual := true) (maxSteps := 1000000) (disch := omega) only [↓Sd, ↓So, ↓Sk, ↓den, ↓denA, Sa, Sb, Sc, Se, O1.d, O2.d, O3.d, cmI, arI, envOf, putN, ↓reduceIte, Nat.reduceLT, Nat.reduceSub, Nat.reduceAdd, Int.reduceAdd, Int.reduceEq, Int.reduceLT, Int.reduceLE, arr_pos, arr_neg, ]
  rfl
theorem C_impl_Eval (l : List Tm) (st : List Int) (hl : Few l) (h5 : st.length ≤ 5) (hb : Bds st) (hk : kf l st.length ≠ 0) (Q : List AV → Prop) : mc.C f_impl_Eval [⟨L T4, l⟩, ⟨L I, st⟩] Q = Q [⟨I, evl l st⟩, ⟨B, true⟩] := by
 have he : (kdsOf l st.length).isEmpty = false := by
  rw [List.isEmpty_eq_false_iff]
  intro h
  exact hk (kf_nil (by rw [h]; simp))
 refine Mc.Ends.c (mc.ends F_impl_Eval ?_)
 simp (contextual := true) (maxSteps := 1000000) (disch := omega) only [↓Sd, ↓So, ↓Sk, ↓den, ↓denA, Sa, Sb, Sc, Se, O1.d, O2.d, O3.d, cmI, arI, envOf, putN, ↓reduceIte, Nat.reduceLT, Nat.reduceSub, Nat.reduceAdd, Int.reduceAdd, Int.reduceEq, Int.reduceLT, Int.reduceLE, arr_pos, arr_neg, tr_impl_Eval, C_impl_stateOk st h5 hb, C_impl_TermsValid l st.length hl, he, Bool.not_false, Bool.not_true, C_impl_eval l st st.length hk hb rfl]
theorem D_DrawAlways (b : List Int) (hb : Byt b) (hl : Lt63 b) {Q : List AV → Prop} (h : ∀ (s : Sy) (l : List Tm), SmSy s → l.length ≤ 16 → Q [⟨L V3, s.1⟩, ⟨L TR, s.2⟩, ⟨L T4, l⟩]) : mc.C f_spec_DrawAlways [⟨L U, b⟩] Q := by
 refine mc.c_of F_spec_DrawAlways ?_
 simp (contextual := true) (maxSteps := 1000000) (disch := omega) only [↓Sd, ↓So, ↓Sk, ↓den, ↓denA, Sa, Sb, Sc, Se, O1.d, O2.d, O3.d, cmI, arI, envOf, putN, ↓reduceIte, Nat.reduceLT, Nat.reduceSub, Nat.reduceAdd, Int.reduceAdd, Int.reduceEq, Int.reduceLT, Int.reduceLE, arr_pos, arr_neg, tr_spec_DrawAlways]
 refine D_DrawWayTo b hb hl fun s l hs h2 => ?_
 simp (contextual := true) (maxSteps := 1000000) (disch := omega) only [↓Sd, ↓So, ↓Sk, ↓den, ↓denA, Sa, Sb, Sc, Se, O1.d, O2.d, O3.d, cmI, arI, envOf, putN, ↓reduceIte, Nat.reduceLT, Nat.reduceSub, Nat.reduceAdd, Int.reduceAdd, Int.reduceEq, Int.reduceLT, Int.reduceLE, arr_pos, arr_neg, ]
 exact h s l hs h2
def alw (s : Sy) (l : List Tm) : Prop := valid s ∧ kf l s.1.length = 2 ∧ allIf (rchB s) (holdsN s l) (szn s.1)
theorem dS_rch {s : Sy} {k : Nat} : 0 ≤ dS s k ↔ rchB s k = true := by rw [rchB, dB_iff]; exact dst_rch
theorem neg_holds {s : Sy} {l : List Tm} (hv : valid s) (hk : kf l s.1.length = 2) {k : Nat} (hkn : k < szn s.1) : holdsN s (neg l) k = !holdsN s l k := by
 have hst := stN_in hv hkn
 obtain ⟨o, h1, h2, h3⟩ := kf_some (l := l) (vars := s.1.length) (by omega)
 have hb : Bit (evl l (stN s k)) := evl_bit hk (hst.bds hv.2.2.1) (by rw [hst.1])
 unfold holdsN
 rw [neg_evl h2.1]
 rcases hb with h | h <;> rw [h] <;> rfl
theorem alw_prv {s : Sy} {l : List Tm} (h : alw s l) : prv s l (rset s) := by
 have hv := h.1
 have hz := szn_eq hv
 obtain ⟨m, hm, hmn⟩ := first_n hv
 have ht := steps_tbl hv
 have hset : setV s (rset s) := ⟨hv, by rw [← hz.1]; exact upTo_lset (Nat.le_refl _)⟩
 refine ⟨h.2.1, ⟨hset, ?_, fun x hx => ?_⟩, fun x hx => ?_⟩
 ·rw [hm]
  exact upTo_mem.2 ⟨m, hmn, rfl, dB_t (by rw [hm]; exact Rch.one)⟩
 ·obtain ⟨k, h1, rfl, y, h2, h3⟩ := (nextN_mem hset).1 hx
  obtain ⟨a, h4, rfl, h5⟩ := upTo_mem.1 h2
  rw [Int.toNat_natCast] at h3
  exact upTo_mem.2 ⟨k, h1, rfl, dB_t (.step (dB_iff.1 h5) h3)⟩
 ·obtain ⟨k, h1, rfl, h2⟩ := upTo_mem.1 hx
  rw [Int.toNat_natCast]
  exact h.2.2 k h1 h2
theorem law_FnAlwaysOrWay (b : List Int) (hb : Byt b) (hl : Lt63 b) : mc.C f_laws_FnAlwaysOrWay [⟨L U, b⟩] (· = [⟨B, true⟩]) := by
 refine mc.c_of F_laws_FnAlwaysOrWay ?_
 simp (contextual := true) (maxSteps := 1000000) (disch := omega) only [↓Sd, ↓So, ↓Sk, ↓den, ↓denA, Sa, Sb, Sc, Se, O1.d, O2.d, O3.d, cmI, arI, envOf, putN, ↓reduceIte, Nat.reduceLT, Nat.reduceSub, Nat.reduceAdd, Int.reduceAdd, Int.reduceEq, Int.reduceLT, Int.reduceLE, arr_pos, arr_neg, tr_laws_FnAlwaysOrWay]
 intro _
 refine D_DrawAlways b hb hl fun s l hss hl2 => ?_
 have hs := hss.few
 have hf : Few l := by unfold Few; omega
 obtain ⟨A, hA⟩ : ∃ A, dB (valid s ∧ kf l s.1.length = 2 ∧ allIf (rchB s) (holdsN s l) (szn s.1)) = A := ⟨_, rfl⟩
 simp (contextual := true) (maxSteps := 1000000) (disch := omega) only [↓Sd, ↓So, ↓Sk, ↓den, ↓denA, Sa, Sb, Sc, Se, O1.d, O2.d, O3.d, cmI, arI, envOf, putN, ↓reduceIte, Nat.reduceLT, Nat.reduceSub, Nat.reduceAdd, Int.reduceAdd, Int.reduceEq, Int.reduceLT, Int.reduceLE, arr_pos, arr_neg, C_impl_Always s l hs hf, C_spec_Always s l hs hf, hA, C_impl_SystemValid s hs, C_spec_SystemValid s hs]
 intro hv
 have hz := szn_eq hv
 obtain ⟨J, hJ⟩ : ∃ J, negV l s.1.length = J := ⟨_, rfl⟩
 have hJl : J.length ≤ 1001 := by rw [← hJ]; exact negV_few (by omega)
 have hJf : Few J := by unfold Few; omega
 have hJc : J = [] ∨ (J = neg l ∧ kf l s.1.length = 2 ∧ kf (neg l) s.1.length = 2) := by
  rw [← hJ, negV]
  split
  ·rename_i g; exact .inr ⟨rfl, neg_kf g.2⟩
  ·exact .inl rfl
 simp (contextual := true) (maxSteps := 1000000) (disch := omega) only [↓Sd, ↓So, ↓Sk, ↓den, ↓denA, Sa, Sb, Sc, Se, O1.d, O2.d, O3.d, cmI, arI, envOf, putN, ↓reduceIte, Nat.reduceLT, Nat.reduceSub, Nat.reduceAdd, Int.reduceAdd, Int.reduceEq, Int.reduceLT, Int.reduceLE, arr_pos, arr_neg, C_impl_Joined7 l s.1.length (by omega), hJ]
 rcases hJc with rfl | ⟨hJe, hk, hk2⟩
 ·have hno : ¬ (valid s ∧ kf [] s.1.length = 2) := fun h => by
   have : kf [] (s.1.length : Int) = 0 := kf_nil (by unfold kdsOf; rw [if_neg (by simp)]; simp)
   omega
  have hrl := rset_len hv
  simp (contextual := true) (maxSteps := 1000000) (disch := omega) only [↓Sd, ↓So, ↓Sk, ↓den, ↓denA, Sa, Sb, Sc, Se, O1.d, O2.d, O3.d, cmI, arI, envOf, putN, ↓reduceIte, Nat.reduceLT, Nat.reduceSub, Nat.reduceAdd, Int.reduceAdd, Int.reduceEq, Int.reduceLT, Int.reduceLE, arr_pos, arr_neg, C_impl_WayTo_no s [] hs hJf hno, C_impl_ReachOf s hs, if_pos hv]
  intro h
  have hAt : alw s l := ⟨hv, dB_iff.1 h⟩
  simp (contextual := true) (maxSteps := 1000000) (disch := omega) only [↓Sd, ↓So, ↓Sk, ↓den, ↓denA, Sa, Sb, Sc, Se, O1.d, O2.d, O3.d, cmI, arI, envOf, putN, ↓reduceIte, Nat.reduceLT, Nat.reduceSub, Nat.reduceAdd, Int.reduceAdd, Int.reduceEq, Int.reduceLT, Int.reduceLE, arr_pos, arr_neg, C_impl_Proves s l (rset s) hs hf (by omega), dB_t (alw_prv hAt)]
 ·have hJ2 : kf J s.1.length = 2 := by rw [hJe]; exact hk2
  rcases way_ex (s := s) (l := J) hv with hn | ⟨k, D, ch, hw⟩
  ·have hAt : alw s l := by
    refine ⟨hv, hk, fun k hk1 hk3 => ?_⟩
    rcases @near_spec (holdsN s J) (dS s) (szn s.1) with ⟨c1, c2⟩ | ⟨b', c1, -⟩
    ·cases hh : holdsN s l k with
     | true => rfl
     | false =>
      have h1 := c2 k hk1 (by rw [hJe, neg_holds hv hk hk1, hh]; rfl)
      have h2 := dS_rch.2 hk3
      omega
    ·unfold nearS at hn; omega
   have hP := alw_prv hAt
   have hrl := rset_len hv
   simp (contextual := true) (maxSteps := 1000000) (disch := omega) only [↓Sd, ↓So, ↓Sk, ↓den, ↓denA, Sa, Sb, Sc, Se, O1.d, O2.d, O3.d, cmI, arI, envOf, putN, ↓reduceIte, Nat.reduceLT, Nat.reduceSub, Nat.reduceAdd, Int.reduceAdd, Int.reduceEq, Int.reduceLT, Int.reduceLE, arr_pos, arr_neg, C_impl_WayTo_none s J hs hJf ⟨hv, hJ2⟩ hn, C_impl_ReachOf s hs, if_pos hv, C_impl_Proves s l (rset s) hs hf (by omega), dB_t hP]
   exact fun g => absurd (dB_t hAt.2) g
  ·have hc := hw.chain
   have hr := hc.run hv
   have hkn := hw.lt
   have hh : holdsN s l k = false := by
    have := hw.holds
    rw [hJe, neg_holds hv hk hkn] at this
    simpa using this
   have hAf : ¬ alw s l := fun h => by
    have h1 := hc.2.2 D (Nat.le_refl _)
    rw [hc.1] at h1
    have := h.2.2 k hkn (dS_rch.1 (by omega))
    rw [hh] at this
    cases this
   have hA' : A = false := by rw [← hA]; exact dB_f hAf
   subst hA'
   have hst := stN_in hv hkn
   have h5 := hv.1.2
   have hsl := hst.1
   have hX : (tab (wst s ch) (D + 1)).length = D + 1 := tab_len
   have hlast : (tab (wst s ch) (D + 1)).getD D [] = stN s k := by rw [tab_get (by omega), wst, hc.1]
   have hd := hr.few
   have hkl : kf l (stN s k).length ≠ 0 := by rw [hst.1]; omega
   have hev : evl l (stN s k) = 0 := by
    rcases evl_bit (l := l) hk (hst.bds hv.2.2.1) (by rw [hst.1]) with h | h
    ·exact h
    ·unfold holdsN at hh; rw [h] at hh; cases hh
   simp (contextual := true) (maxSteps := 1000000) (disch := omega) only [↓Sd, ↓So, ↓Sk, ↓den, ↓denA, Sa, Sb, Sc, Se, O1.d, O2.d, O3.d, cmI, arI, envOf, putN, ↓reduceIte, Nat.reduceLT, Nat.reduceSub, Nat.reduceAdd, Int.reduceAdd, Int.reduceEq, Int.reduceLT, Int.reduceLE, arr_pos, arr_neg, C_impl_WayTo_way s J k D ch hs hJf ⟨hv, hJ2⟩ hw, hX, hlast, C_impl_Eval l (stN s k) hf (by omega) (hst.bds hv.2.2.1) hkl, hev, C_impl_TraceValid s D (wst s ch) hs hv hr]
   have hJp : J.length = l.length + 1 := by rw [hJe, neg_len]
   exact ⟨fun g => hAf ⟨hv, dB_iff.1 g⟩, fun _ g => by omega⟩
end Go.Proofs.YtdcdnfcmllfmlaaGreat
