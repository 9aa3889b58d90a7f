/- What the trees come to: plain mathematics; no condition. -/
import Derived.Test.YtplibobhcjgcmaaGreatSmMath0
namespace Go.Proofs.YtplibobhcjgcmaaGreat
open Go Go.Sm Go.Sm.Q
set_option linter.unusedSimpArgs false
set_option linter.unusedVariables false
theorem mk_RuleS (l : List Ru) (k : Int) (hk : 0 ≤ k ∧ k ≤ 4400000000000000000) (hl : Few l) (hl2 : ∀ x ∈ l, FewRu x) {Q : List AV → Prop} (h : ∀ k' l', k ≤ k' ∧ k' ≤ k + 4611691515985526784 → Q [⟨I, k'⟩, ⟨L TR, l'⟩]) : mc.C f_laws_markRuleS [⟨L TR, l⟩, ⟨I, k⟩] Q := by
 have hl := few_lim hl
 refine mc.c_of F_laws_markRuleS ?_
 simp (contextual := true) (maxSteps := 1000000) (disch := omega) only [↓Sd, ↓So, ↓Sk, ↓den, ↓denA, Sa, Sb, Sc, Se, O1.d, O2.d, O3.d, cmI, arI, envOf, putN, ↓reduceIte, Nat.reduceLT, Nat.reduceSub, Nat.reduceAdd, Int.reduceAdd, Int.reduceEq, Int.reduceLT, Int.reduceLE, arr_pos, arr_neg, tr_laws_markRuleS]
 refine mc.lp_for (Int × List Ru) (fun i s => [⟨I, s.1⟩, ⟨I, (i : Int)⟩, ⟨L TR, s.2⟩]) (fun i s => (k ≤ s.1 ∧ s.1 ≤ k + 4398051753984 * (i : Int)) ∧ Same l s.2 ([], [], []) i) l.length 0 (k, l) _ (by simp) (Nat.zero_le _) ⟨⟨by simp, by simp⟩, Same.refl⟩ ?_ ?_
 ·rintro i ⟨m, s⟩ hi ⟨⟨hm1, hm2⟩, hs⟩
  simp only at hm1 hm2 hs
  have hsl := hs.1
  have hsi := hs.2 i (Nat.le_refl _)
  obtain ⟨c1, c2, c3, c4⟩ := hl2 _ (getD_mem (d := ([], [], [])) hi)
  have c1' := few_lim c1
  have c2' := few_lim c2
  obtain ⟨r, hr⟩ : ∃ r, l.getD i ([], [], []) = r := ⟨_, rfl⟩
  rw [hr] at hsi c1 c2 c3 c4 c1' c2'
  simp (contextual := true) (maxSteps := 1000000) (disch := omega) only [↓Sd, ↓So, ↓Sk, ↓den, ↓denA, Sa, Sb, Sc, Se, O1.d, O2.d, O3.d, cmI, arI, envOf, putN, ↓reduceIte, Nat.reduceLT, Nat.reduceSub, Nat.reduceAdd, Int.reduceAdd, Int.reduceEq, Int.reduceLT, Int.reduceLE, arr_pos, arr_neg, hsi]
  refine mk_TermS r.1 m (by omega) c1 fun l1 => ?_
  simp (contextual := true) (maxSteps := 1000000) (disch := omega) only [↓Sd, ↓So, ↓Sk, ↓den, ↓denA, Sa, Sb, Sc, Se, O1.d, O2.d, O3.d, cmI, arI, envOf, putN, ↓reduceIte, Nat.reduceLT, Nat.reduceSub, Nat.reduceAdd, Int.reduceAdd, Int.reduceEq, Int.reduceLT, Int.reduceLE, arr_pos, arr_neg, hsi, List.length_set, getD_set_eq, List.set_set, mk_IntS r.2.1 (m + 4 * r.1.length) (by omega) (by omega)]
  refine mk_TermSS r.2.2 _ (by omega) c3 c4 fun k' l' hk' => ?_
  simp (contextual := true) (maxSteps := 1000000) (disch := omega) only [↓Sd, ↓So, ↓Sk, ↓den, ↓denA, Sa, Sb, Sc, Se, O1.d, O2.d, O3.d, cmI, arI, envOf, putN, ↓reduceIte, Nat.reduceLT, Nat.reduceSub, Nat.reduceAdd, Int.reduceAdd, Int.reduceEq, Int.reduceLT, Int.reduceLE, arr_pos, arr_neg, hsi, List.length_set, getD_set_eq, List.set_set]
  exact ⟨(_, _), ⟨rfl, rfl⟩, ⟨by omega, by omega⟩, hs.set⟩
 ·rintro ⟨m, s⟩ ⟨⟨hm1, hm2⟩, hs⟩
  simp only at hm1 hm2 hs
  have hsl := hs.1
  simp (contextual := true) (maxSteps := 1000000) (disch := omega) only [↓Sd, ↓So, ↓Sk, ↓den, ↓denA, Sa, Sb, Sc, Se, O1.d, O2.d, O3.d, cmI, arI, envOf, putN, ↓reduceIte, Nat.reduceLT, Nat.reduceSub, Nat.reduceAdd, Int.reduceAdd, Int.reduceEq, Int.reduceLT, Int.reduceLE, arr_pos, arr_neg, ]
  exact h m s ⟨by omega, by omega⟩
theorem mk_System (s : Sy) (k : Int) (hk : 0 ≤ k ∧ k ≤ 4000000000000000000) (h : FewSy s) {Q : List AV → Prop} (hQ : ∀ k' v r, k ≤ k' ∧ k' ≤ k + 4611691515988672512 → Q [⟨I, k'⟩, ⟨L V3, v⟩, ⟨L TR, r⟩]) : mc.C f_laws_markSystem [⟨L V3, s.1⟩, ⟨L TR, s.2⟩, ⟨I, k⟩] Q := by
 obtain ⟨h1, h2, h3⟩ := h
 have h1' := few_lim h1
 refine mc.c_of F_laws_markSystem ?_
 simp (contextual := true) (maxSteps := 1000000) (disch := omega) only [↓Sd, ↓So, ↓Sk, ↓den, ↓denA, Sa, Sb, Sc, Se, O1.d, O2.d, O3.d, cmI, arI, envOf, putN, ↓reduceIte, Nat.reduceLT, Nat.reduceSub, Nat.reduceAdd, Int.reduceAdd, Int.reduceEq, Int.reduceLT, Int.reduceLE, arr_pos, arr_neg, tr_laws_markSystem]
 refine mk_VarS _ k (by omega) h1 fun l' => ?_
 simp (contextual := true) (maxSteps := 1000000) (disch := omega) only [↓Sd, ↓So, ↓Sk, ↓den, ↓denA, Sa, Sb, Sc, Se, O1.d, O2.d, O3.d, cmI, arI, envOf, putN, ↓reduceIte, Nat.reduceLT, Nat.reduceSub, Nat.reduceAdd, Int.reduceAdd, Int.reduceEq, Int.reduceLT, Int.reduceLE, arr_pos, arr_neg, ]
 refine mk_RuleS _ _ (by omega) h2 h3 fun k' r hk' => ?_
 simp (contextual := true) (maxSteps := 1000000) (disch := omega) only [↓Sd, ↓So, ↓Sk, ↓den, ↓denA, Sa, Sb, Sc, Se, O1.d, O2.d, O3.d, cmI, arI, envOf, putN, ↓reduceIte, Nat.reduceLT, Nat.reduceSub, Nat.reduceAdd, Int.reduceAdd, Int.reduceEq, Int.reduceLT, Int.reduceLE, arr_pos, arr_neg, ]
 exact hQ k' _ r ⟨by omega, by omega⟩
theorem upTo_few {p : Nat → Bool} {s : Sy} (h : valid s) : (upTo p (szn s.1)).length ≤ 400 := by
 have h1 := @upTo_len p (szn s.1)
 have h2 := szn_eq h
 omega
theorem few_i {l : List Int} (h : l.length ≤ 1048576) : Few l := h
theorem first_n {s : Sy} (h : valid s) : ∃ m : Nat, num s.1 (fst0 s.1) = m ∧ m < szn s.1 := by
 have h1 := num_bd h.2.2.1 (fst0_in h.2.2.1)
 have h2 := szn_eq h
 exact ⟨(num s.1 (fst0 s.1)).toNat, by omega, by omega⟩
theorem upTo_marks {p : Nat → Bool} {n : Nat} : tab (fun k => dB ((k : Int) ∈ upTo p n)) n = tab p n := tab_congr fun k hk => by rw [dB_upTo]; simp [hk]
theorem upTo_pos {p : Nat → Bool} {n : Nat} : 0 < (upTo p n).length ↔ ∃ k, k < n ∧ p k = true := by
 constructor
 ·intro h
  obtain ⟨k, h1, _, h3⟩ := upTo_mem.1 (getD_mem (d := 0) h)
  exact ⟨k, h1, h3⟩
 ·rintro ⟨k, h1, h2⟩
  exact List.length_pos_of_mem (upTo_mem.2 ⟨k, h1, rfl, h2⟩)
theorem wrap_u64 {n : Nat} (h : n < 18446744073709551616) : IntKind.u64.wrap (n : Int) = n := by
 unfold IntKind.wrap
 simp only [IntKind.bits, IntKind.signed]
 have : ((n : Int) % (2 : Int) ^ 64) = n := by omega
 simpa using this
theorem fd64 {n : Nat} (h : n < 4294967296) : (n : Int).fdiv (2 ^ min (Int.toNat 32) IntKind.u64.bits) = 0 := by
 have : min (Int.toNat 32) IntKind.u64.bits = 32 := by decide
 rw [this, Int.fdiv_eq_ediv_of_nonneg _ (by decide)]
 omega
theorem sh64 {n : Nat} (h : n < 4294967296) : shI false .u64 (n : Int) 32 = 0 := by
 unfold shI
 simp only [Bool.false_eq_true, if_false]
 exact fd64 h
theorem and64 {n : Nat} (h : n < 4294967296) : IntKind.u64.wrap ((BitVec.ofInt IntKind.u64.bits (n : Int) &&& BitVec.ofInt IntKind.u64.bits 4294967295).toNat : Int) = n := by
 have h1 : (BitVec.ofInt IntKind.u64.bits (n : Int) &&& BitVec.ofInt IntKind.u64.bits 4294967295).toNat = n := by
  rw [BitVec.toNat_and]
  have e1 : (BitVec.ofInt IntKind.u64.bits (n : Int)).toNat = n := by
   rw [BitVec.toNat_ofInt]
   show Int.toNat ((n : Int) % (2 : Int) ^ 64) = n
   omega
  have e2 : (BitVec.ofInt IntKind.u64.bits 4294967295).toNat = 2 ^ 32 - 1 := by decide
  rw [e1, e2, Nat.and_two_pow_sub_one_eq_mod, Nat.mod_eq_of_lt h]
 rw [h1]
 exact wrap_u64 (by omega)
theorem C_math_bits_Mul1 (n : Nat) (h : n ≤ 1048576) (Q : List AV → Prop) : mc.C f_math_bits_Mul [⟨.int .u64, (1 : Int)⟩, ⟨.int .u64, (n : Int)⟩] Q = Q [⟨.int .u64, (0 : Int)⟩, ⟨.int .u64, (n : Int)⟩] := by
 have e1 : mc.C f_math_bits_Mul64 [⟨.int .u64, (1 : Int)⟩, ⟨.int .u64, (n : Int)⟩] = fun Q => Q [⟨.int .u64, (0 : Int)⟩, ⟨.int .u64, (n : Int)⟩] := by
  funext Q
  refine Mc.Ends.c (mc.ends F_math_bits_Mul64 ?_)
  have s1 : shI false .u64 1 32 = 0 := sh64 (n := 1) (by omega)
  have s0 : shI false .u64 0 32 = 0 := sh64 (n := 0) (by omega)
  have sn := sh64 (n := n) (by omega)
  have a1 : IntKind.u64.wrap ((BitVec.ofInt IntKind.u64.bits 1 &&& BitVec.ofInt IntKind.u64.bits 4294967295).toNat : Int) = 1 := and64 (n := 1) (by omega)
  have a0 : IntKind.u64.wrap ((BitVec.ofInt IntKind.u64.bits 0 &&& BitVec.ofInt IntKind.u64.bits 4294967295).toNat : Int) = 0 := and64 (n := 0) (by omega)
  have an := and64 (n := n) (by omega)
  have w := wrap_u64 (n := n) (by omega)
  have w0 : IntKind.u64.wrap 0 = 0 := by decide
  simp (contextual := true) (maxSteps := 1000000) (disch := omega) only [↓Sd, ↓So, ↓Sk, ↓den, ↓denA, Sa, Sb, Sc, Se, O1.d, O2.d, O3.d, cmI, arI, envOf, putN, ↓reduceIte, Nat.reduceLT, Nat.reduceSub, Nat.reduceAdd, Int.reduceAdd, Int.reduceEq, Int.reduceLT, Int.reduceLE, arr_pos, arr_neg, tr_math_bits_Mul64, s1, s0, sn, a1, an, a0, w, w0, Int.zero_mul, Int.mul_zero, Int.one_mul, Int.add_zero, Int.zero_add]
 refine Mc.Ends.c (mc.ends F_math_bits_Mul ?_)
 simp (contextual := true) (maxSteps := 1000000) (disch := omega) only [↓Sd, ↓So, ↓Sk, ↓den, ↓denA, Sa, Sb, Sc, Se, O1.d, O2.d, O3.d, cmI, arI, envOf, putN, ↓reduceIte, Nat.reduceLT, Nat.reduceSub, Nat.reduceAdd, Int.reduceAdd, Int.reduceEq, Int.reduceLT, Int.reduceLE, arr_pos, arr_neg, tr_math_bits_Mul, e1]
def reps (k n : Nat) (v : Int) : List Int := List.replicate k v ++ List.replicate (n - k) 0
theorem reps_len {k n : Nat} {v : Int} (h : k ≤ n) : (reps k n v).length = n := by simp [reps]; omega
theorem reps_over0 {n : Nat} {v : Int} : overL (List.replicate n (0 : Int)) [v] = reps (min 1 n) n v := by
 cases n with
 | zero => simp [overL, reps]
 | succ n =>
  have : min 1 (n + 1) = 1 := by omega
  rw [this]
  simp [overL, reps, List.replicate_succ]
theorem reps_next {k n : Nat} {v : Int} (h : k ≤ n) : (reps k n v).take k ++ overL (((reps k n v).take n).drop k) (((reps k n v).take k).drop 0) ++ (reps k n v).drop n = reps (k + min k (n - k)) n v := by
 have e1 : (reps k n v).take k = List.replicate k v := by simp [reps]
 have e2 : (reps k n v).take n = reps k n v := List.take_of_length_le (by rw [reps_len h]; omega)
 have e3 : (reps k n v).drop n = [] := List.drop_eq_nil_of_le (by rw [reps_len h]; omega)
 have e4 : (reps k n v).drop k = List.replicate (n - k) 0 := by simp [reps]
 rw [e1, e2, e3, e4, List.drop_zero, List.append_nil]
 unfold overL reps
 rw [List.length_replicate, List.length_replicate, List.take_replicate, List.drop_replicate, ← List.append_assoc, List.replicate_append_replicate]
 congr 2
 ·omega
 ·omega
theorem C_slices_Repeat (v : Int) (n : Nat) (h : n ≤ 1048576) (Q : List AV → Prop) : mc.C f_slices_Repeat_Sint_int [⟨L I, [v]⟩, ⟨I, (n : Int)⟩] Q = Q [⟨L I, List.replicate n v⟩] := by
 refine Mc.Ends.c (mc.ends F_slices_Repeat_Sint_int ?_)
 have w1 : IntKind.u64.wrap 1 = 1 := by decide
 have w := wrap_u64 (n := n) (by omega)
 simp (contextual := true) (maxSteps := 1000000) (disch := omega) only [↓Sd, ↓So, ↓Sk, ↓den, ↓denA, Sa, Sb, Sc, Se, O1.d, O2.d, O3.d, cmI, arI, envOf, putN, ↓reduceIte, Nat.reduceLT, Nat.reduceSub, Nat.reduceAdd, Int.reduceAdd, Int.reduceEq, Int.reduceLT, Int.reduceLE, arr_pos, arr_neg, tr_slices_Repeat_Sint_int, w1, w, C_math_bits_Mul1 n h, reps_over0, List.length_replicate]
 refine mc.lp_inv (fun j us => ∃ k : Nat, us = [⟨I, (k : Int)⟩, ⟨L I, reps k n v⟩] ∧ k ≤ n ∧ (n = 0 ∨ 1 ≤ k) ∧ j = n - k) (n - min 1 n) _ ⟨min 1 n, ?_, Nat.min_le_right .., by omega, rfl⟩ ?_
 ·rw [show (if (n : Int) < 1 then (n : Int) else 1) = ((min 1 n : Nat) : Int) by omega]
 rintro j us ⟨k, rfl, i1, i2, rfl⟩
 have hl := reps_len (v := v) i1
 have l1 : (List.drop k (List.take n (reps k n v))).length = n - k := by rw [List.length_drop, List.length_take, hl]; omega
 have l2 : (List.drop 0 (List.take k (reps k n v))).length = k := by rw [List.length_drop, List.length_take, hl]; omega
 simp (contextual := true) (maxSteps := 1000000) (disch := omega) only [↓Sd, ↓So, ↓Sk, ↓den, ↓denA, Sa, Sb, Sc, Se, O1.d, O2.d, O3.d, cmI, arI, envOf, putN, ↓reduceIte, Nat.reduceLT, Nat.reduceSub, Nat.reduceAdd, Int.reduceAdd, Int.reduceEq, Int.reduceLT, Int.reduceLE, arr_pos, arr_neg, ↓wpJoin, hl, l1, l2, reps_next i1]
 refine ⟨fun g => ?_, fun g => ?_⟩
 ·have hkn : k < n := Int.ofNat_lt.1 g
  refine ⟨_, ?_, k + min k (n - k), ⟨?_, rfl⟩, by omega, by omega, rfl⟩
  ·omega
  rw [show (if ((n - k : Nat) : Int) < (k : Int) then ((n - k : Nat) : Int) else (k : Int)) = ((min k (n - k) : Nat) : Int) by omega]
  rw [wrap_id (by omega) (by omega)]
  exact (Int.natCast_add _ _).symm
 ·have hkn : ¬ k < n := fun hh => g (Int.ofNat_lt.2 hh)
  have : k = n := by omega
  subst this
  simp [reps]
def Lay (T : List (List Int)) (F : List Int) : Nat → Nat → Prop
 | 0, k => (k : Int) ∈ F
 | d + 1, k => Lay T F d k ∨ ∃ a, Lay T F d a ∧ (k : Int) ∈ T.getD a []
theorem least {P : Nat → Prop} (h : ∃ d, P d) : ∃ d, P d ∧ ∀ e, e < d → ¬ P e := by
 obtain ⟨d, hd⟩ := h
 induction d using Nat.strongRecOn with
 | ind d ih =>
  by_cases g : ∃ e, e < d ∧ P e
  ·obtain ⟨e, h1, h2⟩ := g; exact ih e h1 h2
  ·exact ⟨d, hd, fun e he hp => g ⟨e, he, hp⟩⟩
open Classical in
noncomputable def dst (T : List (List Int)) (F : List Int) (k : Nat) : Int := if h : ∃ d, Lay T F d k then ((Classical.choose (least h) : Nat) : Int) else -1
theorem Lay.up {T : List (List Int)} {F : List Int} {d e k : Nat} (h : Lay T F d k) (he : d ≤ e) : Lay T F e k := by
 induction e with
 | zero => have : d = 0 := by omega
           subst this; exact h
 | succ e ih =>
  by_cases g : d ≤ e
  ·exact .inl (ih g)
  ·have : d = e + 1 := by omega
   subst this; exact h
theorem Lay.rch {T : List (List Int)} {F : List Int} : ∀ {d k : Nat}, Lay T F d k → Rch T F k
 | 0, k, h => .base h
 | d + 1, k, h => h.elim Lay.rch fun ⟨a, h1, h2⟩ => .step (Lay.rch h1) h2
theorem rch_lay {T : List (List Int)} {F : List Int} {k : Nat} (h : Rch T F k) : ∃ d, Lay T F d k := by
 induction h with
 | base h => exact ⟨0, h⟩
 | step _ h ih => obtain ⟨d, hd⟩ := ih; exact ⟨d + 1, .inr ⟨_, hd, h⟩⟩
structure IsDst (T : List (List Int)) (F : List Int) (n : Nat) (f : Nat → Int) : Prop where
 ge : ∀ k, k < n → -1 ≤ f k
 zero : ∀ k, k < n → (f k = 0 ↔ (k : Int) ∈ F)
 pre : ∀ k, k < n → 0 < f k → ∃ a, a < n ∧ f a + 1 = f k ∧ (k : Int) ∈ T.getD a []
 nxt : ∀ a, a < n → 0 ≤ f a → ∀ k : Nat, (k : Int) ∈ T.getD a [] → 0 ≤ f k ∧ f k ≤ f a + 1
theorem IsDst.eq {T : List (List Int)} {F : List Int} {n : Nat} {f : Nat → Int} (ht : Tbl T n) (hF : ∀ x ∈ F, 0 ≤ x ∧ x < n) (h : IsDst T F n f) : ∀ k, k < n → f k = dst T F k := by
 have a1 : ∀ d k, k < n → f k = (d : Nat) → Lay T F d k := by
  intro d
  induction d with
  | zero => intro k hk h1; exact (h.zero k hk).1 h1
  | succ d ih =>
   intro k hk h1
   obtain ⟨a, b1, b2, b3⟩ := h.pre k hk (by omega)
   exact .inr ⟨a, ih a b1 (by omega), b3⟩
 have a2 : ∀ d k, Lay T F d k → k < n ∧ 0 ≤ f k ∧ f k ≤ (d : Nat) := by
  intro d
  induction d with
  | zero => intro k h1; have := hF _ h1; have hk : k < n := by omega
            have := (h.zero k hk).2 h1; exact ⟨hk, by omega, by omega⟩
  | succ d ih =>
   intro k h1
   rcases h1 with h1 | ⟨a, h1, h2⟩
   ·have := ih k h1; exact ⟨this.1, this.2.1, by omega⟩
   ·obtain ⟨b1, b2, b3⟩ := ih a h1
    have := ht.row _ h2
    have := h.nxt a b1 b2 k h2
    exact ⟨by omega, this.1, by omega⟩
 intro k hk
 unfold dst
 by_cases g : ∃ d, Lay T F d k
 ·rw [dif_pos g]
  obtain ⟨b1, b2⟩ := Classical.choose_spec (least g)
  generalize Classical.choose (least g) = d at b1 b2
  obtain ⟨-, c1, c2⟩ := a2 d k b1
  have c3 := a1 (f k).toNat k hk (by omega)
  have : ¬ (f k).toNat < d := fun hh => b2 _ hh c3
  omega
 ·rw [dif_neg g]
  have := h.ge k hk
  by_cases g2 : 0 ≤ f k
  ·exact absurd ⟨_, a1 (f k).toNat k hk (by omega)⟩ g
  ·omega
theorem dst_rch {T : List (List Int)} {F : List Int} {k : Nat} : 0 ≤ dst T F k ↔ Rch T F k := by
 unfold dst
 constructor
 ·intro h
  by_cases g : ∃ d, Lay T F d k
  ·obtain ⟨d, hd⟩ := g; exact hd.rch
  ·rw [dif_neg g] at h; omega
 ·intro h
  rw [dif_pos (rch_lay h)]; omega
theorem tab_one {n m : Nat} (hm : m < n) : (List.replicate n (-1 : Int)).set m 0 = tab (fun k => if k = m then 0 else -1) n := by
 rw [rep_tab, tab_set']
structure Bfs (T : List (List Int)) (m n : Nat) (f : Nat → Int) (q : List Nat) (ex : Nat → Prop) : Prop where
 ge : ∀ k, k < n → -1 ≤ f k
 zero : ∀ k, k < n → (f k = 0 ↔ k = m)
 pre : ∀ k, k < n → 0 < f k → ∃ a, a < n ∧ f a + 1 = f k ∧ (k : Int) ∈ T.getD a []
 inq : ∀ x ∈ q, x < n ∧ 0 ≤ f x
 sorted : q.Pairwise fun a b => f a ≤ f b
 closed : ∀ a, a < n → 0 ≤ f a → a ∉ q → ¬ ex a → ∀ k : Nat, (k : Int) ∈ T.getD a [] → 0 ≤ f k ∧ f k ≤ f a + 1
 top : ∀ k, k < n → f k + cntF (fun k => decide (0 ≤ f k)) n ≤ n
theorem cntF_congr {p q : Nat → Bool} {n : Nat} (h : ∀ k, k < n → p k = q k) : cntF p n = cntF q n := by
 unfold cntF
 rw [upTo_congr fun k hk => by rw [h k hk]]
theorem Bfs.visit {T : List (List Int)} {m n x y : Nat} {f : Nat → Int} {q : List Nat} (h : Bfs T m n f q (· = x)) (hx : x < n) (hfx : 0 ≤ f x) (hy : y < n) (hfy : f y < 0) (hm : m < n) (hT : (y : Int) ∈ T.getD x []) (hb : ∀ k, k < n → f k ≤ f x + 1) :
  Bfs T m n (fun k => if k = y then f x + 1 else f k) (q ++ [y]) (· = x) ∧ cntF (fun k => decide (0 ≤ (if k = y then f x + 1 else f k))) n + 1 = cntF (fun k => decide (0 ≤ f k)) n := by
 have hxy : ¬ x = y := by rintro rfl; omega
 have hc : cntF (fun k => decide (0 ≤ (if k = y then f x + 1 else f k))) n + 1 = cntF (fun k => decide (0 ≤ f k)) n := by
  have := cntF_set (p := fun k => decide (0 ≤ f k)) (j := y) (by simp; omega) (n := n) hy
  rw [← this]
  congr 1
  refine cntF_congr fun k _ => ?_
  by_cases g : k = y
  ·simp [g]; omega
  ·simp [g]
 refine ⟨⟨fun k hk => ?_, fun k hk => ?_, fun k hk h1 => ?_, fun z hz => ?_, ?_, fun a ha h1 h2 h3 k hk => ?_, fun k hk => ?_⟩, hc⟩
 ·have := h.ge k hk; split <;> omega
 ·have := h.zero k hk
  have := h.zero m hm
  split
  ·rename_i g; subst g
   constructor
   ·intro h1; omega
   ·intro h1; subst h1; omega
  ·assumption
 ·by_cases g : k = y
  ·subst g
   exact ⟨x, hx, by simp [hxy], hT⟩
  ·simp only [g, if_false] at h1 ⊢
   obtain ⟨a, b1, b2, b3⟩ := h.pre k hk h1
   have : ¬ a = y := by rintro rfl; omega
   exact ⟨a, b1, by simp [this, b2], b3⟩
 ·rcases List.mem_append.1 hz with hz | hz
  ·have := h.inq z hz
   refine ⟨this.1, ?_⟩
   split <;> omega
  ·simp only [List.mem_singleton] at hz
   subst hz
   exact ⟨hy, by simp; omega⟩
 ·refine List.pairwise_append.2 ⟨?_, List.pairwise_singleton _ _, ?_⟩
  ·refine h.sorted.imp_of_mem ?_
   intro a b ha hb2 hab
   have h1 := (h.inq a ha).2
   have h2 := (h.inq b hb2).2
   have e1 : ¬ a = y := by rintro rfl; omega
   have e2 : ¬ b = y := by rintro rfl; omega
   simp only [e1, e2, if_false]; exact hab
  ·intro a ha b hb2
   simp only [List.mem_singleton] at hb2
   subst hb2
   have h1 := h.inq a ha
   have e1 : ¬ a = b := by rintro rfl; omega
   simp only [e1, if_false, if_true]
   exact hb a h1.1
 ·simp only [List.mem_append, List.mem_singleton, not_or] at h2
  have e1 : ¬ a = y := h2.2
  simp only [e1, if_false] at h1 ⊢
  have := h.closed a ha h1 h2.1 h3 k hk
  have e2 : ¬ k = y := by rintro rfl; omega
  simp only [e2, if_false]; exact this
 ·have := h.top k hk
  have := h.top x hx
  split <;> omega
theorem C_impl_steps (T : List (List Int)) (m n : Nat) (hm : m < n) (hn : n ≤ 1000) (ht : Tbl T n) (Q : List AV → Prop) : mc.C f_impl_steps [⟨L (L I), T⟩, ⟨I, (m : Int)⟩] Q = Q [⟨L I, tab (dst T [(m : Int)]) n⟩] := by
 have hl := ht.1
 refine Mc.Ends.c (mc.ends F_impl_steps ?_)
 simp (contextual := true) (maxSteps := 1000000) (disch := omega) only [↓Sd, ↓So, ↓Sk, ↓den, ↓denA, Sa, Sb, Sc, Se, O1.d, O2.d, O3.d, cmI, arI, envOf, putN, ↓reduceIte, Nat.reduceLT, Nat.reduceSub, Nat.reduceAdd, Int.reduceAdd, Int.reduceEq, Int.reduceLT, Int.reduceLE, arr_pos, arr_neg, tr_impl_steps, hl, C_slices_Repeat (-1) n (by omega), List.length_replicate, tab_one hm]
 have hc0 : cntF (fun k => decide ((0 : Int) ≤ if k = m then 0 else -1)) n ≤ n := cntF_le
 refine mc.lp_inv (fun j us => ∃ (f : Nat → Int) (q : List Nat), us = [⟨L (L I), T⟩, ⟨L I, tab f n⟩, ⟨L I, q.map Int.ofNat⟩] ∧ Bfs T m n f q (fun _ => False) ∧ (∀ x q', q = x :: q' → ∀ k, k < n → f k ≤ f x + 1) ∧ q.length + cntF (fun k => decide (0 ≤ f k)) n ≤ 2000 ∧
  j = 2 * cntF (fun k => decide (0 ≤ f k)) n + q.length) _ _ ⟨fun k => if k = m then 0 else -1, [m], rfl, ⟨?_, ?_, ?_, ?_, ?_, ?_, ?_⟩, ?_, ?_, rfl⟩ ?_
 ·intro k _; split <;> omega
 ·intro k _; split <;> omega
 ·intro k _ h; split at h <;> omega
 ·intro x hx; simp only [List.mem_singleton] at hx; subst hx; exact ⟨hm, by simp⟩
 ·exact List.pairwise_singleton _ _
 ·intro a ha h1 h2
  simp only [List.mem_singleton] at h2
  simp only [h2, if_false] at h1
  omega
 ·intro k hk
  have hc := cntF_set (p := fun _ => false) (j := m) rfl (n := n) hm
  have : cntF (fun _ => false) n ≤ n := cntF_le
  rw [cntF_congr (q := fun k => if k = m then true else false) fun k _ => by by_cases g : k = m <;> simp [g]]
  split <;> omega
 ·intro x q' hq k hk
  simp only [List.cons.injEq] at hq
  rw [← hq.1]
  simp only [if_true]
  split <;> omega
 ·simp only [List.length_singleton]; omega
 rintro j us ⟨f, q, rfl, i1, i2, i3, rfl⟩
 cases q with
 | nil =>
  simp (contextual := true) (maxSteps := 1000000) (disch := omega) only [↓Sd, ↓So, ↓Sk, ↓den, ↓denA, Sa, Sb, Sc, Se, O1.d, O2.d, O3.d, cmI, arI, envOf, putN, ↓reduceIte, Nat.reduceLT, Nat.reduceSub, Nat.reduceAdd, Int.reduceAdd, Int.reduceEq, Int.reduceLT, Int.reduceLE, arr_pos, arr_neg, List.map_nil]
  refine tab_congr (IsDst.eq ht (by intro x hx; simp only [List.mem_singleton] at hx; omega) ⟨i1.ge, fun k hk => ?_, i1.pre, fun a ha h1 k hk => i1.closed a ha h1 (by simp) (by simp) k hk⟩)
  rw [i1.zero k hk]
  simp only [List.mem_singleton]
  omega
 | cons x q =>
  have hb := i2 x q rfl
  obtain ⟨hx, hfx⟩ := i1.inq x (List.mem_cons_self ..)
  have hso := List.pairwise_cons.1 i1.sorted
  have hrow := ht.row (i := x)
  have hrl : (T.getD x []).length ≤ 1048576 := (ht.2 _ (getD_mem (by omega))).1
  simp only [List.length_cons] at i3
  obtain ⟨row, hr⟩ : ∃ row, T.getD x [] = row := ⟨_, rfl⟩
  rw [hr] at hrow hrl
  have e0 : Int.ofNat x = (x : Int) := rfl
  simp (contextual := true) (maxSteps := 1000000) (disch := omega) only [↓Sd, ↓So, ↓Sk, ↓den, ↓denA, Sa, Sb, Sc, Se, O1.d, O2.d, O3.d, cmI, arI, envOf, putN, ↓reduceIte, Nat.reduceLT, Nat.reduceSub, Nat.reduceAdd, Int.reduceAdd, Int.reduceEq, Int.reduceLT, Int.reduceLE, arr_pos, arr_neg, List.map_cons, hl, e0, Int.toNat_natCast, hr, List.drop_succ_cons, List.drop_zero, List.length_cons]
  refine mc.lp_for ((Nat → Int) × List Nat) (fun j s => [⟨L (L I), T⟩, ⟨I, (x : Int)⟩, ⟨L I, row⟩, ⟨I, (row.length : Int)⟩, ⟨I, (j : Int)⟩, ⟨L I, tab s.1 n⟩, ⟨L I, s.2.map Int.ofNat⟩]) (fun j s => Bfs T m n s.1 s.2 (· = x) ∧ s.1 x = f x ∧ (∀ k, k < n → s.1 k ≤ f x + 1) ∧ (∀ y ∈ s.2, f x ≤ s.1 y) ∧
   (∀ k : Nat, (k : Int) ∈ row.take j → 0 ≤ s.1 k) ∧ s.2.length + cntF (fun k => decide (0 ≤ s.1 k)) n = q.length + cntF (fun k => decide (0 ≤ f k)) n ∧ cntF (fun k => decide (0 ≤ s.1 k)) n ≤ cntF (fun k => decide (0 ≤ f k)) n) row.length 0 (f, q) _ rfl (Nat.zero_le _)
   ⟨⟨i1.ge, i1.zero, i1.pre, fun y hy => i1.inq y (List.mem_cons_of_mem _ hy), hso.2, fun a h1 h2 h3 h4 => i1.closed a h1 h2 (by simp only [List.mem_cons, not_or]; exact ⟨h4, h3⟩) (by simp), i1.top⟩, rfl, hb, hso.1, by simp, rfl, Nat.le_refl _⟩ ?_ ?_
  ·rintro j ⟨f', q'⟩ hj ⟨a1, a2, a3, a4, a5, a6, a7⟩
   simp only at a1 a2 a3 a4 a5 a6 a7
   have hy := hrow _ (getD_mem (d := 0) hj)
   obtain ⟨y, hy2⟩ : ∃ y : Nat, row.getD j 0 = y := ⟨(row.getD j 0).toNat, by omega⟩
   have hyn : y < n := by omega
   have hyT : (y : Int) ∈ T.getD x [] := by rw [hr, ← hy2]; exact getD_mem hj
   have htop := a1.top x hx
   have hwr : IntKind.i64.wrap (f x + 1) = f x + 1 := wrap_id (by omega) (by omega)
   have hql : (q'.map Int.ofNat).length = q'.length := List.length_map ..
   simp (contextual := true) (maxSteps := 1000000) (disch := omega) only [↓Sd, ↓So, ↓Sk, ↓den, ↓denA, Sa, Sb, Sc, Se, O1.d, O2.d, O3.d, cmI, arI, envOf, putN, ↓reduceIte, Nat.reduceLT, Nat.reduceSub, Nat.reduceAdd, Int.reduceAdd, Int.reduceEq, Int.reduceLT, Int.reduceLE, arr_pos, arr_neg, ↓wpJoin, hy2, tab_len, tab_get hyn, tab_get hx, Int.toNat_natCast, tab_set', a2, hwr, hql]
   have hfx' : 0 ≤ f' x := by omega
   refine ⟨fun g => ?_, fun g => ?_⟩
   ·obtain ⟨v1, v2⟩ := a1.visit hx hfx' hyn g hm hyT (by rw [a2]; exact a3)
    rw [a2] at v1 v2
    have hxy : ¬ x = y := by rintro rfl; omega
    refine ⟨(fun k => if k = y then f x + 1 else f' k, q' ++ [y]), ⟨rfl, by simp⟩, v1, by simp [hxy, a2], ?_, ?_, ?_, ?_, ?_⟩
    ·intro k hk
     have := a3 k hk
     simp only []
     split <;> omega
    ·intro z hz
     simp only []
     split
     ·omega
     ·rename_i hzy
      rcases List.mem_append.1 hz with h | h
      ·exact a4 z h
      ·exact absurd (List.mem_singleton.1 h) hzy
    ·intro k hk
     simp only []
     split
     ·omega
     ·rename_i hky
      rcases (mem_take_next hj).1 hk with h | h
      ·exact a5 k h
      ·exact absurd (by omega) hky
    ·simp only [List.length_append, List.length_singleton]; omega
    ·simp only []; omega
   ·refine ⟨(f', q'), ⟨rfl, rfl⟩, a1, a2, a3, a4, fun k hk => ?_, a6, a7⟩
    rcases (mem_take_next hj).1 hk with h | h
    ·exact a5 k h
    ·rw [show k = y by omega]; simp only []; omega
  ·rintro ⟨f', q'⟩ ⟨a1, a2, a3, a4, a5, a6, a7⟩
   rw [List.take_length] at a5
   simp only at a1 a2 a3 a4 a5 a6 a7
   simp (contextual := true) (maxSteps := 1000000) (disch := omega) only [↓Sd, ↓So, ↓Sk, ↓den, ↓denA, Sa, Sb, Sc, Se, O1.d, O2.d, O3.d, cmI, arI, envOf, putN, ↓reduceIte, Nat.reduceLT, Nat.reduceSub, Nat.reduceAdd, Int.reduceAdd, Int.reduceEq, Int.reduceLT, Int.reduceLE, arr_pos, arr_neg, ]
   refine ⟨_, ?_, f', q', ⟨rfl, rfl⟩, ⟨a1.ge, a1.zero, a1.pre, a1.inq, a1.sorted, fun a ha h1 h2 _ k hk => ?_, a1.top⟩, fun z q'' hq k hk => ?_, by omega, rfl⟩
   ·omega
   ·by_cases hax : a = x
    ·subst hax
     rw [hr] at hk
     have h3 := hrow _ hk
     have h4 := a3 k (by omega)
     exact ⟨a5 k hk, by omega⟩
    ·exact a1.closed a ha h1 h2 hax k hk
   ·have h3 := a3 k hk
    have h4 := a4 z (by rw [hq]; exact List.mem_cons_self ..)
    omega
structure Rnd (T : List (List Int)) (p : Nat → Bool) (n : Nat) (d a0 C : Nat) (ag : Bool) (f : Nat → Int) : Prop where
 ge : ∀ k, k < n → -1 ≤ f k
 zero : ∀ k, k < n → (f k = 0 ↔ p k = true)
 pre : ∀ k, k < n → 0 < f k → ∃ a, a < n ∧ f a + 1 = f k ∧ (k : Int) ∈ T.getD a []
 le : ∀ k, k < n → f k ≤ (d : Int) + 1
 closed : ∀ a, a < n → 0 ≤ f a → (f a < d ∨ f a = d ∧ a < a0) → ∀ k : Nat, (k : Int) ∈ T.getD a [] → 0 ≤ f k ∧ f k ≤ f a + 1
 none : ag = false → ∀ k, k < n → f k ≤ d
 cnt : cntF (fun k => decide (0 ≤ f k)) n ≤ C
 less : ag = true → cntF (fun k => decide (0 ≤ f k)) n < C
theorem Rnd.visit {T : List (List Int)} {p : Nat → Bool} {n d a0 C y : Nat} {ag : Bool} {f : Nat → Int} (h : Rnd T p n d a0 C ag f) (ha : a0 < n) (hfa : f a0 = d) (hy : y < n) (hfy : f y < 0) (hT : (y : Int) ∈ T.getD a0 []) :
  Rnd T p n d a0 C true (fun k => if k = y then (d : Int) + 1 else f k) := by
 have hay : ¬ a0 = y := by rintro rfl; omega
 have hc : cntF (fun k => decide (0 ≤ (if k = y then (d : Int) + 1 else f k))) n + 1 = cntF (fun k => decide (0 ≤ f k)) n := by
  have := cntF_set (p := fun k => decide (0 ≤ f k)) (j := y) (by simp; omega) (n := n) hy
  rw [← this]
  congr 1
  refine cntF_congr fun k _ => ?_
  by_cases g : k = y
  ·simp [g]; omega
  ·simp [g]
 have hcn := h.cnt
 refine ⟨fun k hk => ?_, fun k hk => ?_, fun k hk h1 => ?_, fun k hk => ?_, fun a h1 h2 h3 k hk => ?_, fun g => (by cases g), by omega, fun _ => by omega⟩
 ·have := h.ge k hk; split <;> omega
 ·have := h.zero k hk
  split
  ·rename_i g; subst g
   constructor
   ·intro h1; omega
   ·intro h1; have := this.2 h1; omega
  ·exact this
 ·by_cases g : k = y
  ·subst g
   exact ⟨a0, ha, by simp [hay, hfa], hT⟩
  ·simp only [g, if_false] at h1 ⊢
   obtain ⟨a, b1, b2, b3⟩ := h.pre k hk h1
   have : ¬ a = y := by rintro rfl; omega
   exact ⟨a, b1, by simp [this, b2], b3⟩
 ·have := h.le k hk; split <;> omega
 ·by_cases e1 : a = y
  ·simp only [e1, if_true] at h3; omega
  ·simp only [e1, if_false] at h2 h3 ⊢
   have := h.closed a h1 h2 h3 k hk
   have e2 : ¬ k = y := by rintro rfl; omega
   simp only [e2, if_false]; exact this
theorem Rnd.skip {T : List (List Int)} {p : Nat → Bool} {n d a0 C : Nat} {ag : Bool} {f : Nat → Int} (h : Rnd T p n d a0 C ag f) (ht : Tbl T n) (hx : f a0 = d → ∀ k : Nat, (k : Int) ∈ T.getD a0 [] → 0 ≤ f k) : Rnd T p n d (a0 + 1) C ag f := by
 refine ⟨h.ge, h.zero, h.pre, h.le, fun a h1 h2 h3 k hk => ?_, h.none, h.cnt, h.less⟩
 by_cases e : a = a0
 ·subst e
  rcases h3 with h3 | h3
  ·exact h.closed a h1 h2 (.inl h3) k hk
  ·have h4 := ht.row _ hk
   have h5 := h.le k (by omega)
   exact ⟨hx h3.1 k hk, by omega⟩
 ·refine h.closed a h1 h2 (h3.imp_right fun h4 => ⟨h4.1, ?_⟩) k hk
  omega
theorem C_spec_l5Steps (T : List (List Int)) (p : Nat → Bool) (F : List Int) (n : Nat) (hn : n ≤ 1000) (ht : Tbl T n) (hF : ∀ x ∈ F, 0 ≤ x ∧ x < n) (hp : ∀ k, k < n → (p k = true ↔ (k : Int) ∈ F)) (Q : List AV → Prop) :
  mc.C f_spec_l5Steps [⟨L (L I), T⟩, ⟨L B, tab p n⟩] Q = Q [⟨L I, tab (dst T F) n⟩] := by
 have hl := ht.1
 refine Mc.Ends.c (mc.ends F_spec_l5Steps ?_)
 simp (contextual := true) (maxSteps := 1000000) (disch := omega) only [↓Sd, ↓So, ↓Sk, ↓den, ↓denA, Sa, Sb, Sc, Se, O1.d, O2.d, O3.d, cmI, arI, envOf, putN, ↓reduceIte, Nat.reduceLT, Nat.reduceSub, Nat.reduceAdd, Int.reduceAdd, Int.reduceEq, Int.reduceLT, Int.reduceLE, arr_pos, arr_neg, tr_spec_l5Steps]
 refine mc.lp_for (List Int) (fun i o => [⟨L (L I), T⟩, ⟨L B, tab p n⟩, ⟨I, (i : Int)⟩, ⟨L I, o⟩]) (fun i o => o = tab (fun k => if p k = true then 0 else -1) i) n 0 [] _ rfl (Nat.zero_le _) rfl ?_ ?_
 ·rintro i o hi rfl
  simp (contextual := true) (maxSteps := 1000000) (disch := omega) only [↓Sd, ↓So, ↓Sk, ↓den, ↓denA, Sa, Sb, Sc, Se, O1.d, O2.d, O3.d, cmI, arI, envOf, putN, ↓reduceIte, Nat.reduceLT, Nat.reduceSub, Nat.reduceAdd, Int.reduceAdd, Int.reduceEq, Int.reduceLT, Int.reduceLE, arr_pos, arr_neg, ↓wpJoin, hl, tab_len, tab_get hi]
  refine ⟨fun g => ?_, fun g => ?_⟩
  ·rw [← tab_next]; simp [g]
  ·rw [← tab_next]; simp [g]
 rintro o rfl
 obtain ⟨f0, hf0⟩ : ∃ f0 : Nat → Int, (fun k => if p k = true then (0 : Int) else -1) = f0 := ⟨_, rfl⟩
 have h0 : ∀ k, (p k = true → f0 k = 0) ∧ (¬ p k = true → f0 k = -1) := fun k => by rw [← hf0]; exact ⟨fun g => by simp [g], fun g => by simp [g]⟩
 rw [hf0]
 clear hf0
 simp (contextual := true) (maxSteps := 1000000) (disch := omega) only [↓Sd, ↓So, ↓Sk, ↓den, ↓denA, Sa, Sb, Sc, Se, O1.d, O2.d, O3.d, cmI, arI, envOf, putN, ↓reduceIte, Nat.reduceLT, Nat.reduceSub, Nat.reduceAdd, Int.reduceAdd, Int.reduceEq, Int.reduceLT, Int.reduceLE, arr_pos, arr_neg, hl]
 refine mc.lp_inv (fun j us => ∃ (f : Nat → Int) (ag : Bool) (d : Nat), us = [⟨L (L I), T⟩, ⟨B, ag⟩, ⟨I, (d : Int)⟩, ⟨L I, tab f n⟩] ∧ (∀ k, k < n → -1 ≤ f k) ∧ (∀ k, k < n → (f k = 0 ↔ p k = true)) ∧ (∀ k, k < n → 0 < f k → ∃ a, a < n ∧ f a + 1 = f k ∧ (k : Int) ∈ T.getD a []) ∧
  (∀ a, a < n → 0 ≤ f a → f a < d → ∀ k : Nat, (k : Int) ∈ T.getD a [] → 0 ≤ f k ∧ f k ≤ f a + 1) ∧ (∀ k, k < n → f k ≤ d) ∧ (ag = false → ∀ k, k < n → f k < d) ∧ (ag = true → d + cntF (fun k => decide (0 ≤ f k)) n ≤ n) ∧
  j = if ag = true then cntF (fun k => decide (0 ≤ f k)) n + 1 else 0) _ _ ⟨f0, true, 0, rfl, fun k _ => ?_, fun k _ => ?_, fun k _ h => ?_, fun a _ h1 h2 => (by omega), fun k _ => ?_, fun g => (by cases g), fun _ => ?_, rfl⟩ ?_
 ·have := h0 k
  by_cases g : p k = true
  ·have := this.1 g; omega
  ·have := this.2 g; omega
 ·have := h0 k
  by_cases g : p k = true
  ·simp [g, this.1 g]
  ·simp [g, this.2 g]
 ·have := h0 k
  by_cases g : p k = true
  ·have := this.1 g; omega
  ·have := this.2 g; omega
 ·have := h0 k
  by_cases g : p k = true
  ·have := this.1 g; omega
  ·have := this.2 g; omega
 ·have : cntF (fun k => decide (0 ≤ f0 k)) n ≤ n := cntF_le
  omega
 rintro j us ⟨f, ag, d, rfl, i1, i2, i3, i4, i5, i6, i7, rfl⟩
 cases ag with
 | false =>
  simp (contextual := true) (maxSteps := 1000000) (disch := omega) only [↓Sd, ↓So, ↓Sk, ↓den, ↓denA, Sa, Sb, Sc, Se, O1.d, O2.d, O3.d, cmI, arI, envOf, putN, ↓reduceIte, Nat.reduceLT, Nat.reduceSub, Nat.reduceAdd, Int.reduceAdd, Int.reduceEq, Int.reduceLT, Int.reduceLE, arr_pos, arr_neg, ]
  exact tab_congr (IsDst.eq ht hF ⟨i1, fun k hk => by rw [i2 k hk, hp k hk], i3, fun a ha h1 k hk => i4 a ha h1 (i6 rfl a ha) k hk⟩)
 | true =>
  have i7 := i7 rfl
  simp (contextual := true) (maxSteps := 1000000) (disch := omega) only [↓Sd, ↓So, ↓Sk, ↓den, ↓denA, Sa, Sb, Sc, Se, O1.d, O2.d, O3.d, cmI, arI, envOf, putN, ↓reduceIte, Nat.reduceLT, Nat.reduceSub, Nat.reduceAdd, Int.reduceAdd, Int.reduceEq, Int.reduceLT, Int.reduceLE, arr_pos, arr_neg, ]
  generalize hC : cntF (fun k => decide (0 ≤ f k)) n = C at *
  refine mc.lp_for ((Nat → Int) × Bool) (fun a s => [⟨L (L I), T⟩, ⟨B, s.2⟩, ⟨I, (d : Int)⟩, ⟨I, (a : Int)⟩, ⟨L I, tab s.1 n⟩]) (fun a s => Rnd T p n d a C s.2 s.1) n 0 (f, false) _ rfl (Nat.zero_le _)
   ⟨i1, i2, i3, fun k hk => Int.le_trans (i5 k hk) (by omega), fun a ha h1 h2 k hk => i4 a ha h1 (h2.elim id fun h => by omega) k hk, fun _ => i5, by rw [hC]; exact Nat.le_refl _, fun g => (by cases g)⟩ ?_ ?_
  ·rintro a0 ⟨f1, ag1⟩ ha0 hR
   simp only at hR
   obtain ⟨row, hr⟩ : ∃ row, T.getD a0 [] = row := ⟨_, rfl⟩
   have hrow := ht.row (i := a0)
   have hrl : (T.getD a0 []).length ≤ 1048576 := (ht.2 _ (getD_mem (by omega))).1
   rw [hr] at hrow hrl
   simp (contextual := true) (maxSteps := 1000000) (disch := omega) only [↓Sd, ↓So, ↓Sk, ↓den, ↓denA, Sa, Sb, Sc, Se, O1.d, O2.d, O3.d, cmI, arI, envOf, putN, ↓reduceIte, Nat.reduceLT, Nat.reduceSub, Nat.reduceAdd, Int.reduceAdd, Int.reduceEq, Int.reduceLT, Int.reduceLE, arr_pos, arr_neg, hl]
   refine mc.lp_for ((Nat → Int) × Bool) (fun i s => [⟨L (L I), T⟩, ⟨B, s.2⟩, ⟨I, (d : Int)⟩, ⟨I, (a0 : Int)⟩, ⟨I, (i : Int)⟩, ⟨L I, tab s.1 n⟩]) (fun i s => Rnd T p n d a0 C s.2 s.1 ∧ ∀ k : Nat, (k : Int) ∈ row.take i → s.1 a0 = d → 0 ≤ s.1 k) row.length 0 (f1, ag1) _ rfl (Nat.zero_le _) ⟨hR, by simp⟩ ?_ ?_
   ·rintro i ⟨f2, ag2⟩ hi ⟨b1, b2⟩
    simp only at b1 b2
    have hy := hrow _ (getD_mem (d := 0) hi)
    obtain ⟨y, hy2⟩ : ∃ y : Nat, row.getD i 0 = y := ⟨(row.getD i 0).toNat, by omega⟩
    have hyn : y < n := by omega
    have hwr : IntKind.i64.wrap ((d : Int) + 1) = (d : Int) + 1 := wrap_id (by omega) (by omega)
    simp (contextual := true) (maxSteps := 1000000) (disch := omega) only [↓Sd, ↓So, ↓Sk, ↓den, ↓denA, Sa, Sb, Sc, Se, O1.d, O2.d, O3.d, cmI, arI, envOf, putN, ↓reduceIte, Nat.reduceLT, Nat.reduceSub, Nat.reduceAdd, Int.reduceAdd, Int.reduceEq, Int.reduceLT, Int.reduceLE, arr_pos, arr_neg, ↓wpJoin, hl, hr, hy2, tab_len, tab_get hyn, tab_get ha0, Int.toNat_natCast, tab_set', hwr]
    refine ⟨fun g => ⟨fun g2 => ?_, fun g2 => ?_⟩, fun g => ?_⟩
    ·have hv := b1.visit ha0 g hyn g2 (by rw [hr, ← hy2]; exact getD_mem hi)
     refine ⟨(fun k => if k = y then (d : Int) + 1 else f2 k, true), ⟨rfl, rfl⟩, hv, fun k hk h3 => ?_⟩
     simp only []
     split
     ·omega
     ·rename_i hky
      rcases (mem_take_next hi).1 hk with h | h
      ·exact b2 k h g
      ·exact absurd (by omega) hky
    ·refine ⟨(f2, ag2), ⟨rfl, rfl⟩, b1, fun k hk h3 => ?_⟩
     rcases (mem_take_next hi).1 hk with h | h
     ·exact b2 k h h3
     ·rw [show k = y by omega]; simp only []; omega
    ·exact ⟨(f2, ag2), ⟨rfl, rfl⟩, b1.skip ht fun h => absurd h g⟩
   ·rintro ⟨f2, ag2⟩ ⟨b1, b2⟩
    rw [List.take_length] at b2
    simp only at b1 b2
    simp (contextual := true) (maxSteps := 1000000) (disch := omega) only [↓Sd, ↓So, ↓Sk, ↓den, ↓denA, Sa, Sb, Sc, Se, O1.d, O2.d, O3.d, cmI, arI, envOf, putN, ↓reduceIte, Nat.reduceLT, Nat.reduceSub, Nat.reduceAdd, Int.reduceAdd, Int.reduceEq, Int.reduceLT, Int.reduceLE, arr_pos, arr_neg, hl, hr]
    exact ⟨(f2, ag2), ⟨rfl, rfl⟩, b1.skip ht fun h k hk => b2 k (by rw [← hr]; exact hk) h⟩
  ·rintro ⟨f1, ag1⟩ hR
   simp only at hR
   have hwr : IntKind.i64.wrap ((d : Int) + 1) = (d : Int) + 1 := wrap_id (by omega) (by omega)
   simp (contextual := true) (maxSteps := 1000000) (disch := omega) only [↓Sd, ↓So, ↓Sk, ↓den, ↓denA, Sa, Sb, Sc, Se, O1.d, O2.d, O3.d, cmI, arI, envOf, putN, ↓reduceIte, Nat.reduceLT, Nat.reduceSub, Nat.reduceAdd, Int.reduceAdd, Int.reduceEq, Int.reduceLT, Int.reduceLE, arr_pos, arr_neg, hl, hwr]
   have hcnt := hR.cnt
   refine ⟨_, ?_, f1, ag1, d + 1, ⟨rfl, by rw [Int.natCast_add]; rfl, rfl⟩, hR.ge, hR.zero, hR.pre, fun a ha h1 h2 k hk => hR.closed a ha h1 ?_ k hk, fun k hk => ?_, fun g k hk => ?_, fun g => ?_, rfl⟩
   ·cases ag1 with
    | true => have := hR.less rfl; simp only [if_true]; omega
    | false => simp
   ·by_cases g : f1 a < d
    ·exact .inl g
    ·exact .inr ⟨by omega, ha⟩
   ·have := hR.le k hk; omega
   ·have := hR.none g k hk; omega
   ·have := hR.less g; omega
theorem Rch.trans {T : List (List Int)} {a b c : Nat} (h : Rch T [(a : Int)] b) (h2 : Rch T [(b : Int)] c) : Rch T [(a : Int)] c := by
 induction h2 with
 | base h3 => simp only [List.mem_singleton] at h3; have h3 := Int.ofNat_inj.1 h3; subst h3; exact h
 | step _ h3 ih => exact .step ih h3
theorem dst_le {T : List (List Int)} {F : List Int} {d k : Nat} : Lay T F d k ↔ 0 ≤ dst T F k ∧ dst T F k ≤ d := by
 unfold dst
 constructor
 ·intro h
  have hh : ∃ d, Lay T F d k := ⟨d, h⟩
  rw [dif_pos hh]
  obtain ⟨b1, b2⟩ := Classical.choose_spec (least hh)
  generalize Classical.choose (least hh) = e at b1 b2
  have : ¬ d < e := fun g => b2 d g h
  omega
 ·rintro ⟨h1, h2⟩
  by_cases g : ∃ d, Lay T F d k
  ·rw [dif_pos g] at h1 h2
   obtain ⟨b1, -⟩ := Classical.choose_spec (least g)
   generalize Classical.choose (least g) = e at b1 h1 h2
   exact b1.up (by omega)
  ·rw [dif_neg g] at h1; omega
def SmRu (r : Ru) : Prop := r.1.length ≤ 100 ∧ r.2.1.length ≤ 100 ∧ r.2.2.length ≤ 100 ∧ ∀ x ∈ r.2.2, x.length ≤ 100
def SmR5 (r : Ru) : Prop := r.1.length ≤ 50 ∧ r.2.1.length ≤ 50 ∧ r.2.2.length ≤ 50 ∧ ∀ x ∈ r.2.2, x.length ≤ 50
theorem SmR5.sm {r : Ru} (h : SmR5 r) : SmRu r := ⟨by have := h.1; omega, by have := h.2.1; omega, by have := h.2.2.1; omega, fun x hx => by have := h.2.2.2 x hx; omega⟩
def SmSy (s : Sy) : Prop := s.1.length ≤ 3 ∧ s.2.length ≤ 9 ∧ ∀ r ∈ s.2, SmRu r
theorem SmSy.few {s : Sy} (h : SmSy s) : FewSy s := by
 refine ⟨by have := h.1; unfold Few; omega, by have := h.2.1; unfold Few; omega, fun r hr => ?_⟩
 have h1 := h.2.2 r hr
 exact ⟨by have := h1.1; unfold Few; omega, by have := h1.2.1; unfold Few; omega, by have := h1.2.2.1; unfold Few; omega, fun x hx => by have := h1.2.2.2 x hx; unfold Few; omega⟩
theorem C_spec_l5First (s : Sy) (hs : FewSy s) (hv : valid s) (Q : List AV → Prop) : mc.C f_spec_l5First [⟨L V3, s.1⟩, ⟨L TR, s.2⟩] Q = Q [⟨L B, tab (fun k => dB ((k : Int) ∈ [num s.1 (fst0 s.1)])) (szn s.1)⟩] := by
 have hz := szn_eq hv
 have hfi := fst0_in hv.2.2.1
 have hn := num_bd hv.2.2.1 hfi
 refine Mc.Ends.c (mc.ends F_spec_l5First ?_)
 simp (contextual := true) (maxSteps := 1000000) (disch := omega) only [↓Sd, ↓So, ↓Sk, ↓den, ↓denA, Sa, Sb, Sc, Se, O1.d, O2.d, O3.d, cmI, arI, envOf, putN, ↓reduceIte, Nat.reduceLT, Nat.reduceSub, Nat.reduceAdd, Int.reduceAdd, Int.reduceEq, Int.reduceLT, Int.reduceLE, arr_pos, arr_neg, tr_spec_l5First, C_spec_FirstState s hs hv, C_spec_l4Number s _ hv.1.2 hv.2.2.1 hfi, C_spec_SizeOf s hs, if_pos hv]
 simp (contextual := true) (maxSteps := 1000000) (disch := omega) only [↓Sd, ↓So, ↓Sk, ↓den, ↓denA, Sa, Sb, Sc, Se, O1.d, O2.d, O3.d, cmI, arI, envOf, putN, ↓reduceIte, Nat.reduceLT, Nat.reduceSub, Nat.reduceAdd, Int.reduceAdd, Int.reduceEq, Int.reduceLT, Int.reduceLE, arr_pos, arr_neg, ↓wpJoin, C_spec_l4Marks_i [num s.1 (fst0 s.1)] (sz s.1) (szn s.1) hz.1.symm (by omega) (by simp) (by intro x hx; simp only [List.mem_singleton] at hx; omega)]
theorem C_impl_InRange (s : Sy) (st : List Int) (hs : FewSy s) (hv : valid s) (hl : st.length ≤ 1048576) (Q : List AV → Prop) : mc.C f_impl_InRange [⟨L V3, s.1⟩, ⟨L TR, s.2⟩, ⟨L I, st⟩] Q = Q [⟨B, decide (inR s.1 st)⟩] := by
 refine Mc.Ends.c (mc.ends F_impl_InRange ?_)
 simp (contextual := true) (maxSteps := 1000000) (disch := omega) only [↓Sd, ↓So, ↓Sk, ↓den, ↓denA, Sa, Sb, Sc, Se, O1.d, O2.d, O3.d, cmI, arI, envOf, putN, ↓reduceIte, Nat.reduceLT, Nat.reduceSub, Nat.reduceAdd, Int.reduceAdd, Int.reduceEq, Int.reduceLT, Int.reduceLE, arr_pos, arr_neg, tr_impl_InRange, C_impl_SystemValid s hs, hv, C_impl_inRange s st hv.1.2 hl]
def hw1 (s : Sy) (l : List Tm) (X : List Int) (x : Int) : Prop := holdsN s l x.toNat = true → ∀ y ∈ (steps s).getD x.toNat [], y ∈ X → holdsN s l y.toNat = true
def hw (s : Sy) (l : List Tm) (X : List Int) : Prop := ∀ x ∈ X, hw1 s l X x
theorem dg_num {l : List Vr} {st : List Int} (hv : ∀ v ∈ l, vOk v) (hst : inR l st) : ∀ {j : Nat}, j ≤ l.length → dg (l.drop (l.length - j)) (num l st) = (numN l st (l.length - j), st.drop (l.length - j))
 | 0, _ => by
  have h1 : l.drop (l.length - 0) = [] := by simp
  have h2 : st.drop (l.length - 0) = [] := by rw [← hst.1]; simp
  rw [h1, h2]; rfl
 | j + 1, hj => by
  have ih := dg_num hv hst (j := j) (by omega)
  obtain ⟨k, hk⟩ : ∃ k, l.length - (j + 1) = k := ⟨_, rfl⟩
  have hk1 : l.length - j = k + 1 := by omega
  have hkl : k < l.length := by omega
  rw [hk1] at ih
  rw [hk, dg_next hkl, ih]
  have h1 := hst.2 k hkl
  have h3 := wd_ok (hv _ (getD_mem (d := (0, 0, 0)) hkl))
  have h6 : wd (l.getD k (0, 0, 0)) = (l.getD k (0, 0, 0)).2.1 - (l.getD k (0, 0, 0)).1 + 1 := rfl
  have hst1 := hst.1
  rw [drop_cons (l := st) (d := 0) (show k < st.length by omega)]
  simp only [numN]
  generalize wd (l.getD k (0, 0, 0)) = w at *
  generalize (l.getD k (0, 0, 0)) = v at *
  generalize st.getD k 0 = x at *
  generalize numN l st k = a at *
  have e : a * w + x - v.1 = (x - v.1) + a * w := by omega
  have e1 : (x - v.1 + a * w) / w = a := by rw [Int.add_mul_ediv_right _ _ (by omega), Int.ediv_eq_zero_of_lt (by omega) (by omega)]; omega
  have e2 : (x - v.1 + a * w) % w = x - v.1 := by rw [Int.add_mul_emod_self_right, Int.emod_eq_of_lt (by omega) (by omega)]
  rw [e, e1, e2]
  congr 2
  omega
theorem stAt_num {l : List Vr} {st : List Int} (hv : ∀ v ∈ l, vOk v) (hst : inR l st) : stAt l (num l st) = st := by
 have := dg_num hv hst (Nat.le_refl _)
 rw [Nat.sub_self, List.drop_zero, List.drop_zero] at this
 rw [stAt, this]
theorem nxtN_rule {s : Sy} {st x : List Int} : ∀ {k : Nat}, x ∈ nxtN s st k → ∃ r, r < k ∧ useM s.1 (s.2.getD r ([], [], [])) st = x ∧ x ≠ []
 | 0, h => by simp [nxtN] at h
 | k + 1, h => by
  simp only [nxtN] at h
  split at h
  ·obtain ⟨r, h1, h2⟩ := nxtN_rule h; exact ⟨r, by omega, h2⟩
  ·rename_i h1
   rcases putM_mem h with rfl | h
   ·exact ⟨k, by omega, rfl, h1⟩
   ·obtain ⟨r, h1, h2⟩ := nxtN_rule h; exact ⟨r, by omega, h2⟩
theorem step_rule {s : Sy} (h : valid s) {a k : Nat} (ha : a < szn s.1) (hk : (k : Int) ∈ (steps s).getD a []) : ∃ r, r < s.2.length ∧ useM s.1 (s.2.getD r ([], [], [])) (stN s a) = stN s k ∧ stN s k ≠ [] := by
 rw [steps, tab_get ha, stepR] at hk
 obtain ⟨x, h1, h2⟩ := List.mem_map.1 hk
 obtain ⟨r, h3, h4, h5⟩ := nxtN_rule h1
 have h6 : stN s k = x := by rw [stN, ← h2]; exact stAt_num h.2.2.1 (nxt_in x h1)
 exact ⟨r, h3, by rw [h6]; exact h4, by rw [h6]; exact h5⟩
theorem stN_first {s : Sy} (h : valid s) {m : Nat} (hm : num s.1 (fst0 s.1) = m) : stN s m = fst0 s.1 := by rw [stN, ← hm]; exact stAt_num h.2.2.1 (fst0_in h.2.2.1)
def fst1 (p : Nat → Bool) : Nat → Int
 | 0 => -1
 | n + 1 => if 0 ≤ fst1 p n then fst1 p n else if p n = true then (n : Int) else -1
theorem fst1_none {p : Nat → Bool} : ∀ {n : Nat}, (∀ j, j < n → ¬ p j = true) → fst1 p n = -1
 | 0, _ => rfl
 | n + 1, h => by rw [fst1, fst1_none fun j hj => h j (by omega), if_neg (by omega), if_neg (h n (by omega))]
theorem fst1_hit {p : Nat → Bool} {i : Nat} (hp : p i = true) (h : ∀ j, j < i → ¬ p j = true) : ∀ {n : Nat}, i < n → fst1 p n = i
 | 0, hi => absurd hi (Nat.not_lt_zero _)
 | n + 1, hi => by
  rw [fst1]
  by_cases g : i < n
  ·rw [fst1_hit hp h g, if_pos (by omega)]
  ·have : i = n := by omega
   subst this
   rw [fst1_none h, if_neg (by omega), if_pos hp]
theorem fst1_ge {p : Nat → Bool} {i n : Nat} (hi : i < n) (hp : p i = true) : 0 ≤ fst1 p n := by
 obtain ⟨d, h1, h2⟩ := least (P := fun i => p i = true) ⟨i, hp⟩
 have : ¬ i < d := fun g => h2 i g hp
 rw [fst1_hit h1 h2 (show d < n by omega)]; omega
def rbt (s : Sy) (a b : List Int) : Int := fst1 (fun r => decide (useM s.1 (s.2.getD r ([], [], [])) a ≠ [] ∧ useM s.1 (s.2.getD r ([], [], [])) a = b)) s.2.length
theorem rbt_step {s : Sy} (h : valid s) {a k : Nat} (ha : a < szn s.1) (hk : (k : Int) ∈ (steps s).getD a []) : 0 ≤ rbt s (stN s a) (stN s k) := by
 obtain ⟨r, h1, h2, h3⟩ := step_rule h ha hk
 exact fst1_ge h1 (decide_eq_true ⟨by rw [h2]; exact h3, h2⟩)
def IsPrd (T : List (List Int)) (f : Nat → Int) (n k a : Nat) : Prop := a < n ∧ f a + 1 = f k ∧ (k : Int) ∈ T.getD a [] ∧ ∀ b, b < a → ¬ (f b + 1 = f k ∧ (k : Int) ∈ T.getD b [])
theorem prd_ex {T : List (List Int)} {F : List Int} {n k : Nat} (ht : Tbl T n) (hF : ∀ x ∈ F, x < n) (h : 0 < dst T F k) : ∃ a, IsPrd T (dst T F) n k a := by
 have key : ∃ a, dst T F a + 1 = dst T F k ∧ (k : Int) ∈ T.getD a [] := by
  obtain ⟨d, hd⟩ : ∃ d : Nat, dst T F k = ((d + 1 : Nat) : Int) := ⟨(dst T F k).toNat - 1, by omega⟩
  have h1 : Lay T F (d + 1) k := dst_le.2 ⟨by omega, by omega⟩
  have h2 : ¬ Lay T F d k := fun g => by have := dst_le.1 g; omega
  rcases h1 with h1 | ⟨a, h1, h3⟩
  ·exact absurd h1 h2
  ·have h4 := dst_le.1 h1
   refine ⟨a, ?_, h3⟩
   have h5 : Lay T F ((dst T F a).toNat + 1) k := .inr ⟨a, dst_le.2 ⟨h4.1, by omega⟩, h3⟩
   have h6 := dst_le.1 h5
   omega
 obtain ⟨a, h1, h2⟩ := least key
 refine ⟨a, ?_, h1.1, h1.2, h2⟩
 have : Rch T F a := dst_rch.1 (by omega)
 exact this.lt ht hF
def Chain (T : List (List Int)) (f : Nat → Int) (n k D : Nat) (ch : Nat → Nat) : Prop := ch D = k ∧ (∀ e, e < D → IsPrd T f n (ch (e + 1)) (ch e)) ∧ ∀ e, e ≤ D → ch e < n ∧ f (ch e) = e
theorem chain_ex {T : List (List Int)} {F : List Int} {n : Nat} (ht : Tbl T n) (hF : ∀ x ∈ F, x < n) : ∀ {D k : Nat}, k < n → dst T F k = D → ∃ ch, Chain T (dst T F) n k D ch
 | 0, k, hk, h => ⟨fun _ => k, rfl, fun e he => absurd he (Nat.not_lt_zero _), fun e he => ⟨hk, by rw [h, show e = 0 by omega]⟩⟩
 | D + 1, k, hk, h => by
  obtain ⟨a, ha⟩ := prd_ex ht hF (show 0 < dst T F k by omega)
  obtain ⟨ch, h1, h2, h3⟩ := chain_ex ht hF (D := D) ha.1 (by have := ha.2.1; omega)
  refine ⟨fun e => if e ≤ D then ch e else k, if_neg (by omega), fun e he => ?_, fun e he => ?_⟩
  ·show IsPrd T (dst T F) n (if e + 1 ≤ D then ch (e + 1) else k) (if e ≤ D then ch e else k)
   by_cases g : e < D
   ·rw [if_pos (show e ≤ D by omega), if_pos (show e + 1 ≤ D by omega)]; exact h2 e g
   ·have : e = D := by omega
    subst this
    rw [if_pos (Nat.le_refl _), if_neg (by omega), h1]; exact ha
  ·show (if e ≤ D then ch e else k) < n ∧ dst T F (if e ≤ D then ch e else k) = e
   by_cases g : e ≤ D
   ·rw [if_pos g]; exact h3 e g
   ·have : e = D + 1 := by omega
    subst this
    rw [if_neg (by omega)]; exact ⟨hk, h⟩
theorem Chain.few {T : List (List Int)} {f : Nat → Int} {n k D : Nat} {ch : Nat → Nat} (h : Chain T f n k D ch) : D < n := by
 have key : ∀ e, e ≤ D → e < (upTo (fun k => decide (0 ≤ f k ∧ f k ≤ (e : Int))) n).length := by
  intro e
  induction e with
  | zero =>
   intro _
   have h1 := h.2.2 0 (by omega)
   exact upTo_pos.2 ⟨ch 0, h1.1, decide_eq_true (by omega)⟩
  | succ e ih =>
   intro he
   have h1 := ih (by omega)
   have h2 := h.2.2 (e + 1) he
   have h3 := upTo_mono (p := fun k => decide (0 ≤ f k ∧ f k ≤ (e : Int))) (q := fun k => decide (0 ≤ f k ∧ f k ≤ ((e + 1 : Nat) : Int))) (n := n) fun k _ hk => decide_eq_true (by have := of_decide_eq_true hk; omega)
   by_cases g : (upTo (fun k => decide (0 ≤ f k ∧ f k ≤ ((e + 1 : Nat) : Int))) n).length ≤ (upTo (fun k => decide (0 ≤ f k ∧ f k ≤ (e : Int))) n).length
   ·have h4 := h3.2 g (ch (e + 1)) h2.1 (decide_eq_true (by omega))
    have h5 := of_decide_eq_true h4
    omega
   ·omega
 have h1 := key D (Nat.le_refl _)
 have h2 := @upTo_len (fun k => decide (0 ≤ f k ∧ f k ≤ (D : Int))) n
 omega
def bst1 (f : Nat → Int) (b x : Int) : Int := if 0 ≤ f x.toNat ∧ (b < 0 ∨ f x.toNat < f b.toNat) then x else b
def bstL (f : Nat → Int) (l : List Int) : Int := l.foldl (bst1 f) (-1)
theorem bstL_snoc {f : Nat → Int} {l : List Int} {x : Int} : bstL f (l ++ [x]) = bst1 f (bstL f l) x := by simp [bstL, List.foldl_append]
def near (p : Nat → Bool) (f : Nat → Int) (n : Nat) : Int := bstL f (upTo p n)
theorem near_next {p : Nat → Bool} {f : Nat → Int} {n : Nat} : near p f (n + 1) = if p n = true then bst1 f (near p f n) n else near p f n := by
 unfold near
 by_cases g : p n = true
 ·rw [upTo_s g, if_pos g, bstL_snoc]
 ·rw [upTo_n g, if_neg g]
theorem near_spec {p : Nat → Bool} {f : Nat → Int} : ∀ {n : Nat}, (near p f n = -1 ∧ ∀ k, k < n → p k = true → f k < 0) ∨ ∃ b : Nat, near p f n = b ∧ b < n ∧ p b = true ∧ 0 ≤ f b ∧ ∀ k, k < n → p k = true → 0 ≤ f k → f b ≤ f k
 | 0 => .inl ⟨rfl, fun k hk => absurd hk (Nat.not_lt_zero _)⟩
 | n + 1 => by
  rw [near_next]
  by_cases g : p n = true
  ·rw [if_pos g, bst1, Int.toNat_natCast]
   rcases @near_spec p f n with ⟨h1, h2⟩ | ⟨b, h1, h2, h3, h4, h5⟩
   ·rw [h1]
    by_cases g2 : 0 ≤ f n
    ·rw [if_pos ⟨g2, .inl (by omega)⟩]
     refine .inr ⟨n, rfl, by omega, g, g2, fun k hk hp hf => ?_⟩
     by_cases e : k = n
     ·subst e; exact Int.le_refl _
     ·have := h2 k (by omega) hp; omega
    ·rw [if_neg fun h => g2 h.1]
     refine .inl ⟨rfl, fun k hk hp => ?_⟩
     by_cases e : k = n
     ·subst e; omega
     ·exact h2 k (by omega) hp
   ·rw [h1, Int.toNat_natCast]
    by_cases g2 : 0 ≤ f n ∧ f n < f b
    ·rw [if_pos ⟨g2.1, .inr g2.2⟩]
     refine .inr ⟨n, rfl, by omega, g, g2.1, fun k hk hp hf => ?_⟩
     by_cases e : k = n
     ·subst e; exact Int.le_refl _
     ·have := h5 k (by omega) hp hf; omega
    ·rw [if_neg fun h => g2 ⟨h.1, h.2.elim (fun h => by omega) id⟩]
     refine .inr ⟨b, rfl, by omega, h3, h4, fun k hk hp hf => ?_⟩
     by_cases e : k = n
     ·subst e; omega
     ·exact h5 k (by omega) hp hf
  ·rw [if_neg g]
   rcases @near_spec p f n with ⟨h1, h2⟩ | ⟨b, h1, h2, h3, h4, h5⟩
   ·refine .inl ⟨h1, fun k hk hp => ?_⟩
    by_cases e : k = n
    ·subst e; exact absurd hp g
    ·exact h2 k (by omega) hp
   ·refine .inr ⟨b, h1, by omega, h3, h4, fun k hk hp hf => ?_⟩
    by_cases e : k = n
    ·subst e; exact absurd hp g
    ·exact h5 k (by omega) hp hf
theorem dst_bd {T : List (List Int)} {F : List Int} {n k : Nat} (ht : Tbl T n) (hF : ∀ x ∈ F, x < n) (hk : k < n) : -1 ≤ dst T F k ∧ dst T F k < n := by
 have h1 : -1 ≤ dst T F k := by unfold dst; split <;> omega
 refine ⟨h1, ?_⟩
 by_cases g : 0 ≤ dst T F k
 ·obtain ⟨ch, hc⟩ := chain_ex ht hF (D := (dst T F k).toNat) hk (by omega)
  have := hc.few
  omega
 ·omega
theorem pastL_lt {T : List (List Int)} {k m : Nat} : ∀ x ∈ pastL T k m, x < (m : Int) := fun x hx => by
 obtain ⟨a, h1, rfl, _⟩ := pastL_mem.1 hx
 omega
theorem pastL_sorted {T : List (List Int)} {k : Nat} : ∀ {m : Nat}, (pastL T k m).Pairwise (· ≤ ·)
 | 0 => List.Pairwise.nil
 | m + 1 => by
  simp only [pastL]
  refine List.pairwise_append.2 ⟨pastL_sorted, ?_, fun x hx y hy => ?_⟩
  ·exact List.pairwise_replicate.2 (.inr (Int.le_refl _))
  ·have h1 := pastL_lt x hx
   have h2 := (List.mem_replicate.1 hy).2
   omega
theorem sorted_get {l : List Int} (h : l.Pairwise (· ≤ ·)) {i j : Nat} (hij : i ≤ j) (hj : j < l.length) : l.getD i 0 ≤ l.getD j 0 := by
 by_cases e : i = j
 ·subst e; exact Int.le_refl _
 ·rw [getD_lt hj, getD_lt (by omega)]
  exact List.pairwise_iff_getElem.1 h i j (by omega) hj (by omega)
noncomputable def dS (s : Sy) (k : Nat) : Int := dst (steps s) [num s.1 (fst0 s.1)] k
noncomputable def nearS (s : Sy) (l : List Tm) : Int := near (holdsN s l) (dS s) (szn s.1)
theorem first_lt {s : Sy} (h : valid s) : ∀ x ∈ [num s.1 (fst0 s.1)], x < (szn s.1 : Int) := fun x hx => by
 have h1 := num_bd h.2.2.1 (fst0_in h.2.2.1)
 have h2 := szn_eq h
 simp only [List.mem_singleton] at hx
 omega
theorem dS_bd {s : Sy} (h : valid s) {k : Nat} (hk : k < szn s.1) : -1 ≤ dS s k ∧ dS s k < szn s.1 := dst_bd (steps_tbl h) (first_lt h) hk
theorem useM_few {s : Sy} (h : valid s) {r : Ru} {a : List Int} : (useM s.1 r a).length ≤ 1048576 := by
 by_cases h0 : useM s.1 r a = []
 ·rw [h0]; simp
 ·have h1 := (useM_in h0).1; have h2 := h.1.2; omega
theorem rbt_next {s : Sy} {a b : List Int} {i : Nat} (hp : ∀ j, j < i → ¬ (¬ useM s.1 (s.2.getD j ([], [], [])) a = [] ∧ useM s.1 (s.2.getD j ([], [], [])) a = b)) : ¬ (¬ useM s.1 (s.2.getD i ([], [], [])) a = [] ∧ useM s.1 (s.2.getD i ([], [], [])) a = b) →
  ∀ j, j < i + 1 → ¬ (¬ useM s.1 (s.2.getD j ([], [], [])) a = [] ∧ useM s.1 (s.2.getD j ([], [], [])) a = b) := by
 intro hn j hj
 rcases Nat.lt_succ_iff_lt_or_eq.1 hj with hj | rfl
 ·exact hp j hj
 ·exact hn
theorem C_spec_l3Between (s : Sy) (a b : List Int) (h : valid s) (ha : inR s.1 a) (hb : b.length ≤ 1048576) (Q : List AV → Prop) : mc.C f_spec_l3Between [⟨L V3, s.1⟩, ⟨L TR, s.2⟩, ⟨L I, a⟩, ⟨L I, b⟩] Q = Q [⟨I, rbt s a b⟩] := by
 refine Mc.Ends.c (mc.ends F_spec_l3Between ?_)
 generalize hK : rbt s a b = K
 simp (contextual := true) (maxSteps := 1000000) (disch := omega) only [↓Sd, ↓So, ↓Sk, ↓den, ↓denA, Sa, Sb, Sc, Se, O1.d, O2.d, O3.d, cmI, arI, envOf, putN, ↓reduceIte, Nat.reduceLT, Nat.reduceSub, Nat.reduceAdd, Int.reduceAdd, Int.reduceEq, Int.reduceLT, Int.reduceLE, arr_pos, arr_neg, tr_spec_l3Between]
 refine mc.lp_for Unit (fun i _ => [⟨L I, a⟩, ⟨L I, b⟩, ⟨I, (i : Int)⟩, ⟨L V3, s.1⟩, ⟨L TR, s.2⟩]) (fun i _ => ∀ j, j < i → ¬ (¬ useM s.1 (s.2.getD j ([], [], [])) a = [] ∧ useM s.1 (s.2.getD j ([], [], [])) a = b)) s.2.length 0 () _ rfl (Nat.zero_le _) (fun j hj => absurd hj (Nat.not_lt_zero _)) ?_ ?_
 ·rintro i - hi hp
  have hu : (useM s.1 (s.2.getD i ([], [], [])) a).length ≤ 1048576 := useM_few h
  have next := rbt_next (s := s) (a := a) (b := b) hp
  have h8 := h.2.1
  have hit : (¬ useM s.1 (s.2.getD i ([], [], [])) a = [] ∧ useM s.1 (s.2.getD i ([], [], [])) a = b) → (i : Int) = K := fun hh => by
   rw [← hK, rbt, fst1_hit (i := i) (decide_eq_true hh) (fun j hj h => hp j hj (of_decide_eq_true h)) hi]
  simp (contextual := true) (maxSteps := 1000000) (disch := omega) only [↓Sd, ↓So, ↓Sk, ↓den, ↓denA, Sa, Sb, Sc, Se, O1.d, O2.d, O3.d, cmI, arI, envOf, putN, ↓reduceIte, Nat.reduceLT, Nat.reduceSub, Nat.reduceAdd, Int.reduceAdd, Int.reduceEq, Int.reduceLT, Int.reduceLE, arr_pos, arr_neg, ↓wpJoin, C_spec_l2Use s a i h ha hi, C_spec_l2Same (useM s.1 (s.2.getD i ([], [], [])) a) b hu hb]
  have hpos : ¬ useM s.1 (s.2.getD i ([], [], [])) a = [] ↔ ((useM s.1 (s.2.getD i ([], [], [])) a).length : Int) > 0 := by
   rw [← ne_eq, ← List.length_pos_iff]; omega
  exact ⟨fun g1 => ⟨fun g2 => hit ⟨hpos.2 g1, g2⟩, fun g2 => next fun h => g2 h.2⟩, fun g1 => next fun h => g1 (hpos.1 h.1)⟩
 ·rintro - hp
  simp (contextual := true) (maxSteps := 1000000) (disch := omega) only [↓Sd, ↓So, ↓Sk, ↓den, ↓denA, Sa, Sb, Sc, Se, O1.d, O2.d, O3.d, cmI, arI, envOf, putN, ↓reduceIte, Nat.reduceLT, Nat.reduceSub, Nat.reduceAdd, Int.reduceAdd, Int.reduceEq, Int.reduceLT, Int.reduceLE, arr_pos, arr_neg, ]
  rw [← hK, rbt, fst1_none fun j hj h => hp j hj (of_decide_eq_true h)]
theorem C_slices_Equal (a b : List Int) (ha : a.length ≤ 1048576) (hb : b.length ≤ 1048576) (Q : List AV → Prop) : mc.C f_slices_Equal_Sint_int [⟨L I, a⟩, ⟨L I, b⟩] Q = Q [⟨B, decide (a = b)⟩] := by
 refine Mc.Ends.c (mc.ends F_slices_Equal_Sint_int ?_)
 generalize hK : decide (a = b) = K
 simp (contextual := true) (maxSteps := 1000000) (disch := omega) only [↓Sd, ↓So, ↓Sk, ↓den, ↓denA, Sa, Sb, Sc, Se, O1.d, O2.d, O3.d, cmI, arI, envOf, putN, ↓reduceIte, Nat.reduceLT, Nat.reduceSub, Nat.reduceAdd, Int.reduceAdd, Int.reduceEq, Int.reduceLT, Int.reduceLE, arr_pos, arr_neg, tr_slices_Equal_Sint_int]
 refine ⟨fun g => ?_, fun g => ?_⟩
 ·rw [← hK, decide_eq_false]; intro h; rw [h] at g; exact g rfl
 ·have hl : a.length = b.length := by omega
  refine lp_all (fun i => [⟨L I, a⟩, ⟨L I, b⟩, ⟨I, (a.length : Int)⟩, ⟨I, (i : Int)⟩]) (fun i => a.getD i 0 = b.getD i 0) a.length _ ?_ ?_ ?_
  ·rw [hl]; rfl
  ·intro i hi
   simp (contextual := true) (maxSteps := 1000000) (disch := omega) only [↓Sd, ↓So, ↓Sk, ↓den, ↓denA, Sa, Sb, Sc, Se, O1.d, O2.d, O3.d, cmI, arI, envOf, putN, ↓reduceIte, Nat.reduceLT, Nat.reduceSub, Nat.reduceAdd, Int.reduceAdd, Int.reduceEq, Int.reduceLT, Int.reduceLE, arr_pos, arr_neg, ]
   intro h
   rw [← hK, decide_eq_false]
   intro h2; rw [h2] at h; exact h rfl
  ·intro h
   simp (contextual := true) (maxSteps := 1000000) (disch := omega) only [↓Sd, ↓So, ↓Sk, ↓den, ↓denA, Sa, Sb, Sc, Se, O1.d, O2.d, O3.d, cmI, arI, envOf, putN, ↓reduceIte, Nat.reduceLT, Nat.reduceSub, Nat.reduceAdd, Int.reduceAdd, Int.reduceEq, Int.reduceLT, Int.reduceLE, arr_pos, arr_neg, ]
   rw [← hK, decide_eq_true]
   refine List.ext_getElem hl fun i h1 h2 => ?_
   have := h i h1
   rwa [getD_lt h1, getD_lt h2] at this
theorem C_impl_ruleBetween (s : Sy) (a b : List Int) (h : valid s) (ha : inR s.1 a) (hb : b.length ≤ 1048576) (Q : List AV → Prop) : mc.C f_impl_ruleBetween [⟨L V3, s.1⟩, ⟨L TR, s.2⟩, ⟨L I, a⟩, ⟨L I, b⟩] Q = Q [⟨I, rbt s a b⟩] := by
 refine Mc.Ends.c (mc.ends F_impl_ruleBetween ?_)
 generalize hK : rbt s a b = K
 simp (contextual := true) (maxSteps := 1000000) (disch := omega) only [↓Sd, ↓So, ↓Sk, ↓den, ↓denA, Sa, Sb, Sc, Se, O1.d, O2.d, O3.d, cmI, arI, envOf, putN, ↓reduceIte, Nat.reduceLT, Nat.reduceSub, Nat.reduceAdd, Int.reduceAdd, Int.reduceEq, Int.reduceLT, Int.reduceLE, arr_pos, arr_neg, tr_impl_ruleBetween]
 refine mc.lp_for Unit (fun i _ => [⟨L I, a⟩, ⟨L I, b⟩, ⟨I, (s.2.length : Int)⟩, ⟨I, (i : Int)⟩, ⟨L V3, s.1⟩, ⟨L TR, s.2⟩]) (fun i _ => ∀ j, j < i → ¬ (¬ useM s.1 (s.2.getD j ([], [], [])) a = [] ∧ useM s.1 (s.2.getD j ([], [], [])) a = b)) s.2.length 0 () _ rfl (Nat.zero_le _) (fun j hj => absurd hj (Nat.not_lt_zero _)) ?_ ?_
 ·rintro i - hi hp
  have hu : (useM s.1 (s.2.getD i ([], [], [])) a).length ≤ 1048576 := useM_few h
  have next := rbt_next (s := s) (a := a) (b := b) hp
  have h8 := h.2.1
  have hit : (¬ useM s.1 (s.2.getD i ([], [], [])) a = [] ∧ useM s.1 (s.2.getD i ([], [], [])) a = b) → (i : Int) = K := fun hh => by
   rw [← hK, rbt, fst1_hit (i := i) (decide_eq_true hh) (fun j hj h => hp j hj (of_decide_eq_true h)) hi]
  simp (contextual := true) (maxSteps := 1000000) (disch := omega) only [↓Sd, ↓So, ↓Sk, ↓den, ↓denA, Sa, Sb, Sc, Se, O1.d, O2.d, O3.d, cmI, arI, envOf, putN, ↓reduceIte, Nat.reduceLT, Nat.reduceSub, Nat.reduceAdd, Int.reduceAdd, Int.reduceEq, Int.reduceLT, Int.reduceLE, arr_pos, arr_neg, ↓wpJoin, C_impl_use s a i h ha hi, C_slices_Equal _ b hu hb]
  exact ⟨fun g1 => ⟨fun g2 => hit ⟨g1, g2⟩, fun g2 => next fun h => g2 h.2⟩, fun g1 => next fun h => h.1 g1⟩
 ·rintro - hp
  simp (contextual := true) (maxSteps := 1000000) (disch := omega) only [↓Sd, ↓So, ↓Sk, ↓den, ↓denA, Sa, Sb, Sc, Se, O1.d, O2.d, O3.d, cmI, arI, envOf, putN, ↓reduceIte, Nat.reduceLT, Nat.reduceSub, Nat.reduceAdd, Int.reduceAdd, Int.reduceEq, Int.reduceLT, Int.reduceLE, arr_pos, arr_neg, ]
  rw [← hK, rbt, fst1_none fun j hj h => hp j hj (of_decide_eq_true h)]
theorem C_impl_RuleBetween (s : Sy) (a b : List Int) (hs : FewSy s) (h : valid s) (ha : inR s.1 a) (hb : inR s.1 b) (Q : List AV → Prop) : mc.C f_impl_RuleBetween [⟨L V3, s.1⟩, ⟨L TR, s.2⟩, ⟨L I, a⟩, ⟨L I, b⟩] Q = Q [⟨I, rbt s a b⟩] := by
 have hla : a.length ≤ 1048576 := by have := ha.1; have := h.1.2; omega
 have hlb : b.length ≤ 1048576 := by have := hb.1; have := h.1.2; omega
 refine Mc.Ends.c (mc.ends F_impl_RuleBetween ?_)
 simp (contextual := true) (maxSteps := 1000000) (disch := omega) only [↓Sd, ↓So, ↓Sk, ↓den, ↓denA, Sa, Sb, Sc, Se, O1.d, O2.d, O3.d, cmI, arI, envOf, putN, ↓reduceIte, Nat.reduceLT, Nat.reduceSub, Nat.reduceAdd, Int.reduceAdd, Int.reduceEq, Int.reduceLT, Int.reduceLE, arr_pos, arr_neg, tr_impl_RuleBetween, C_impl_InRange s a hs h hla, C_impl_inRange s b h.1.2 hlb, ha, hb, C_impl_ruleBetween s a b h ha hlb]
theorem C_impl_lists (l : List (List Int)) (hl : l.length ≤ 1048576) (h : ∀ x ∈ l, x.length ≤ 1048576) (Q : List AV → Prop) : mc.C f_impl_lists [⟨L (L I), l⟩] Q = Q [⟨L (L I), l⟩] := by
 refine Mc.Ends.c (mc.ends F_impl_lists ?_)
 simp (contextual := true) (maxSteps := 1000000) (disch := omega) only [↓Sd, ↓So, ↓Sk, ↓den, ↓denA, Sa, Sb, Sc, Se, O1.d, O2.d, O3.d, cmI, arI, envOf, putN, ↓reduceIte, Nat.reduceLT, Nat.reduceSub, Nat.reduceAdd, Int.reduceAdd, Int.reduceEq, Int.reduceLT, Int.reduceLE, arr_pos, arr_neg, tr_impl_lists]
 refine mc.lp_for (List (List Int)) (fun i o => [⟨L (L I), l⟩, ⟨I, (l.length : Int)⟩, ⟨I, (i : Int)⟩, ⟨L (L I), o⟩]) (fun i o => o = l.take i) l.length 0 [] _ rfl (Nat.zero_le _) rfl ?_ ?_
 ·rintro i o hi rfl
  have h1 := h _ (getD_mem (d := []) hi)
  have h2 : (l.take i).length ≤ 1048576 := by rw [List.length_take]; omega
  simp (contextual := true) (maxSteps := 1000000) (disch := omega) only [↓Sd, ↓So, ↓Sk, ↓den, ↓denA, Sa, Sb, Sc, Se, O1.d, O2.d, O3.d, cmI, arI, envOf, putN, ↓reduceIte, Nat.reduceLT, Nat.reduceSub, Nat.reduceAdd, Int.reduceAdd, Int.reduceEq, Int.reduceLT, Int.reduceLE, arr_pos, arr_neg, C_impl_clone_int (l.getD i []) h1]
  exact take_next hi
 ·rintro o rfl
  simp (contextual := true) (maxSteps := 1000000) (disch := omega) only [↓Sd, ↓So, ↓Sk, ↓den, ↓denA, Sa, Sb, Sc, Se, O1.d, O2.d, O3.d, cmI, arI, envOf, putN, ↓reduceIte, Nat.reduceLT, Nat.reduceSub, Nat.reduceAdd, Int.reduceAdd, Int.reduceEq, Int.reduceLT, Int.reduceLE, arr_pos, arr_neg, C_impl_clone_Sint _ (by rw [List.length_take]; omega : (l.take l.length).length ≤ 1048576)]
  rw [List.take_length]
structure IsRun (s : Sy) (D : Nat) (f : Nat → List Int) : Prop where
 few : D < 500
 first : f 0 = fst0 s.1
 inr : ∀ e, e ≤ D → inR s.1 (f e)
 rule : ∀ e, e < D → 0 ≤ rbt s (f e) (f (e + 1))
def rules (s : Sy) (f : Nat → List Int) (D : Nat) : List Int := tab (fun e => rbt s (f e) (f (e + 1))) D
theorem IsRun.len {s : Sy} {D : Nat} {f : Nat → List Int} (hv : valid s) (h : IsRun s D f) {e : Nat} (he : e ≤ D) : (f e).length ≤ 1048576 := by
 have := (h.inr e he).1
 have := hv.1.2
 omega
theorem C_impl_TraceOf (s : Sy) (D : Nat) (f : Nat → List Int) (hs : FewSy s) (h : valid s) (hr : IsRun s D f) (Q : List AV → Prop) : mc.C f_impl_TraceOf [⟨L V3, s.1⟩, ⟨L TR, s.2⟩, ⟨L (L I), tab f (D + 1)⟩] Q = Q [⟨L (L I), tab f (D + 1)⟩, ⟨L I, rules s f D⟩, ⟨B, true⟩] := by
 have hl : (tab f (D + 1)).length = D + 1 := tab_len
 have hd := hr.few
 have h0 : (tab f (D + 1)).getD 0 [] = fst0 s.1 := by rw [tab_get (by omega)]; exact hr.first
 have hfl : (fst0 s.1).length ≤ 1048576 := by rw [← hr.first]; exact hr.len h (by omega)
 have hall : ∀ x ∈ tab f (D + 1), x.length ≤ 1048576 := fun x hx => by
  obtain ⟨e, he, rfl⟩ := List.mem_map.1 hx
  exact hr.len h (by have := List.mem_range.1 he; omega)
 refine Mc.Ends.c (mc.ends F_impl_TraceOf ?_)
 simp (contextual := true) (maxSteps := 1000000) (disch := omega) only [↓Sd, ↓So, ↓Sk, ↓den, ↓denA, Sa, Sb, Sc, Se, O1.d, O2.d, O3.d, cmI, arI, envOf, putN, ↓reduceIte, Nat.reduceLT, Nat.reduceSub, Nat.reduceAdd, Int.reduceAdd, Int.reduceEq, Int.reduceLT, Int.reduceLE, arr_pos, arr_neg, tr_impl_TraceOf, C_impl_SystemValid s hs, h, hl, C_impl_in, h0, C_impl_first s h.1.2, C_slices_Equal _ _ hfl hfl, C_impl_lists (tab f (D + 1)) (by omega) hall]
 refine mc.lp_for (List Int) (fun i o => [⟨L (L I), tab f (D + 1)⟩, ⟨I, (i : Int)⟩, ⟨L V3, s.1⟩, ⟨L TR, s.2⟩, ⟨L (L I), tab f (D + 1)⟩, ⟨L I, o⟩]) (fun i o => 1 ≤ i ∧ o = rules s f (i - 1)) (D + 1) 1 [] _ rfl (by omega) ⟨Nat.le_refl _, rfl⟩ ?_ ?_
 ·rintro i o hi ⟨h1, rfl⟩
  obtain ⟨e, rfl⟩ : ∃ e, i = e + 1 := ⟨i - 1, by omega⟩
  have e1 : (((e + 1 : Nat) : Int) - 1).toNat = e := by omega
  have e2 : ((e : Int) + 1).toNat = e + 1 := by omega
  have h2 := hr.rule e (by omega)
  have h3 : (rules s f e).length = e := tab_len
  simp (contextual := true) (maxSteps := 1000000) (disch := omega) only [↓Sd, ↓So, ↓Sk, ↓den, ↓denA, Sa, Sb, Sc, Se, O1.d, O2.d, O3.d, cmI, arI, envOf, putN, ↓reduceIte, Nat.reduceLT, Nat.reduceSub, Nat.reduceAdd, Int.reduceAdd, Int.reduceEq, Int.reduceLT, Int.reduceLE, arr_pos, arr_neg, hl, e1, e2, tab_get (show e < D + 1 by omega), tab_get (show e + 1 < D + 1 by omega), C_impl_RuleBetween s (f e) (f (e + 1)) hs h (hr.inr e (by omega)) (hr.inr (e + 1) (by omega)), Nat.add_sub_cancel]
  exact ⟨by omega, tab_next⟩
 ·rintro o ⟨-, rfl⟩
  have h3 : (rules s f D).length = D := tab_len
  simp (contextual := true) (maxSteps := 1000000) (disch := omega) only [↓Sd, ↓So, ↓Sk, ↓den, ↓denA, Sa, Sb, Sc, Se, O1.d, O2.d, O3.d, cmI, arI, envOf, putN, ↓reduceIte, Nat.reduceLT, Nat.reduceSub, Nat.reduceAdd, Int.reduceAdd, Int.reduceEq, Int.reduceLT, Int.reduceLE, arr_pos, arr_neg, hl, Nat.add_sub_cancel, C_impl_clone_int (rules s f D) (by omega)]
theorem C_spec_TraceOf (s : Sy) (D : Nat) (f : Nat → List Int) (hs : FewSy s) (h : valid s) (hr : IsRun s D f) (Q : List AV → Prop) : mc.C f_spec_TraceOf [⟨L V3, s.1⟩, ⟨L TR, s.2⟩, ⟨L (L I), tab f (D + 1)⟩] Q = Q [⟨L (L I), tab f (D + 1)⟩, ⟨L I, rules s f D⟩, ⟨B, true⟩] := by
 have hl : (tab f (D + 1)).length = D + 1 := tab_len
 have hd := hr.few
 have h0 : (tab f (D + 1)).getD 0 [] = fst0 s.1 := by rw [tab_get (by omega)]; exact hr.first
 have hfl : (fst0 s.1).length ≤ 1048576 := by rw [← hr.first]; exact hr.len h (by omega)
 refine Mc.Ends.c (mc.ends F_spec_TraceOf ?_)
 simp (contextual := true) (maxSteps := 1000000) (disch := omega) only [↓Sd, ↓So, ↓Sk, ↓den, ↓denA, Sa, Sb, Sc, Se, O1.d, O2.d, O3.d, cmI, arI, envOf, putN, ↓reduceIte, Nat.reduceLT, Nat.reduceSub, Nat.reduceAdd, Int.reduceAdd, Int.reduceEq, Int.reduceLT, Int.reduceLE, arr_pos, arr_neg, tr_spec_TraceOf, C_spec_SystemValid s hs, h, hl, C_spec_l1In, h0, C_spec_FirstState s hs h, C_spec_l2Same _ _ hfl hfl, C_spec_l3Copy _ hfl]
 refine mc.lp_for (List (List Int) × List Int) (fun i o => [⟨L (L I), tab f (D + 1)⟩, ⟨I, (i : Int)⟩, ⟨L V3, s.1⟩, ⟨L TR, s.2⟩, ⟨L (L I), o.1⟩, ⟨L I, o.2⟩]) (fun i o => 1 ≤ i ∧ o.1 = tab f i ∧ o.2 = rules s f (i - 1)) (D + 1) 1 ([fst0 s.1], []) _ rfl (by omega) ⟨Nat.le_refl _, by rw [← hr.first]; rfl, rfl⟩ ?_ ?_
 ·rintro i ⟨o1, o2⟩ hi ⟨h1, h4, h5⟩
  simp only at h4 h5
  subst h4 h5
  obtain ⟨e, rfl⟩ : ∃ e, i = e + 1 := ⟨i - 1, by omega⟩
  have e1 : (((e + 1 : Nat) : Int) - 1).toNat = e := by omega
  have e2 : ((e : Int) + 1).toNat = e + 1 := by omega
  have h2 := hr.rule e (by omega)
  have h3 : (rules s f e).length = e := tab_len
  have h6 := hr.len h (show e + 1 ≤ D by omega)
  have h7 := hr.inr (e + 1) (by omega)
  have h8 : (tab f (e + 1)).length = e + 1 := tab_len
  simp (contextual := true) (maxSteps := 1000000) (disch := omega) only [↓Sd, ↓So, ↓Sk, ↓den, ↓denA, Sa, Sb, Sc, Se, O1.d, O2.d, O3.d, cmI, arI, envOf, putN, ↓reduceIte, Nat.reduceLT, Nat.reduceSub, Nat.reduceAdd, Int.reduceAdd, Int.reduceEq, Int.reduceLT, Int.reduceLE, arr_pos, arr_neg, hl, e1, e2, tab_get (show e < D + 1 by omega), tab_get (show e + 1 < D + 1 by omega), C_spec_l2In s _ h.1.2 h6, h7, C_spec_l3Between s (f e) (f (e + 1)) h (hr.inr e (by omega)) h6, C_spec_l3Copy _ h6, Nat.add_sub_cancel]
  exact ⟨(_, _), ⟨rfl, rfl⟩, by omega, tab_next, tab_next⟩
 ·rintro ⟨o1, o2⟩ ⟨-, h4, h5⟩
  simp only at h4 h5
  subst h4 h5
  simp (contextual := true) (maxSteps := 1000000) (disch := omega) only [↓Sd, ↓So, ↓Sk, ↓den, ↓denA, Sa, Sb, Sc, Se, O1.d, O2.d, O3.d, cmI, arI, envOf, putN, ↓reduceIte, Nat.reduceLT, Nat.reduceSub, Nat.reduceAdd, Int.reduceAdd, Int.reduceEq, Int.reduceLT, Int.reduceLE, arr_pos, arr_neg, hl, Nat.add_sub_cancel]
theorem C_spec_l5Back (T : List (List Int)) (f : Nat → Int) (n k a : Nat) (ht : Tb8 T n) (hk : k < n) (hf : ∀ k, k < n → -1 ≤ f k ∧ f k < n) (h : IsPrd T f n k a) (Q : List AV → Prop) : mc.C f_spec_l5Back [⟨L (L I), T⟩, ⟨L I, tab f n⟩, ⟨I, (k : Int)⟩] Q = Q [⟨I, (a : Int)⟩] := by
 have hl := ht.1.1
 have hn := ht.2.1
 have hfk := hf k hk
 refine Mc.Ends.c (mc.ends F_spec_l5Back ?_)
 simp (contextual := true) (maxSteps := 1000000) (disch := omega) only [↓Sd, ↓So, ↓Sk, ↓den, ↓denA, Sa, Sb, Sc, Se, O1.d, O2.d, O3.d, cmI, arI, envOf, putN, ↓reduceIte, Nat.reduceLT, Nat.reduceSub, Nat.reduceAdd, Int.reduceAdd, Int.reduceEq, Int.reduceLT, Int.reduceLE, arr_pos, arr_neg, tr_spec_l5Back]
 refine mc.lp_for Unit (fun i _ => [⟨L (L I), T⟩, ⟨L I, tab f n⟩, ⟨I, (k : Int)⟩, ⟨I, (i : Int)⟩]) (fun i _ => i ≤ a) n 0 () _ rfl (Nat.zero_le _) (Nat.zero_le _) ?_ ?_
 ·rintro i - hi hp
  have hfi := hf i hi
  have hrl := ht.2.2 _ (getD_mem (d := []) (show i < T.length by omega))
  have key : (f i = f k - 1 ∧ (k : Int) ∈ T.getD i []) → i = a := fun hh => by
   have : ¬ i < a := fun g => h.2.2.2 i g ⟨by omega, hh.2⟩
   omega
  have nxt : ¬ (f i = f k - 1 ∧ (k : Int) ∈ T.getD i []) → i + 1 ≤ a := fun hh => by
   have : ¬ i = a := fun e => hh (by subst e; exact ⟨by have := h.2.1; omega, h.2.2.1⟩)
   omega
  simp (contextual := true) (maxSteps := 1000000) (disch := omega) only [↓Sd, ↓So, ↓Sk, ↓den, ↓denA, Sa, Sb, Sc, Se, O1.d, O2.d, O3.d, cmI, arI, envOf, putN, ↓reduceIte, Nat.reduceLT, Nat.reduceSub, Nat.reduceAdd, Int.reduceAdd, Int.reduceEq, Int.reduceLT, Int.reduceLE, arr_pos, arr_neg, ↓wpJoin, hl, tab_len, tab_get hi, tab_get hk, C_spec_l2Has (T.getD i []) (k : Int) (by omega)]
  exact ⟨fun g1 => ⟨fun g2 => by rw [key ⟨g1, dB_iff.1 g2⟩], fun g2 => nxt fun h => g2 (dB_t h.2)⟩, fun g1 => nxt fun h => g1 h.1⟩
 ·rintro - hp
  have := h.1
  omega
theorem C_spec_l5Nearest (f : Nat → Int) (p : Nat → Bool) (n : Nat) (hn : n ≤ 1048576) (Q : List AV → Prop) : mc.C f_spec_l5Nearest [⟨L I, tab f n⟩, ⟨L B, tab p n⟩] Q = Q [⟨I, near p f n⟩] := by
 refine Mc.Ends.c (mc.ends F_spec_l5Nearest ?_)
 have hl : (tab f n).length = n := tab_len
 simp (contextual := true) (maxSteps := 1000000) (disch := omega) only [↓Sd, ↓So, ↓Sk, ↓den, ↓denA, Sa, Sb, Sc, Se, O1.d, O2.d, O3.d, cmI, arI, envOf, putN, ↓reduceIte, Nat.reduceLT, Nat.reduceSub, Nat.reduceAdd, Int.reduceAdd, Int.reduceEq, Int.reduceLT, Int.reduceLE, arr_pos, arr_neg, tr_spec_l5Nearest]
 refine mc.lp_for Int (fun i b => [⟨L I, tab f n⟩, ⟨L B, tab p n⟩, ⟨I, b⟩, ⟨I, (i : Int)⟩]) (fun i b => b = near p f i) n 0 (-1) _ rfl (Nat.zero_le _) rfl ?_ ?_
 ·rintro i b hi hb
  rw [near_next]
  have hbd : b = -1 ∨ ∃ k : Nat, b = k ∧ k < i := by
   rcases @near_spec p f i with ⟨h1, -⟩ | ⟨k, h1, h2, -⟩
   ·left; rw [hb, h1]
   ·right; exact ⟨k, by rw [hb, h1], h2⟩
  rw [← hb]
  rcases hbd with rfl | ⟨k, rfl, hk⟩
  ·simp (contextual := true) (maxSteps := 1000000) (disch := omega) only [↓Sd, ↓So, ↓Sk, ↓den, ↓denA, Sa, Sb, Sc, Se, O1.d, O2.d, O3.d, cmI, arI, envOf, putN, ↓reduceIte, Nat.reduceLT, Nat.reduceSub, Nat.reduceAdd, Int.reduceAdd, Int.reduceEq, Int.reduceLT, Int.reduceLE, arr_pos, arr_neg, ↓wpJoin, hl, tab_len, tab_get hi]
   unfold bst1
   rw [Int.toNat_natCast]
   exact fun _ => ⟨fun g => (if_pos ⟨g, .inl (by omega)⟩).symm, fun g => (if_neg fun h => g h.1).symm⟩
  ·simp (contextual := true) (maxSteps := 1000000) (disch := omega) only [↓Sd, ↓So, ↓Sk, ↓den, ↓denA, Sa, Sb, Sc, Se, O1.d, O2.d, O3.d, cmI, arI, envOf, putN, ↓reduceIte, Nat.reduceLT, Nat.reduceSub, Nat.reduceAdd, Int.reduceAdd, Int.reduceEq, Int.reduceLT, Int.reduceLE, arr_pos, arr_neg, ↓wpJoin, hl, tab_len, tab_get hi, tab_get (show k < n by omega)]
   unfold bst1
   rw [Int.toNat_natCast, Int.toNat_natCast]
   exact fun _ => ⟨fun g => ⟨fun g2 => (if_pos ⟨g, .inr g2⟩).symm, fun g2 => (if_neg fun h => h.2.elim (fun h => by omega) g2).symm⟩, fun g => (if_neg fun h => g h.1).symm⟩
 ·rintro b rfl
  simp (contextual := true) (maxSteps := 1000000) (disch := omega) only [↓Sd, ↓So, ↓Sk, ↓den, ↓denA, Sa, Sb, Sc, Se, O1.d, O2.d, O3.d, cmI, arI, envOf, putN, ↓reduceIte, Nat.reduceLT, Nat.reduceSub, Nat.reduceAdd, Int.reduceAdd, Int.reduceEq, Int.reduceLT, Int.reduceLE, arr_pos, arr_neg, hl]
structure IsWay (s : Sy) (l : List Tm) (b D : Nat) (ch : Nat → Nat) : Prop where
 near : nearS s l = b
 lt : b < szn s.1
 holds : holdsN s l b = true
 chain : Chain (steps s) (dS s) (szn s.1) b D ch
theorem way_ex {s : Sy} {l : List Tm} (h : valid s) : nearS s l = -1 ∨ ∃ b D ch, IsWay s l b D ch := by
 rcases @near_spec (holdsN s l) (dS s) (szn s.1) with ⟨h1, -⟩ | ⟨b, h1, h2, h3, h4, -⟩
 ·exact .inl h1
 ·obtain ⟨ch, hc⟩ := chain_ex (steps_tbl h) (first_lt h) (D := (dS s b).toNat) h2 (by have : dst (steps s) [num s.1 (fst0 s.1)] b = dS s b := rfl; omega)
  exact .inr ⟨b, _, ch, h1, h2, h3, hc⟩
noncomputable def wst (s : Sy) (ch : Nat → Nat) (e : Nat) : List Int := stN s (ch e)
theorem Chain.run {s : Sy} {b D : Nat} {ch : Nat → Nat} (h : valid s) (hc : Chain (steps s) (dS s) (szn s.1) b D ch) : IsRun s D (wst s ch) := by
 obtain ⟨m, hm, hmn⟩ := first_n h
 have hz := szn_eq h
 refine ⟨by have := hc.few; omega, ?_, fun e he => stN_in h (hc.2.2 e he).1, fun e he => ?_⟩
 ·have h1 := hc.2.2 0 (by omega)
  have h2 : Lay (steps s) [num s.1 (fst0 s.1)] 0 (ch 0) := dst_le.2 ⟨by have : dst (steps s) [num s.1 (fst0 s.1)] (ch 0) = dS s (ch 0) := rfl; omega, by have : dst (steps s) [num s.1 (fst0 s.1)] (ch 0) = dS s (ch 0) := rfl; omega⟩
  have h3 : ((ch 0 : Nat) : Int) = num s.1 (fst0 s.1) := by simpa [Lay] using h2
  exact stN_first h h3.symm
 ·exact rbt_step h (hc.2.2 e (by omega)).1 (hc.2.1 e he).2.2.1
theorem C_spec_WayTo_no (s : Sy) (l : List Tm) (hs : FewSy s) (hf : Few l) (h : ¬ (valid s ∧ kf l s.1.length = 2)) (Q : List AV → Prop) : mc.C f_spec_WayTo [⟨L V3, s.1⟩, ⟨L TR, s.2⟩, ⟨L T4, l⟩] Q = Q [⟨L (L I), []⟩, ⟨L I, []⟩, ⟨B, false⟩] := by
 refine Mc.Ends.c (mc.ends F_spec_WayTo ?_)
 by_cases hv : valid s
 ·have hk : ¬ kf l s.1.length = 2 := fun g => h ⟨hv, g⟩
  simp (contextual := true) (maxSteps := 1000000) (disch := omega) only [↓Sd, ↓So, ↓Sk, ↓den, ↓denA, Sa, Sb, Sc, Se, O1.d, O2.d, O3.d, cmI, arI, envOf, putN, ↓reduceIte, Nat.reduceLT, Nat.reduceSub, Nat.reduceAdd, Int.reduceAdd, Int.reduceEq, Int.reduceLT, Int.reduceLE, arr_pos, arr_neg, tr_spec_WayTo, C_spec_SystemValid s hs, hv, C_spec_l2Is l s.1.length 2 hf (by omega), hk]
 ·simp (contextual := true) (maxSteps := 1000000) (disch := omega) only [↓Sd, ↓So, ↓Sk, ↓den, ↓denA, Sa, Sb, Sc, Se, O1.d, O2.d, O3.d, cmI, arI, envOf, putN, ↓reduceIte, Nat.reduceLT, Nat.reduceSub, Nat.reduceAdd, Int.reduceAdd, Int.reduceEq, Int.reduceLT, Int.reduceLE, arr_pos, arr_neg, tr_spec_WayTo, C_spec_SystemValid s hs, hv]
end Go.Proofs.YtplibobhcjgcmaaGreat
namespace Go.Proofs.YtplibobhcjgcmaaGreat
open Go Go.Sm Go.Sm.Q
set_option linter.unusedSimpArgs false
set_option linter.unusedVariables false
theorem C_spec_WayTo_none (s : Sy) (l : List Tm) (hs : FewSy s) (hf : Few l) (h : valid s ∧ kf l s.1.length = 2) (hn : nearS s l = -1) (Q : List AV → Prop) : mc.C f_spec_WayTo [⟨L V3, s.1⟩, ⟨L TR, s.2⟩, ⟨L T4, l⟩] Q = Q [⟨L (L I), []⟩, ⟨L I, []⟩, ⟨B, false⟩] := by
 have hv := h.1
 have hz := szn_eq hv
 have hfi := fst0_in hv.2.2.1
 have hbd := num_bd hv.2.2.1 hfi
 have hul : (upTo (holdsN s l) (szn s.1)).length ≤ 400 := upTo_few hv
 refine Mc.Ends.c (mc.ends F_spec_WayTo ?_)
 simp (contextual := true) (maxSteps := 1000000) (disch := omega) only [↓Sd, ↓So, ↓Sk, ↓den, ↓denA, Sa, Sb, Sc, Se, O1.d, O2.d, O3.d, cmI, arI, envOf, putN, ↓reduceIte, Nat.reduceLT, Nat.reduceSub, Nat.reduceAdd, Int.reduceAdd, Int.reduceEq, Int.reduceLT, Int.reduceLE, arr_pos, arr_neg, tr_spec_WayTo, C_spec_SystemValid s hs, hv, C_spec_l2Is l s.1.length 2 hf (by omega), h.2, C_spec_l4Steps s hs hv, C_spec_l5First s hs hv, C_spec_l5Steps (steps s) _ [num s.1 (fst0 s.1)] (szn s.1) (by omega) (steps_tbl hv) (by intro x hx; simp only [List.mem_singleton] at hx; omega) (fun k _ => dB_iff), C_spec_StatesWhere s l hs hf hv h.2, C_spec_SizeOf s hs, if_pos hv, C_spec_l4Marks_i (upTo (holdsN s l) (szn s.1)) (sz s.1) (szn s.1) hz.1.symm (by omega) (by omega) (fun x hx => by obtain ⟨k, h1, rfl, _⟩ := upTo_mem.1 hx; omega), upTo_marks, C_spec_l5Nearest _ (holdsN s l) (szn s.1) (by omega : szn s.1 ≤ 1048576)]
 have e : near (holdsN s l) (dst (steps s) [num s.1 (fst0 s.1)]) (szn s.1) = -1 := hn
 simp (contextual := true) (maxSteps := 1000000) (disch := omega) only [↓Sd, ↓So, ↓Sk, ↓den, ↓denA, Sa, Sb, Sc, Se, O1.d, O2.d, O3.d, cmI, arI, envOf, putN, ↓reduceIte, Nat.reduceLT, Nat.reduceSub, Nat.reduceAdd, Int.reduceAdd, Int.reduceEq, Int.reduceLT, Int.reduceLE, arr_pos, arr_neg, e]
theorem C_spec_WayTo_way (s : Sy) (l : List Tm) (b D : Nat) (ch : Nat → Nat) (hs : FewSy s) (hf : Few l) (h : valid s ∧ kf l s.1.length = 2) (hw : IsWay s l b D ch) (Q : List AV → Prop) : mc.C f_spec_WayTo [⟨L V3, s.1⟩, ⟨L TR, s.2⟩, ⟨L T4, l⟩] Q = Q [⟨L (L I), tab (wst s ch) (D + 1)⟩, ⟨L I, rules s (wst s ch) D⟩, ⟨B, true⟩] := by
 have hv := h.1
 have hz := szn_eq hv
 have hfi := fst0_in hv.2.2.1
 have hbd := num_bd hv.2.2.1 hfi
 have hul : (upTo (holdsN s l) (szn s.1)).length ≤ 400 := upTo_few hv
 have hc := hw.chain
 have hfew := hc.few
 refine Mc.Ends.c (mc.ends F_spec_WayTo ?_)
 simp (contextual := true) (maxSteps := 1000000) (disch := omega) only [↓Sd, ↓So, ↓Sk, ↓den, ↓denA, Sa, Sb, Sc, Se, O1.d, O2.d, O3.d, cmI, arI, envOf, putN, ↓reduceIte, Nat.reduceLT, Nat.reduceSub, Nat.reduceAdd, Int.reduceAdd, Int.reduceEq, Int.reduceLT, Int.reduceLE, arr_pos, arr_neg, tr_spec_WayTo, C_spec_SystemValid s hs, hv, C_spec_l2Is l s.1.length 2 hf (by omega), h.2, C_spec_l4Steps s hs hv, C_spec_l5First s hs hv, C_spec_l5Steps (steps s) _ [num s.1 (fst0 s.1)] (szn s.1) (by omega) (steps_tbl hv) (by intro x hx; simp only [List.mem_singleton] at hx; omega) (fun k _ => dB_iff), C_spec_StatesWhere s l hs hf hv h.2, C_spec_SizeOf s hs, if_pos hv, C_spec_l4Marks_i (upTo (holdsN s l) (szn s.1)) (sz s.1) (szn s.1) hz.1.symm (by omega) (by omega) (fun x hx => by obtain ⟨k, h1, rfl, _⟩ := upTo_mem.1 hx; omega), upTo_marks, C_spec_l5Nearest _ (holdsN s l) (szn s.1) (by omega : szn s.1 ≤ 1048576)]
 have e : near (holdsN s l) (dst (steps s) [num s.1 (fst0 s.1)]) (szn s.1) = b := hw.near
 have e2 : tab (dst (steps s) [num s.1 (fst0 s.1)]) (szn s.1) = tab (dS s) (szn s.1) := rfl
 simp (contextual := true) (maxSteps := 1000000) (disch := omega) only [↓Sd, ↓So, ↓Sk, ↓den, ↓denA, Sa, Sb, Sc, Se, O1.d, O2.d, O3.d, cmI, arI, envOf, putN, ↓reduceIte, Nat.reduceLT, Nat.reduceSub, Nat.reduceAdd, Int.reduceAdd, Int.reduceEq, Int.reduceLT, Int.reduceLE, arr_pos, arr_neg, e, e2]
 refine mc.lp_down (List Int) (fun e o => [⟨L V3, s.1⟩, ⟨L TR, s.2⟩, ⟨L (L I), steps s⟩, ⟨L I, tab (dS s) (szn s.1)⟩, ⟨L I, o⟩]) (fun e o => e ≤ D ∧ o = tab (fun i => ((ch (D - i) : Nat) : Int)) (D + 1 - e)) D [(b : Int)] _ rfl ⟨Nat.le_refl _, by rw [show D + 1 - D = 1 by omega, ← hc.1]; rfl⟩ ?_ ?_
 ·rintro e o ⟨he, rfl⟩
  have hlen : (tab (fun i => ((ch (D - i) : Nat) : Int)) (D + 1 - (e + 1))).length = D - e := by rw [tab_len]; omega
  have hlast : (tab (fun i => ((ch (D - i) : Nat) : Int)) (D + 1 - (e + 1))).getD (D - e - 1) 0 = (ch (e + 1) : Nat) := by rw [tab_get (by omega), show D - (D - e - 1) = e + 1 by omega]
  have hi1 : (((D - e : Nat) : Int) - 1).toNat = D - e - 1 := by omega
  have h1 := hc.2.2 (e + 1) he
  have h2 := hc.2.1 e (by omega)
  simp (contextual := true) (maxSteps := 1000000) (disch := omega) only [↓Sd, ↓So, ↓Sk, ↓den, ↓denA, Sa, Sb, Sc, Se, O1.d, O2.d, O3.d, cmI, arI, envOf, putN, ↓reduceIte, Nat.reduceLT, Nat.reduceSub, Nat.reduceAdd, Int.reduceAdd, Int.reduceEq, Int.reduceLT, Int.reduceLE, arr_pos, arr_neg, hlen, hi1, hlast, tab_len, Int.toNat_natCast, tab_get h1.1, h1.2, C_spec_l5Back (steps s) (dS s) (szn s.1) (ch (e + 1)) (ch e) (steps_tb8 hv) h1.1 (fun k hk => dS_bd hv hk) h2]
  exact ⟨by omega, by rw [show D + 1 - (e + 1) = D - e by omega, show D + 1 - e = (D - e) + 1 by omega, ← tab_next, show D - (D - e) = e by omega]⟩
 ·rintro o ⟨he, rfl⟩
  have hlen : (tab (fun i => ((ch (D - i) : Nat) : Int)) (D + 1 - 0)).length = D + 1 := by rw [tab_len]; omega
  have hlast : (tab (fun i => ((ch (D - i) : Nat) : Int)) (D + 1 - 0)).getD D 0 = (ch 0 : Nat) := by rw [tab_get (by omega), show D - D = 0 by omega]
  have h1 := hc.2.2 0 (by omega)
  simp (contextual := true) (maxSteps := 1000000) (disch := omega) only [↓Sd, ↓So, ↓Sk, ↓den, ↓denA, Sa, Sb, Sc, Se, O1.d, O2.d, O3.d, cmI, arI, envOf, putN, ↓reduceIte, Nat.reduceLT, Nat.reduceSub, Nat.reduceAdd, Int.reduceAdd, Int.reduceEq, Int.reduceLT, Int.reduceLE, arr_pos, arr_neg, hlen, hlast, tab_len, Int.toNat_natCast, tab_get h1.1, h1.2]
  refine mc.lp_down (List (List Int)) (fun e o => [⟨I, (e : Int) - 1⟩, ⟨L V3, s.1⟩, ⟨L TR, s.2⟩, ⟨L I, tab (fun i => ((ch (D - i) : Nat) : Int)) (D + 1 - 0)⟩, ⟨L (L I), o⟩]) (fun e o => e ≤ D + 1 ∧ o = tab (wst s ch) (D + 1 - e)) (D + 1) [] _ (by rw [show ((D + 1 : Nat) : Int) - 1 = D by omega]) ⟨Nat.le_refl _, by rw [Nat.sub_self]; rfl⟩ ?_ ?_
  ·rintro e o ⟨he, rfl⟩
   have e1 : ((e + 1 : Nat) : Int) - 1 = e := by omega
   have hg : (tab (fun i => ((ch (D - i) : Nat) : Int)) (D + 1 - 0)).getD e 0 = (ch (D - e) : Nat) := tab_get (by omega)
   have h3 := hc.2.2 (D - e) (by omega)
   have h4 : (tab (wst s ch) (D + 1 - (e + 1))).length ≤ 1000 := by rw [tab_len]; omega
   simp (contextual := true) (maxSteps := 1000000) (disch := omega) only [↓Sd, ↓So, ↓Sk, ↓den, ↓denA, Sa, Sb, Sc, Se, O1.d, O2.d, O3.d, cmI, arI, envOf, putN, ↓reduceIte, Nat.reduceLT, Nat.reduceSub, Nat.reduceAdd, Int.reduceAdd, Int.reduceEq, Int.reduceLT, Int.reduceLE, arr_pos, arr_neg, e1, hlen, hg, C_spec_l4State s _ hs hv (by omega : (0 : Int) ≤ ((ch (D - e) : Nat) : Int) ∧ ((ch (D - e) : Nat) : Int) ≤ 3200000)]
   exact ⟨by omega, by rw [show D + 1 - (e + 1) = D - e by omega, show D + 1 - e = (D - e) + 1 by omega, ← tab_next]; rfl⟩
  ·rintro o ⟨he, rfl⟩
   rw [Nat.sub_zero]
   simp (contextual := true) (maxSteps := 1000000) (disch := omega) only [↓Sd, ↓So, ↓Sk, ↓den, ↓denA, Sa, Sb, Sc, Se, O1.d, O2.d, O3.d, cmI, arI, envOf, putN, ↓reduceIte, Nat.reduceLT, Nat.reduceSub, Nat.reduceAdd, Int.reduceAdd, Int.reduceEq, Int.reduceLT, Int.reduceLE, arr_pos, arr_neg, C_spec_TraceOf s D (wst s ch) hs hv (hc.run hv)]
theorem C_impl_WayTo_no (s : Sy) (l : List Tm) (hs : FewSy s) (hf : Few l) (h : ¬ (valid s ∧ kf l s.1.length = 2)) (Q : List AV → Prop) : mc.C f_impl_WayTo [⟨L V3, s.1⟩, ⟨L TR, s.2⟩, ⟨L T4, l⟩] Q = Q [⟨L (L I), []⟩, ⟨L I, []⟩, ⟨B, false⟩] := by
 refine Mc.Ends.c (mc.ends F_impl_WayTo ?_)
 simp (contextual := true) (maxSteps := 1000000) (disch := omega) only [↓Sd, ↓So, ↓Sk, ↓den, ↓denA, Sa, Sb, Sc, Se, O1.d, O2.d, O3.d, cmI, arI, envOf, putN, ↓reduceIte, Nat.reduceLT, Nat.reduceSub, Nat.reduceAdd, Int.reduceAdd, Int.reduceEq, Int.reduceLT, Int.reduceLE, arr_pos, arr_neg, tr_impl_WayTo, C_impl_truthOf s l hs hf, h]
theorem bstL_bd {f : Nat → Int} {l : List Int} {n : Nat} (h : ∀ x ∈ l, 0 ≤ x ∧ x < (n : Int)) : ∀ {i : Nat}, i ≤ l.length → bstL f (l.take i) = -1 ∨ ∃ k : Nat, bstL f (l.take i) = k ∧ k < n
 | 0, _ => .inl rfl
 | i + 1, hi => by
  have ih := bstL_bd (f := f) h (i := i) (by omega)
  have hx := h _ (getD_mem (d := 0) (show i < l.length by omega))
  rw [← take_next (d := 0) (show i < l.length by omega), bstL_snoc, bst1]
  split
  ·exact .inr ⟨(l.getD i 0).toNat, by omega, by omega⟩
  ·exact ih
theorem prd_first {T : List (List Int)} {f : Nat → Int} {n k a i : Nat} (h : IsPrd T f n k a) (hi : i < (pastL T k n).length) (h1 : f ((pastL T k n).getD i 0).toNat = f k - 1) (h2 : ∀ j, j < i → ¬ f ((pastL T k n).getD j 0).toNat = f k - 1) : (pastL T k n).getD i 0 = a := by
 obtain ⟨x, hx, hxe, hxT⟩ := pastL_mem.1 (getD_mem (d := 0) hi)
 rw [hxe, Int.toNat_natCast] at h1
 have h3 : ¬ x < a := fun g => h.2.2.2 x g ⟨by omega, hxT⟩
 have ha : (a : Int) ∈ pastL T k n := pastL_mem.2 ⟨a, h.1, rfl, h.2.2.1⟩
 obtain ⟨j, hj, hja⟩ := List.mem_iff_getElem.1 ha
 have hja2 : (pastL T k n).getD j 0 = a := by rw [getD_lt hj]; exact hja
 have h4 : ¬ j < i := fun g => h2 j g (by rw [hja2, Int.toNat_natCast]; have := h.2.1; omega)
 have h5 := sorted_get (pastL_sorted (T := T) (k := k) (m := n)) (i := i) (j := j) (by omega) hj
 rw [hja2, hxe] at h5
 rw [hxe]
 omega
theorem prd_some {T : List (List Int)} {f : Nat → Int} {n k a : Nat} (h : IsPrd T f n k a) (h2 : ∀ j, j < (pastL T k n).length → ¬ f ((pastL T k n).getD j 0).toNat = f k - 1) : False := by
 have ha : (a : Int) ∈ pastL T k n := pastL_mem.2 ⟨a, h.1, rfl, h.2.2.1⟩
 obtain ⟨j, hj, hja⟩ := List.mem_iff_getElem.1 ha
 have hja2 : (pastL T k n).getD j 0 = a := by rw [getD_lt hj]; exact hja
 exact h2 j hj (by rw [hja2, Int.toNat_natCast]; have := h.2.1; omega)
theorem C_impl_WayTo_none (s : Sy) (l : List Tm) (hs : FewSy s) (hf : Few l) (h : valid s ∧ kf l s.1.length = 2) (hne : nearS s l = -1) (Q : List AV → Prop) : mc.C f_impl_WayTo [⟨L V3, s.1⟩, ⟨L TR, s.2⟩, ⟨L T4, l⟩] Q = Q [⟨L (L I), []⟩, ⟨L I, []⟩, ⟨B, false⟩] := by
 have hv := h.1
 have hz := szn_eq hv
 have hfi := fst0_in hv.2.2.1
 obtain ⟨m, hm, hmn⟩ := first_n hv
 have htb := steps_tb8 hv
 have hdb := fun k hk => @dS_bd s hv k hk
 have e2 : tab (dst (steps s) [(m : Int)]) (szn s.1) = tab (dS s) (szn s.1) := by rw [← hm]; rfl
 obtain ⟨n, hn⟩ : ∃ n, szn s.1 = n := ⟨_, rfl⟩
 obtain ⟨W, hW⟩ : ∃ W, upTo (holdsN s l) n = W := ⟨_, rfl⟩
 have hWm : ∀ x ∈ W, 0 ≤ x ∧ x < (n : Int) := fun x hx => by rw [← hW] at hx; obtain ⟨k, h1, rfl, _⟩ := upTo_mem.1 hx; omega
 have hWl : W.length ≤ n := by rw [← hW]; exact upTo_len
 have hN : bstL (dS s) (W.take W.length) = -1 := by rw [List.take_length, ← hW, ← hn]; exact hne
 rw [hn] at hz hmn htb e2 hdb
 refine Mc.Ends.c (mc.ends F_impl_WayTo ?_)
 simp (contextual := true) (maxSteps := 1000000) (disch := omega) only [↓Sd, ↓So, ↓Sk, ↓den, ↓denA, Sa, Sb, Sc, Se, O1.d, O2.d, O3.d, cmI, arI, envOf, putN, ↓reduceIte, Nat.reduceLT, Nat.reduceSub, Nat.reduceAdd, Int.reduceAdd, Int.reduceEq, Int.reduceLT, Int.reduceLE, arr_pos, arr_neg, ↓wpJoin, tr_impl_WayTo, C_impl_truthOf s l hs hf, hv, h.2, C_impl_where s l hv (by omega : kf l s.1.length ≠ 0), hn, C_impl_listOf_tab _ n (by omega : n ≤ 1048576), hW, C_impl_nexts s hv, C_impl_first s hv.1.2, C_impl_number s _ hv.1.2 hv.2.2.1 hfi, hm, C_impl_steps (steps s) m n (by omega) (by omega) htb.1, e2]
 refine mc.lp_for Int (fun i b => [⟨I, b⟩, ⟨I, (W.length : Int)⟩, ⟨I, (i : Int)⟩, ⟨L V3, s.1⟩, ⟨L TR, s.2⟩, ⟨L (L I), steps s⟩, ⟨L I, tab (dS s) n⟩, ⟨L I, W⟩]) (fun i b => b = bstL (dS s) (W.take i)) W.length 0 (-1) _ rfl (Nat.zero_le _) rfl ?_ ?_
 ·rintro i bst hi rfl
  have hx := hWm _ (getD_mem (d := 0) hi)
  obtain ⟨x, hxe⟩ : ∃ x : Nat, W.getD i 0 = x := ⟨(W.getD i 0).toNat, by omega⟩
  have hxn : x < n := by omega
  have nx := bstL_snoc (f := dS s) (l := W.take i) (x := (x : Int))
  rw [← hxe, take_next (d := 0) hi, hxe, bst1, Int.toNat_natCast] at nx
  rw [nx]
  rcases bstL_bd (f := dS s) hWm (i := i) (by omega) with hb | ⟨k, hb, hk⟩
  ·rw [hb]
   simp (contextual := true) (maxSteps := 1000000) (disch := omega) only [↓Sd, ↓So, ↓Sk, ↓den, ↓denA, Sa, Sb, Sc, Se, O1.d, O2.d, O3.d, cmI, arI, envOf, putN, ↓reduceIte, Nat.reduceLT, Nat.reduceSub, Nat.reduceAdd, Int.reduceAdd, Int.reduceEq, Int.reduceLT, Int.reduceLE, arr_pos, arr_neg, ↓wpJoin, hxe, Int.toNat_natCast, tab_len, tab_get hxn]
   exact fun _ => by simp
  ·rw [hb, Int.toNat_natCast]
   simp (contextual := true) (maxSteps := 1000000) (disch := omega) only [↓Sd, ↓So, ↓Sk, ↓den, ↓denA, Sa, Sb, Sc, Se, O1.d, O2.d, O3.d, cmI, arI, envOf, putN, ↓reduceIte, Nat.reduceLT, Nat.reduceSub, Nat.reduceAdd, Int.reduceAdd, Int.reduceEq, Int.reduceLT, Int.reduceLE, arr_pos, arr_neg, ↓wpJoin, hxe, Int.toNat_natCast, tab_len, tab_get hxn, tab_get hk]
   exact fun _ => ⟨fun _ => by simp, fun _ => by simp⟩
 ·rintro bst rfl
  simp (contextual := true) (maxSteps := 1000000) (disch := omega) only [↓Sd, ↓So, ↓Sk, ↓den, ↓denA, Sa, Sb, Sc, Se, O1.d, O2.d, O3.d, cmI, arI, envOf, putN, ↓reduceIte, Nat.reduceLT, Nat.reduceSub, Nat.reduceAdd, Int.reduceAdd, Int.reduceEq, Int.reduceLT, Int.reduceLE, arr_pos, arr_neg, ↓wpJoin, hN]
theorem C_impl_WayTo_way (s : Sy) (l : List Tm) (b D : Nat) (ch : Nat → Nat) (hs : FewSy s) (hf : Few l) (h : valid s ∧ kf l s.1.length = 2) (hw : IsWay s l b D ch) (Q : List AV → Prop) : mc.C f_impl_WayTo [⟨L V3, s.1⟩, ⟨L TR, s.2⟩, ⟨L T4, l⟩] Q = Q [⟨L (L I), tab (wst s ch) (D + 1)⟩, ⟨L I, rules s (wst s ch) D⟩, ⟨B, true⟩] := by
 have hv := h.1
 have hz := szn_eq hv
 have hfi := fst0_in hv.2.2.1
 obtain ⟨m, hm, hmn⟩ := first_n hv
 have htb := steps_tb8 hv
 have hdb := fun k hk => @dS_bd s hv k hk
 have e2 : tab (dst (steps s) [(m : Int)]) (szn s.1) = tab (dS s) (szn s.1) := by rw [← hm]; rfl
 obtain ⟨n, hn⟩ : ∃ n, szn s.1 = n := ⟨_, rfl⟩
 obtain ⟨W, hW⟩ : ∃ W, upTo (holdsN s l) n = W := ⟨_, rfl⟩
 have hWm : ∀ x ∈ W, 0 ≤ x ∧ x < (n : Int) := fun x hx => by rw [← hW] at hx; obtain ⟨k, h1, rfl, _⟩ := upTo_mem.1 hx; omega
 have hWl : W.length ≤ n := by rw [← hW]; exact upTo_len
 have hN : bstL (dS s) (W.take W.length) = b := by rw [List.take_length, ← hW, ← hn]; exact hw.near
 rw [hn] at hz hmn htb e2 hdb
 refine Mc.Ends.c (mc.ends F_impl_WayTo ?_)
 simp (contextual := true) (maxSteps := 1000000) (disch := omega) only [↓Sd, ↓So, ↓Sk, ↓den, ↓denA, Sa, Sb, Sc, Se, O1.d, O2.d, O3.d, cmI, arI, envOf, putN, ↓reduceIte, Nat.reduceLT, Nat.reduceSub, Nat.reduceAdd, Int.reduceAdd, Int.reduceEq, Int.reduceLT, Int.reduceLE, arr_pos, arr_neg, ↓wpJoin, tr_impl_WayTo, C_impl_truthOf s l hs hf, hv, h.2, C_impl_where s l hv (by omega : kf l s.1.length ≠ 0), hn, C_impl_listOf_tab _ n (by omega : n ≤ 1048576), hW, C_impl_nexts s hv, C_impl_first s hv.1.2, C_impl_number s _ hv.1.2 hv.2.2.1 hfi, hm, C_impl_steps (steps s) m n (by omega) (by omega) htb.1, e2]
 refine mc.lp_for Int (fun i b => [⟨I, b⟩, ⟨I, (W.length : Int)⟩, ⟨I, (i : Int)⟩, ⟨L V3, s.1⟩, ⟨L TR, s.2⟩, ⟨L (L I), steps s⟩, ⟨L I, tab (dS s) n⟩, ⟨L I, W⟩]) (fun i b => b = bstL (dS s) (W.take i)) W.length 0 (-1) _ rfl (Nat.zero_le _) rfl ?_ ?_
 ·rintro i bst hi rfl
  have hx := hWm _ (getD_mem (d := 0) hi)
  obtain ⟨x, hxe⟩ : ∃ x : Nat, W.getD i 0 = x := ⟨(W.getD i 0).toNat, by omega⟩
  have hxn : x < n := by omega
  have nx := bstL_snoc (f := dS s) (l := W.take i) (x := (x : Int))
  rw [← hxe, take_next (d := 0) hi, hxe, bst1, Int.toNat_natCast] at nx
  rw [nx]
  rcases bstL_bd (f := dS s) hWm (i := i) (by omega) with hb | ⟨k, hb, hk⟩
  ·rw [hb]
   simp (contextual := true) (maxSteps := 1000000) (disch := omega) only [↓Sd, ↓So, ↓Sk, ↓den, ↓denA, Sa, Sb, Sc, Se, O1.d, O2.d, O3.d, cmI, arI, envOf, putN, ↓reduceIte, Nat.reduceLT, Nat.reduceSub, Nat.reduceAdd, Int.reduceAdd, Int.reduceEq, Int.reduceLT, Int.reduceLE, arr_pos, arr_neg, ↓wpJoin, hxe, Int.toNat_natCast, tab_len, tab_get hxn]
   exact fun _ => by simp
  ·rw [hb, Int.toNat_natCast]
   simp (contextual := true) (maxSteps := 1000000) (disch := omega) only [↓Sd, ↓So, ↓Sk, ↓den, ↓denA, Sa, Sb, Sc, Se, O1.d, O2.d, O3.d, cmI, arI, envOf, putN, ↓reduceIte, Nat.reduceLT, Nat.reduceSub, Nat.reduceAdd, Int.reduceAdd, Int.reduceEq, Int.reduceLT, Int.reduceLE, arr_pos, arr_neg, ↓wpJoin, hxe, Int.toNat_natCast, tab_len, tab_get hxn, tab_get hk]
   exact fun _ => ⟨fun _ => by simp, fun _ => by simp⟩
 ·rintro bst rfl
  have hb := hw.lt
  simp (contextual := true) (maxSteps := 1000000) (disch := omega) only [↓Sd, ↓So, ↓Sk, ↓den, ↓denA, Sa, Sb, Sc, Se, O1.d, O2.d, O3.d, cmI, arI, envOf, putN, ↓reduceIte, Nat.reduceLT, Nat.reduceSub, Nat.reduceAdd, Int.reduceAdd, Int.reduceEq, Int.reduceLT, Int.reduceLE, arr_pos, arr_neg, ↓wpJoin, hN, C_impl_pasts (steps s) n htb]
  have hc := hw.chain
  rw [hn] at hc hb
  have hfew := hc.few
  have hpl : (pasts (steps s) n).length = n := pasts_len
  obtain ⟨way, hway⟩ : ∃ way : Nat → List Int, way = fun e => tab (fun i => ((ch (e + i) : Nat) : Int)) (D + 1 - e) := ⟨_, rfl⟩
  have wlen : ∀ e, e ≤ D → (way e).length = D + 1 - e := fun e _ => by rw [hway]; exact tab_len
  have whead : ∀ e, e ≤ D → (way e).getD 0 0 = (ch e : Nat) := fun e he => by rw [hway]; exact tab_get (by omega)
  have wnext : ∀ e, e < D → [((ch e : Nat) : Int)] ++ way (e + 1) = way e := fun e he => by
   rw [hway]
   simp only [tab]
   rw [show D + 1 - e = (D + 1 - (e + 1)) + 1 by omega, List.range_succ_eq_map, List.map_cons, List.map_map]
   simp only [Nat.add_zero, List.singleton_append, List.cons.injEq, true_and]
   refine List.map_congr_left fun i _ => ?_
   simp only [Function.comp]
   rw [show e + 1 + i = e + i.succ by omega]
  refine mc.lp_down Unit (fun e _ => [⟨L V3, s.1⟩, ⟨L TR, s.2⟩, ⟨L I, tab (dS s) n⟩, ⟨L I, way e⟩, ⟨L (L I), pasts (steps s) n⟩]) (fun e _ => e ≤ D) D () _ ?_ (Nat.le_refl _) ?_ ?_
  ·rw [hway]
   simp only [show D + 1 - D = 1 by omega]
   rw [← hc.1]
   rfl
  ·rintro e - he
   have h1 := hc.2.2 (e + 1) he
   have h0 := hc.2.2 e (by omega)
   have h2 := hc.2.1 e (by omega)
   have hl := wlen (e + 1) he
   have hh := whead (e + 1) he
   have hp := @pastL_len (steps s) (ch (e + 1)) htb.2.2 n
   obtain ⟨row, hrow⟩ : ∃ row, pastL (steps s) (ch (e + 1)) n = row := ⟨_, rfl⟩
   have hpg : (pasts (steps s) n).getD (ch (e + 1)) [] = row := by rw [pasts_get h1.1, hrow]
   have hrm : ∀ x ∈ row, 0 ≤ x ∧ x < (n : Int) := fun x hx => by rw [← hrow] at hx; obtain ⟨a, b1, rfl, _⟩ := pastL_mem.1 hx; omega
   rw [hrow] at hp
   simp (contextual := true) (maxSteps := 1000000) (disch := omega) only [↓Sd, ↓So, ↓Sk, ↓den, ↓denA, Sa, Sb, Sc, Se, O1.d, O2.d, O3.d, cmI, arI, envOf, putN, ↓reduceIte, Nat.reduceLT, Nat.reduceSub, Nat.reduceAdd, Int.reduceAdd, Int.reduceEq, Int.reduceLT, Int.reduceLE, arr_pos, arr_neg, hl, hh, Int.toNat_natCast, tab_len, tab_get h1.1, h1.2]
   refine mc.wp_join (fun us => ∃ j : Nat, j < row.length ∧ row.getD j 0 = (ch e : Nat) ∧ us = [⟨I, (j : Int)⟩, ⟨L V3, s.1⟩, ⟨L TR, s.2⟩, ⟨L I, tab (dS s) n⟩, ⟨L I, way (e + 1)⟩, ⟨L (L I), pasts (steps s) n⟩, ⟨I, ((ch (e + 1) : Nat) : Int)⟩]) ?_ ?_
   ·simp (contextual := true) (maxSteps := 1000000) (disch := omega) only [↓Sd, ↓So, ↓Sk, ↓den, ↓denA, Sa, Sb, Sc, Se, O1.d, O2.d, O3.d, cmI, arI, envOf, putN, ↓reduceIte, Nat.reduceLT, Nat.reduceSub, Nat.reduceAdd, Int.reduceAdd, Int.reduceEq, Int.reduceLT, Int.reduceLE, arr_pos, arr_neg, hl, hh, Int.toNat_natCast, tab_len, hpl, hpg]
    refine mc.lp_for Unit (fun i _ => [⟨I, ((ch (e + 1) : Nat) : Int)⟩, ⟨I, (row.length : Int)⟩, ⟨I, (i : Int)⟩, ⟨L (L I), pasts (steps s) n⟩, ⟨L I, tab (dS s) n⟩, ⟨I, ((ch (e + 1) : Nat) : Int)⟩, ⟨L V3, s.1⟩, ⟨L TR, s.2⟩, ⟨L I, way (e + 1)⟩]) (fun i _ => ∀ j, j < i → ¬ dS s (row.getD j 0).toNat = (e : Int)) row.length 0 () _ rfl (Nat.zero_le _) (fun j hj => absurd hj (Nat.not_lt_zero _)) ?_ ?_
    ·rintro i - hi hno
     have hx := hrm _ (getD_mem (d := 0) hi)
     obtain ⟨x, hxe⟩ : ∃ x : Nat, row.getD i 0 = x := ⟨(row.getD i 0).toNat, by omega⟩
     have hxn : x < n := by omega
     simp (contextual := true) (maxSteps := 1000000) (disch := omega) only [↓Sd, ↓So, ↓Sk, ↓den, ↓denA, Sa, Sb, Sc, Se, O1.d, O2.d, O3.d, cmI, arI, envOf, putN, ↓reduceIte, Nat.reduceLT, Nat.reduceSub, Nat.reduceAdd, Int.reduceAdd, Int.reduceEq, Int.reduceLT, Int.reduceLE, arr_pos, arr_neg, Int.toNat_natCast, tab_len, hpg, hxe, tab_get hxn, tab_get h1.1, h1.2]
     refine ⟨fun g => ⟨i, hi, ?_, rfl⟩, fun g j hj => ?_⟩
     ·have := prd_first h2 (i := i) (by rw [hrow]; exact hi) (by rw [hrow, hxe, Int.toNat_natCast, g, h1.2]; omega) (fun j hj => by rw [hrow, h1.2]; intro h; exact hno j hj (by omega))
      rwa [hrow] at this
     ·rcases Nat.lt_succ_iff_lt_or_eq.1 hj with hj | rfl
      ·exact hno j hj
      ·rw [hxe, Int.toNat_natCast]; exact g
    ·rintro - hno
     exact (prd_some h2 (fun j hj => by rw [hrow] at hj ⊢; rw [h1.2]; intro h; exact hno j hj (by omega))).elim
   ·rintro us ⟨j, hj, hje, rfl⟩
    simp (contextual := true) (maxSteps := 1000000) (disch := omega) only [↓Sd, ↓So, ↓Sk, ↓den, ↓denA, Sa, Sb, Sc, Se, O1.d, O2.d, O3.d, cmI, arI, envOf, putN, ↓reduceIte, Nat.reduceLT, Nat.reduceSub, Nat.reduceAdd, Int.reduceAdd, Int.reduceEq, Int.reduceLT, Int.reduceLE, arr_pos, arr_neg, Int.toNat_natCast, hpl, hpg, hje, hl]
    exact ⟨wnext e he, by omega⟩
  ·rintro - -
   have h1 := hc.2.2 0 (by omega)
   have hl := wlen 0 (by omega)
   have hh := whead 0 (by omega)
   simp (contextual := true) (maxSteps := 1000000) (disch := omega) only [↓Sd, ↓So, ↓Sk, ↓den, ↓denA, Sa, Sb, Sc, Se, O1.d, O2.d, O3.d, cmI, arI, envOf, putN, ↓reduceIte, Nat.reduceLT, Nat.reduceSub, Nat.reduceAdd, Int.reduceAdd, Int.reduceEq, Int.reduceLT, Int.reduceLE, arr_pos, arr_neg, hl, hh, Int.toNat_natCast, tab_len, tab_get h1.1, h1.2]
   refine mc.lp_for (List (List Int)) (fun i o => [⟨I, ((D + 1 - 0 : Nat) : Int)⟩, ⟨I, (i : Int)⟩, ⟨L V3, s.1⟩, ⟨L TR, s.2⟩, ⟨L (L I), o⟩, ⟨L I, way 0⟩]) (fun i o => o = tab (wst s ch) i) (D + 1 - 0) 0 [] _ rfl (Nat.zero_le _) rfl ?_ ?_
   ·rintro i o hi rfl
    have hg : (way 0).getD i 0 = (ch i : Nat) := by rw [hway]; simp only []; rw [tab_get (by omega), Nat.zero_add]
    have h3 := hc.2.2 i (by omega)
    have h4 : (tab (wst s ch) i).length = i := tab_len
    simp (contextual := true) (maxSteps := 1000000) (disch := omega) only [↓Sd, ↓So, ↓Sk, ↓den, ↓denA, Sa, Sb, Sc, Se, O1.d, O2.d, O3.d, cmI, arI, envOf, putN, ↓reduceIte, Nat.reduceLT, Nat.reduceSub, Nat.reduceAdd, Int.reduceAdd, Int.reduceEq, Int.reduceLT, Int.reduceLE, arr_pos, arr_neg, hl, hg, C_impl_stateAt s _ hv.1.2 hv.2.2.1 (by omega : (0 : Int) ≤ ((ch i : Nat) : Int) ∧ ((ch i : Nat) : Int) ≤ 3200000)]
    exact tab_next
   ·rintro o rfl
    rw [Nat.sub_zero]
    have hrun : IsRun s D (wst s ch) := hw.chain.run hv
    have hem : (tab (wst s ch) (D + 1)).isEmpty = false := by rw [List.isEmpty_eq_false_iff]; intro h; have := congrArg List.length h; rw [tab_len] at this; simp at this
    simp (contextual := true) (maxSteps := 1000000) (disch := omega) only [↓Sd, ↓So, ↓Sk, ↓den, ↓denA, Sa, Sb, Sc, Se, O1.d, O2.d, O3.d, cmI, arI, envOf, putN, ↓reduceIte, Nat.reduceLT, Nat.reduceSub, Nat.reduceAdd, Int.reduceAdd, Int.reduceEq, Int.reduceLT, Int.reduceLE, arr_pos, arr_neg, ↓wpJoin, C_impl_TraceOf s D (wst s ch) hs hv hrun, hem]
def SmSS (l : List (List Int)) : Prop := l.length ≤ 4000 ∧ ∀ x ∈ l, x.length ≤ 4000
theorem SmSS.row {l : List (List Int)} (h : SmSS l) (i : Nat) : (l.getD i []).length ≤ 4000 := by
 by_cases hi : i < l.length
 ·exact h.2 _ (getD_mem hi)
 ·rw [List.getD_eq_getElem?_getD, List.getElem?_eq_none (by omega)]; simp
def offN (l : List (List Int)) : Nat → Nat
 | 0 => 0
 | i + 1 => offN l i + (l.getD i []).length
theorem offN_bd {l : List (List Int)} (h : SmSS l) : ∀ i, offN l i ≤ 4000 * i
 | 0 => Nat.le_refl _
 | i + 1 => by
  have := offN_bd h i
  have := h.row i
  simp only [offN]; omega
def mkR (l : List (List Int)) (k : Int) : List (List Int) := tab (fun i => tab (fun j => k + offN l i + (j : Int)) (l.getD i []).length) l.length
theorem tab_self {α : Type} {l : List α} {d : α} : tab (fun i => l.getD i d) l.length = l := by
 refine List.ext_getElem tab_len fun i h1 h2 => ?_
 simp [tab]
 rw [List.getElem?_eq_getElem h2]; rfl
theorem eq_IntSS (l : List (List Int)) (h : SmSS l) (Q : List AV → Prop) : mc.C f_laws_eqIntSS [⟨L (L I), l⟩, ⟨L (L I), l⟩] Q = Q [⟨B, true⟩] := by
 have h1 := h.1
 refine Mc.Ends.c (mc.ends F_laws_eqIntSS ?_)
 simp (contextual := true) (maxSteps := 1000000) (disch := omega) only [↓Sd, ↓So, ↓Sk, ↓den, ↓denA, Sa, Sb, Sc, Se, O1.d, O2.d, O3.d, cmI, arI, envOf, putN, ↓reduceIte, Nat.reduceLT, Nat.reduceSub, Nat.reduceAdd, Int.reduceAdd, Int.reduceEq, Int.reduceLT, Int.reduceLE, arr_pos, arr_neg, tr_laws_eqIntSS]
 refine mc.lp_for Unit (fun i _ => [⟨L (L I), l⟩, ⟨L (L I), l⟩, ⟨I, (i : Int)⟩]) (fun _ _ => True) l.length 0 () _ rfl (Nat.zero_le _) trivial ?_ ?_
 ·rintro i - hi -
  have h2 := h.row i
  simp (contextual := true) (maxSteps := 1000000) (disch := omega) only [↓Sd, ↓So, ↓Sk, ↓den, ↓denA, Sa, Sb, Sc, Se, O1.d, O2.d, O3.d, cmI, arI, envOf, putN, ↓reduceIte, Nat.reduceLT, Nat.reduceSub, Nat.reduceAdd, Int.reduceAdd, Int.reduceEq, Int.reduceLT, Int.reduceLE, arr_pos, arr_neg, eq_IntS (l.getD i []) (few_i (by omega))]
 ·rintro - -
  simp (contextual := true) (maxSteps := 1000000) (disch := omega) only [↓Sd, ↓So, ↓Sk, ↓den, ↓denA, Sa, Sb, Sc, Se, O1.d, O2.d, O3.d, cmI, arI, envOf, putN, ↓reduceIte, Nat.reduceLT, Nat.reduceSub, Nat.reduceAdd, Int.reduceAdd, Int.reduceEq, Int.reduceLT, Int.reduceLE, arr_pos, arr_neg, ]
theorem mk_IntSS (l : List (List Int)) (k : Int) (hk : 0 ≤ k ∧ k ≤ 1000000000000) (h : SmSS l) (Q : List AV → Prop) : mc.C f_laws_markIntSS [⟨L (L I), l⟩, ⟨I, k⟩] Q = Q [⟨I, k + offN l l.length⟩, ⟨L (L I), mkR l k⟩] := by
 have h1 := h.1
 refine Mc.Ends.c (mc.ends F_laws_markIntSS ?_)
 simp (contextual := true) (maxSteps := 1000000) (disch := omega) only [↓Sd, ↓So, ↓Sk, ↓den, ↓denA, Sa, Sb, Sc, Se, O1.d, O2.d, O3.d, cmI, arI, envOf, putN, ↓reduceIte, Nat.reduceLT, Nat.reduceSub, Nat.reduceAdd, Int.reduceAdd, Int.reduceEq, Int.reduceLT, Int.reduceLE, arr_pos, arr_neg, tr_laws_markIntSS]
 refine mc.lp_for (List (List Int)) (fun i o => [⟨I, k + offN l i⟩, ⟨I, (i : Int)⟩, ⟨L (L I), o⟩]) (fun i o => o = tab (fun j => if j < i then tab (fun x => k + offN l j + (x : Int)) (l.getD j []).length else l.getD j []) l.length) l.length 0 l _ (by simp [offN]) (Nat.zero_le _) (by simp only [Nat.not_lt_zero, if_false]; exact tab_self.symm) ?_ ?_
 ·rintro i o hi rfl
  have h2 := h.row i
  have h3 := offN_bd h i
  have e : (if i < i then tab (fun x => k + offN l i + (x : Int)) (l.getD i []).length else l.getD i []) = l.getD i [] := if_neg (Nat.lt_irrefl _)
  have e2 : k + (offN l i : Int) + ((l.getD i []).length : Int) = k + (offN l (i + 1) : Int) := by simp only [offN]; omega
  simp (contextual := true) (maxSteps := 1000000) (disch := omega) only [↓Sd, ↓So, ↓Sk, ↓den, ↓denA, Sa, Sb, Sc, Se, O1.d, O2.d, O3.d, cmI, arI, envOf, putN, ↓reduceIte, Nat.reduceLT, Nat.reduceSub, Nat.reduceAdd, Int.reduceAdd, Int.reduceEq, Int.reduceLT, Int.reduceLE, arr_pos, arr_neg, tab_len, tab_get hi, tab_set', e, mk_IntS (l.getD i []) (k + offN l i) (by omega) (by omega), e2]
  refine tab_congr fun j _ => ?_
  by_cases g : j = i
  ·subst g; rw [if_pos rfl, if_pos (by omega)]
  ·rw [if_neg g]
   by_cases g2 : j < i
   ·rw [if_pos g2, if_pos (by omega)]
   ·rw [if_neg g2, if_neg (by omega)]
 ·rintro o rfl
  simp (contextual := true) (maxSteps := 1000000) (disch := omega) only [↓Sd, ↓So, ↓Sk, ↓den, ↓denA, Sa, Sb, Sc, Se, O1.d, O2.d, O3.d, cmI, arI, envOf, putN, ↓reduceIte, Nat.reduceLT, Nat.reduceSub, Nat.reduceAdd, Int.reduceAdd, Int.reduceEq, Int.reduceLT, Int.reduceLE, arr_pos, arr_neg, tab_len]
  exact tab_congr fun j hj => if_pos hj
theorem held_IntSS (l : List (List Int)) (k : Int) (hk : 0 ≤ k ∧ k ≤ 1000000000000) (h : SmSS l) (Q : List AV → Prop) : mc.C f_laws_heldIntSS [⟨L (L I), mkR l k⟩, ⟨I, k⟩] Q = Q [⟨I, k + offN l l.length⟩] := by
 have h1 := h.1
 have hl : (mkR l k).length = l.length := tab_len
 refine Mc.Ends.c (mc.ends F_laws_heldIntSS ?_)
 simp (contextual := true) (maxSteps := 1000000) (disch := omega) only [↓Sd, ↓So, ↓Sk, ↓den, ↓denA, Sa, Sb, Sc, Se, O1.d, O2.d, O3.d, cmI, arI, envOf, putN, ↓reduceIte, Nat.reduceLT, Nat.reduceSub, Nat.reduceAdd, Int.reduceAdd, Int.reduceEq, Int.reduceLT, Int.reduceLE, arr_pos, arr_neg, tr_laws_heldIntSS]
 refine mc.lp_for Unit (fun i _ => [⟨L (L I), mkR l k⟩, ⟨I, k + offN l i⟩, ⟨I, (i : Int)⟩]) (fun _ _ => True) l.length 0 () _ (by simp [offN]) (Nat.zero_le _) trivial ?_ ?_
 ·rintro i - hi -
  have h2 := h.row i
  have h3 := offN_bd h i
  have hg : (mkR l k).getD i [] = tab (fun j => k + offN l i + (j : Int)) (l.getD i []).length := tab_get hi
  have e2 : k + (offN l i : Int) + ((l.getD i []).length : Int) = k + (offN l (i + 1) : Int) := by simp only [offN]; omega
  simp (contextual := true) (maxSteps := 1000000) (disch := omega) only [↓Sd, ↓So, ↓Sk, ↓den, ↓denA, Sa, Sb, Sc, Se, O1.d, O2.d, O3.d, cmI, arI, envOf, putN, ↓reduceIte, Nat.reduceLT, Nat.reduceSub, Nat.reduceAdd, Int.reduceAdd, Int.reduceEq, Int.reduceLT, Int.reduceLE, arr_pos, arr_neg, hl, hg, held_IntS (l.getD i []).length (k + offN l i) (by omega) (by omega), e2]
 ·rintro - -
  simp (contextual := true) (maxSteps := 1000000) (disch := omega) only [↓Sd, ↓So, ↓Sk, ↓den, ↓denA, Sa, Sb, Sc, Se, O1.d, O2.d, O3.d, cmI, arI, envOf, putN, ↓reduceIte, Nat.reduceLT, Nat.reduceSub, Nat.reduceAdd, Int.reduceAdd, Int.reduceEq, Int.reduceLT, Int.reduceLE, arr_pos, arr_neg, hl]
theorem eq_Trace (X : List (List Int)) (R : List Int) (hX : SmSS X) (hR : R.length ≤ 4000) (Q : List AV → Prop) : mc.C f_laws_eqTrace [⟨L (L I), X⟩, ⟨L I, R⟩, ⟨L (L I), X⟩, ⟨L I, R⟩] Q = Q [⟨B, true⟩] := by
 refine Mc.Ends.c (mc.ends F_laws_eqTrace ?_)
 simp (contextual := true) (maxSteps := 1000000) (disch := omega) only [↓Sd, ↓So, ↓Sk, ↓den, ↓denA, Sa, Sb, Sc, Se, O1.d, O2.d, O3.d, cmI, arI, envOf, putN, ↓reduceIte, Nat.reduceLT, Nat.reduceSub, Nat.reduceAdd, Int.reduceAdd, Int.reduceEq, Int.reduceLT, Int.reduceLE, arr_pos, arr_neg, tr_laws_eqTrace, eq_IntSS X hX, eq_IntS R (few_i (by omega))]
theorem mk_Trace (X : List (List Int)) (R : List Int) (hX : SmSS X) (hR : R.length ≤ 4000) (Q : List AV → Prop) : mc.C f_laws_markTrace [⟨L (L I), X⟩, ⟨L I, R⟩, ⟨I, 1⟩] Q = Q [⟨I, 1 + offN X X.length + R.length⟩, ⟨L (L I), mkR X 1⟩, ⟨L I, tab (fun i => 1 + (offN X X.length : Int) + (i : Int)) R.length⟩] := by
 have h1 := offN_bd hX X.length
 have h2 := hX.1
 refine Mc.Ends.c (mc.ends F_laws_markTrace ?_)
 simp (contextual := true) (maxSteps := 1000000) (disch := omega) only [↓Sd, ↓So, ↓Sk, ↓den, ↓denA, Sa, Sb, Sc, Se, O1.d, O2.d, O3.d, cmI, arI, envOf, putN, ↓reduceIte, Nat.reduceLT, Nat.reduceSub, Nat.reduceAdd, Int.reduceAdd, Int.reduceEq, Int.reduceLT, Int.reduceLE, arr_pos, arr_neg, tr_laws_markTrace, mk_IntSS X 1 (by omega) hX, mk_IntS R (1 + offN X X.length) (by omega) (by omega)]
theorem held_Trace (X : List (List Int)) (n : Nat) (hX : SmSS X) (hR : n ≤ 4000) (Q : List AV → Prop) : mc.C f_laws_heldTrace [⟨L (L I), mkR X 1⟩, ⟨L I, tab (fun i => 1 + (offN X X.length : Int) + (i : Int)) n⟩, ⟨I, 1⟩] Q = Q [⟨I, 1 + offN X X.length + n⟩] := by
 have h1 := offN_bd hX X.length
 have h2 := hX.1
 refine Mc.Ends.c (mc.ends F_laws_heldTrace ?_)
 simp (contextual := true) (maxSteps := 1000000) (disch := omega) only [↓Sd, ↓So, ↓Sk, ↓den, ↓denA, Sa, Sb, Sc, Se, O1.d, O2.d, O3.d, cmI, arI, envOf, putN, ↓reduceIte, Nat.reduceLT, Nat.reduceSub, Nat.reduceAdd, Int.reduceAdd, Int.reduceEq, Int.reduceLT, Int.reduceLE, arr_pos, arr_neg, tr_laws_heldTrace, held_IntSS X 1 (by omega) hX, held_IntS n (1 + offN X X.length) (by omega) (by omega)]
theorem IsRun.sm {s : Sy} {D : Nat} {f : Nat → List Int} (hv : valid s) (h : IsRun s D f) : SmSS (tab f (D + 1)) ∧ (rules s f D).length ≤ 4000 := by
 have hd := h.few
 refine ⟨⟨by rw [tab_len]; omega, fun x hx => ?_⟩, ?_⟩
 ·obtain ⟨e, he, rfl⟩ := List.mem_map.1 hx
  have h1 := (h.inr e (by have := List.mem_range.1 he; omega)).1
  have h2 := hv.1.2
  omega
 ·show (tab _ D).length ≤ 4000
  rw [tab_len]; omega
theorem ways (s : Sy) (l : List Tm) (hs : FewSy s) (hf : Few l) : ∃ (X : List (List Int)) (R : List Int) (ok : Bool), SmSS X ∧ R.length ≤ 4000 ∧ (∀ Q : List AV → Prop, mc.C f_spec_WayTo [⟨L V3, s.1⟩, ⟨L TR, s.2⟩, ⟨L T4, l⟩] Q = Q [⟨L (L I), X⟩, ⟨L I, R⟩, ⟨B, ok⟩]) ∧ ∀ Q : List AV → Prop, mc.C f_impl_WayTo [⟨L V3, s.1⟩, ⟨L TR, s.2⟩, ⟨L T4, l⟩] Q = Q [⟨L (L I), X⟩, ⟨L I, R⟩, ⟨B, ok⟩] := by
 by_cases h : valid s ∧ kf l s.1.length = 2
 ·rcases way_ex (l := l) h.1 with hn | ⟨b, D, ch, hw⟩
  ·exact ⟨[], [], false, ⟨by simp, by simp⟩, by simp, C_spec_WayTo_none s l hs hf h hn, C_impl_WayTo_none s l hs hf h hn⟩
  ·have hr := (hw.chain.run h.1).sm h.1
   exact ⟨_, _, true, hr.1, hr.2, C_spec_WayTo_way s l b D ch hs hf h hw, C_impl_WayTo_way s l b D ch hs hf h hw⟩
 ·exact ⟨[], [], false, ⟨by simp, by simp⟩, by simp, C_spec_WayTo_no s l hs hf h, C_impl_WayTo_no s l hs hf h⟩
theorem law_FnExactWayTo (s : Sy) (l : List Tm) (hs : LtSy s) (hl : Lt63 l) : mc.C f_laws_FnExactWayTo [⟨L V3, s.1⟩, ⟨L TR, s.2⟩, ⟨L T4, l⟩] (· = [⟨B, true⟩]) := by
 refine mc.c_of F_laws_FnExactWayTo ?_
 simp (contextual := true) (maxSteps := 1000000) (disch := omega) only [↓Sd, ↓So, ↓Sk, ↓den, ↓denA, Sa, Sb, Sc, Se, O1.d, O2.d, O3.d, cmI, arI, envOf, putN, ↓reduceIte, Nat.reduceLT, Nat.reduceSub, Nat.reduceAdd, Int.reduceAdd, Int.reduceEq, Int.reduceLT, Int.reduceLE, arr_pos, arr_neg, tr_laws_FnExactWayTo]
 refine sz_System s _ (by omega) hs fun j h2 h3 => ?_
 simp (contextual := true) (maxSteps := 1000000) (disch := omega) only [↓Sd, ↓So, ↓Sk, ↓den, ↓denA, Sa, Sb, Sc, Se, O1.d, O2.d, O3.d, cmI, arI, envOf, putN, ↓reduceIte, Nat.reduceLT, Nat.reduceSub, Nat.reduceAdd, Int.reduceAdd, Int.reduceEq, Int.reduceLT, Int.reduceLE, arr_pos, arr_neg, ]
 intro h4
 have hs := h3 (by omega)
 refine sz_TermS l _ (by omega) hl fun j2 h5 h6 => ?_
 simp (contextual := true) (maxSteps := 1000000) (disch := omega) only [↓Sd, ↓So, ↓Sk, ↓den, ↓denA, Sa, Sb, Sc, Se, O1.d, O2.d, O3.d, cmI, arI, envOf, putN, ↓reduceIte, Nat.reduceLT, Nat.reduceSub, Nat.reduceAdd, Int.reduceAdd, Int.reduceEq, Int.reduceLT, Int.reduceLE, arr_pos, arr_neg, ]
 intro h7
 have hf := h6 (by omega)
 obtain ⟨X, R, ok, hX, hR, hspec, himpl⟩ := ways s l hs hf
 simp (contextual := true) (maxSteps := 1000000) (disch := omega) only [↓Sd, ↓So, ↓Sk, ↓den, ↓denA, Sa, Sb, Sc, Se, O1.d, O2.d, O3.d, cmI, arI, envOf, putN, ↓reduceIte, Nat.reduceLT, Nat.reduceSub, Nat.reduceAdd, Int.reduceAdd, Int.reduceEq, Int.reduceLT, Int.reduceLE, arr_pos, arr_neg, to_System s hs, to_TermS l hf, hspec, himpl, eq_Trace X R hX hR, eq_System s hs, eq_TermS l hf]
 refine mk_System s 1 (by omega) hs fun k' v r hk' => ?_
 simp (contextual := true) (maxSteps := 1000000) (disch := omega) only [↓Sd, ↓So, ↓Sk, ↓den, ↓denA, Sa, Sb, Sc, Se, O1.d, O2.d, O3.d, cmI, arI, envOf, putN, ↓reduceIte, Nat.reduceLT, Nat.reduceSub, Nat.reduceAdd, Int.reduceAdd, Int.reduceEq, Int.reduceLT, Int.reduceLE, arr_pos, arr_neg, ]
 refine mk_TermS l k' (by omega) hf fun l' => ?_
 have hfl : l.length ≤ 1048576 := hf
 simp (contextual := true) (maxSteps := 1000000) (disch := omega) only [↓Sd, ↓So, ↓Sk, ↓den, ↓denA, Sa, Sb, Sc, Se, O1.d, O2.d, O3.d, cmI, arI, envOf, putN, ↓reduceIte, Nat.reduceLT, Nat.reduceSub, Nat.reduceAdd, Int.reduceAdd, Int.reduceEq, Int.reduceLT, Int.reduceLE, arr_pos, arr_neg, eq_Trace X R hX hR, mk_Trace X R hX hR, held_Trace X R.length hX hR, to_System s hs, to_TermS l hf, himpl]
 have := Int.natCast_nonneg (offN X X.length)
 intro h
 omega
def fOk (s : Sy) (F : List (List Tm)) : Prop := valid s ∧ F.length ≤ 4 ∧ ∀ i, i < F.length → kf (F.getD i []) s.1.length = 2
instance (s : Sy) (F : List (List Tm)) : Decidable (fOk s F) := by unfold fOk; infer_instance
def FewSS (F : List (List Tm)) : Prop := Few F ∧ ∀ x ∈ F, Few x
theorem FewSS.row {F : List (List Tm)} (h : FewSS F) (i : Nat) : Few (F.getD i []) := by
 by_cases hi : i < F.length
 ·exact h.2 _ (getD_mem hi)
 ·rw [List.getD_eq_getElem?_getD, List.getElem?_eq_none (by omega)]; simp [Few]
def ltr (F : List (List Tm)) (st : List Int) : List Int := tab (fun i => evl (F.getD i []) st) F.length
def onw (s : Sy) : List (List Int) := tab (fun k => if (steps s).getD k [] = [] then [(k : Int)] else (steps s).getD k []) (szn s.1)
def ltrs (s : Sy) (F : List (List Tm)) : List (List Int) := tab (fun k => ltr F (stN s k)) (szn s.1)
theorem C_spec_l20Facts (s : Sy) (F : List (List Tm)) (hs : FewSy s) (hF : FewSS F) (Q : List AV → Prop) : mc.C f_spec_l20Facts [⟨L V3, s.1⟩, ⟨L TR, s.2⟩, ⟨L (L T4), F⟩] Q = Q [⟨B, decide (fOk s F)⟩] := by
 have hl : F.length ≤ 1048576 := hF.1
 refine Mc.Ends.c (mc.ends F_spec_l20Facts ?_)
 generalize hK : decide (fOk s F) = K
 simp (contextual := true) (maxSteps := 1000000) (disch := omega) only [↓Sd, ↓So, ↓Sk, ↓den, ↓denA, Sa, Sb, Sc, Se, O1.d, O2.d, O3.d, cmI, arI, envOf, putN, ↓reduceIte, Nat.reduceLT, Nat.reduceSub, Nat.reduceAdd, Int.reduceAdd, Int.reduceEq, Int.reduceLT, Int.reduceLE, arr_pos, arr_neg, tr_spec_l20Facts]
 refine lp_all (fun i => [⟨L (L T4), F⟩, ⟨I, (i : Int)⟩, ⟨L V3, s.1⟩, ⟨L TR, s.2⟩]) (fun i => kf (F.getD i []) s.1.length = 2) F.length _ rfl ?_ ?_
 ·intro i hi
  simp (contextual := true) (maxSteps := 1000000) (disch := omega) only [↓Sd, ↓So, ↓Sk, ↓den, ↓denA, Sa, Sb, Sc, Se, O1.d, O2.d, O3.d, cmI, arI, envOf, putN, ↓reduceIte, Nat.reduceLT, Nat.reduceSub, Nat.reduceAdd, Int.reduceAdd, Int.reduceEq, Int.reduceLT, Int.reduceLE, arr_pos, arr_neg, C_spec_l2Is (F.getD i []) s.1.length 2 (hF.row i) (by omega)]
  intro g
  rw [← hK, decide_eq_false fun h => g (h.2.2 i hi)]
 ·intro h
  simp (contextual := true) (maxSteps := 1000000) (disch := omega) only [↓Sd, ↓So, ↓Sk, ↓den, ↓denA, Sa, Sb, Sc, Se, O1.d, O2.d, O3.d, cmI, arI, envOf, putN, ↓reduceIte, Nat.reduceLT, Nat.reduceSub, Nat.reduceAdd, Int.reduceAdd, Int.reduceEq, Int.reduceLT, Int.reduceLE, arr_pos, arr_neg, C_spec_SystemValid s hs]
  refine ⟨fun hv => ?_, fun hv => by rw [← hK, decide_eq_false fun h => hv h.1]⟩
  rw [← hK]
  exact decide_eq_decide.2 ⟨fun g => ⟨hv, by omega, h⟩, fun g => by have := g.2.1; omega⟩
theorem C_impl_factsOk (s : Sy) (F : List (List Tm)) (hs : FewSy s) (hF : FewSS F) (Q : List AV → Prop) : mc.C f_impl_factsOk [⟨L V3, s.1⟩, ⟨L TR, s.2⟩, ⟨L (L T4), F⟩] Q = Q [⟨B, decide (fOk s F)⟩] := by
 have hl : F.length ≤ 1048576 := hF.1
 refine Mc.Ends.c (mc.ends F_impl_factsOk ?_)
 generalize hK : decide (fOk s F) = K
 simp (contextual := true) (maxSteps := 1000000) (disch := omega) only [↓Sd, ↓So, ↓Sk, ↓den, ↓denA, Sa, Sb, Sc, Se, O1.d, O2.d, O3.d, cmI, arI, envOf, putN, ↓reduceIte, Nat.reduceLT, Nat.reduceSub, Nat.reduceAdd, Int.reduceAdd, Int.reduceEq, Int.reduceLT, Int.reduceLE, arr_pos, arr_neg, tr_impl_factsOk, C_impl_SystemValid s hs]
 refine ⟨fun hv => ⟨fun h4 => ?_, fun h4 => by rw [← hK, decide_eq_false fun h => h4 (by have := h.2.1; omega)]⟩, fun hv => by rw [← hK, decide_eq_false fun h => hv h.1]⟩
 refine lp_all (fun i => [⟨L (L T4), F⟩, ⟨I, (F.length : Int)⟩, ⟨I, (i : Int)⟩, ⟨L V3, s.1⟩, ⟨L TR, s.2⟩]) (fun i => kf (F.getD i []) s.1.length = 2) F.length _ rfl ?_ ?_
 ·intro i hi
  simp (contextual := true) (maxSteps := 1000000) (disch := omega) only [↓Sd, ↓So, ↓Sk, ↓den, ↓denA, Sa, Sb, Sc, Se, O1.d, O2.d, O3.d, cmI, arI, envOf, putN, ↓reduceIte, Nat.reduceLT, Nat.reduceSub, Nat.reduceAdd, Int.reduceAdd, Int.reduceEq, Int.reduceLT, Int.reduceLE, arr_pos, arr_neg, C_impl_kindOf (F.getD i []) s.1.length (hF.row i)]
  intro g
  have hno : ¬ fOk s F := fun h => g (h.2.2 i hi)
  rw [← hK, decide_eq_false hno]
  simp
 ·intro h
  simp (contextual := true) (maxSteps := 1000000) (disch := omega) only [↓Sd, ↓So, ↓Sk, ↓den, ↓denA, Sa, Sb, Sc, Se, O1.d, O2.d, O3.d, cmI, arI, envOf, putN, ↓reduceIte, Nat.reduceLT, Nat.reduceSub, Nat.reduceAdd, Int.reduceAdd, Int.reduceEq, Int.reduceLT, Int.reduceLE, arr_pos, arr_neg, ]
  rw [← hK, decide_eq_true (p := fOk s F) ⟨hv, by omega, h⟩]
  rfl
theorem C_spec_l20Of (F : List (List Tm)) (st : List Int) (hl : F.length ≤ 4) (h : ∀ i, i < F.length → kf (F.getD i []) st.length = 2) (hb : Bds st) (Q : List AV → Prop) : mc.C f_spec_l20Of [⟨L (L T4), F⟩, ⟨L I, st⟩] Q = Q [⟨L I, ltr F st⟩] := by
 refine Mc.Ends.c (mc.ends F_spec_l20Of ?_)
 simp (contextual := true) (maxSteps := 1000000) (disch := omega) only [↓Sd, ↓So, ↓Sk, ↓den, ↓denA, Sa, Sb, Sc, Se, O1.d, O2.d, O3.d, cmI, arI, envOf, putN, ↓reduceIte, Nat.reduceLT, Nat.reduceSub, Nat.reduceAdd, Int.reduceAdd, Int.reduceEq, Int.reduceLT, Int.reduceLE, arr_pos, arr_neg, tr_spec_l20Of]
 refine mc.lp_for (List Int) (fun i o => [⟨L (L T4), F⟩, ⟨L I, st⟩, ⟨I, (i : Int)⟩, ⟨L I, o⟩]) (fun i o => o = tab (fun i => evl (F.getD i []) st) i) F.length 0 [] _ rfl (Nat.zero_le _) rfl ?_ ?_
 ·rintro i o hi rfl
  have h1 := h i hi
  simp (contextual := true) (maxSteps := 1000000) (disch := omega) only [↓Sd, ↓So, ↓Sk, ↓den, ↓denA, Sa, Sb, Sc, Se, O1.d, O2.d, O3.d, cmI, arI, envOf, putN, ↓reduceIte, Nat.reduceLT, Nat.reduceSub, Nat.reduceAdd, Int.reduceAdd, Int.reduceEq, Int.reduceLT, Int.reduceLE, arr_pos, arr_neg, tab_len, C_spec_l2Last (F.getD i []) st st.length (by omega) hb rfl]
  exact tab_next
 ·rintro o rfl
  simp (contextual := true) (maxSteps := 1000000) (disch := omega) only [↓Sd, ↓So, ↓Sk, ↓den, ↓denA, Sa, Sb, Sc, Se, O1.d, O2.d, O3.d, cmI, arI, envOf, putN, ↓reduceIte, Nat.reduceLT, Nat.reduceSub, Nat.reduceAdd, Int.reduceAdd, Int.reduceEq, Int.reduceLT, Int.reduceLE, arr_pos, arr_neg, ]
  rfl
theorem C_impl_letters (F : List (List Tm)) (st : List Int) (hl : F.length ≤ 4) (h : ∀ i, i < F.length → kf (F.getD i []) st.length = 2) (hb : Bds st) (Q : List AV → Prop) : mc.C f_impl_letters [⟨L (L T4), F⟩, ⟨L I, st⟩] Q = Q [⟨L I, ltr F st⟩] := by
 refine Mc.Ends.c (mc.ends F_impl_letters ?_)
 simp (contextual := true) (maxSteps := 1000000) (disch := omega) only [↓Sd, ↓So, ↓Sk, ↓den, ↓denA, Sa, Sb, Sc, Se, O1.d, O2.d, O3.d, cmI, arI, envOf, putN, ↓reduceIte, Nat.reduceLT, Nat.reduceSub, Nat.reduceAdd, Int.reduceAdd, Int.reduceEq, Int.reduceLT, Int.reduceLE, arr_pos, arr_neg, tr_impl_letters]
 refine mc.lp_for (List Int) (fun i o => [⟨L I, st⟩, ⟨L (L T4), F⟩, ⟨I, (F.length : Int)⟩, ⟨I, (i : Int)⟩, ⟨L I, o⟩]) (fun i o => o = tab (fun j => if j < i then evl (F.getD j []) st else 0) F.length) F.length 0 (List.replicate F.length 0) _ rfl (Nat.zero_le _) (by rw [rep_tab]; rfl) ?_ ?_
 ·rintro i o hi rfl
  have h1 := h i hi
  simp (contextual := true) (maxSteps := 1000000) (disch := omega) only [↓Sd, ↓So, ↓Sk, ↓den, ↓denA, Sa, Sb, Sc, Se, O1.d, O2.d, O3.d, cmI, arI, envOf, putN, ↓reduceIte, Nat.reduceLT, Nat.reduceSub, Nat.reduceAdd, Int.reduceAdd, Int.reduceEq, Int.reduceLT, Int.reduceLE, arr_pos, arr_neg, tab_len, C_impl_eval (F.getD i []) st st.length (by omega) hb rfl, tab_set']
  refine tab_congr fun k _ => ?_
  by_cases e : k = i
  ·subst e; rw [if_pos rfl, if_pos (by omega)]
  ·rw [if_neg e]
   by_cases e2 : k < i
   ·rw [if_pos e2, if_pos (by omega)]
   ·rw [if_neg e2, if_neg (by omega)]
 ·rintro o rfl
  simp (contextual := true) (maxSteps := 1000000) (disch := omega) only [↓Sd, ↓So, ↓Sk, ↓den, ↓denA, Sa, Sb, Sc, Se, O1.d, O2.d, O3.d, cmI, arI, envOf, putN, ↓reduceIte, Nat.reduceLT, Nat.reduceSub, Nat.reduceAdd, Int.reduceAdd, Int.reduceEq, Int.reduceLT, Int.reduceLE, arr_pos, arr_neg, ]
  exact tab_congr fun k hk => if_pos hk
def onwN (s : Sy) (i : Nat) : List (List Int) := tab (fun k => if k < i ∧ (steps s).getD k [] = [] then [(k : Int)] else (steps s).getD k []) (szn s.1)
theorem onwN_0 {s : Sy} : onwN s 0 = steps s := by
 have hl : (steps s).length = szn s.1 := tab_len
 refine Eq.trans ?_ (tab_self (l := steps s) (d := []))
 rw [onwN, hl]
 exact tab_congr fun k _ => if_neg fun h => by omega
theorem onwN_n {s : Sy} : onwN s (szn s.1) = onw s := tab_congr fun k hk => by
 by_cases g : (steps s).getD k [] = []
 ·rw [if_pos ⟨hk, g⟩, if_pos g]
 ·rw [if_neg fun h => g h.2, if_neg g]
theorem onwN_get {s : Sy} {i : Nat} (hi : i < szn s.1) : (onwN s i).getD i [] = (steps s).getD i [] := by
 rw [onwN, tab_get hi, if_neg fun h => by omega]
theorem onwN_set {s : Sy} {i : Nat} (hi : i < szn s.1) (h : (steps s).getD i [] = []) : (onwN s i).set i [(i : Int)] = onwN s (i + 1) := by
 rw [onwN, tab_set']
 refine tab_congr fun k _ => ?_
 by_cases e : k = i
 ·subst e; rw [if_pos rfl, if_pos ⟨by omega, h⟩]
 ·rw [if_neg e]
  by_cases e2 : k < i ∧ (steps s).getD k [] = []
  ·rw [if_pos e2, if_pos ⟨by omega, e2.2⟩]
  ·rw [if_neg e2, if_neg fun h => e2 ⟨by omega, h.2⟩]
theorem onwN_keep {s : Sy} {i : Nat} (h : ¬ (steps s).getD i [] = []) : onwN s i = onwN s (i + 1) := tab_congr fun k _ => by
 by_cases e : k = i
 ·subst e; rw [if_neg fun g => h g.2, if_neg fun g => h g.2]
 ·by_cases e2 : k < i ∧ (steps s).getD k [] = []
  ·rw [if_pos e2, if_pos ⟨by omega, e2.2⟩]
  ·rw [if_neg e2, if_neg fun h => e2 ⟨by omega, h.2⟩]
theorem nil_len {l : List Int} : ((l.length : Int) = 0) = (l = []) := propext ⟨fun h => List.eq_nil_of_length_eq_zero (by omega), fun h => by rw [h]; rfl⟩
theorem C_spec_l22Onward (s : Sy) (hs : FewSy s) (h : valid s) (Q : List AV → Prop) : mc.C f_spec_l22Onward [⟨L V3, s.1⟩, ⟨L TR, s.2⟩] Q = Q [⟨L (L I), onw s⟩] := by
 have hz := szn_eq h
 have hl : ∀ i, (onwN s i).length = szn s.1 := fun i => tab_len
 refine Mc.Ends.c (mc.ends F_spec_l22Onward ?_)
 simp (contextual := true) (maxSteps := 1000000) (disch := omega) only [↓Sd, ↓So, ↓Sk, ↓den, ↓denA, Sa, Sb, Sc, Se, O1.d, O2.d, O3.d, cmI, arI, envOf, putN, ↓reduceIte, Nat.reduceLT, Nat.reduceSub, Nat.reduceAdd, Int.reduceAdd, Int.reduceEq, Int.reduceLT, Int.reduceLE, arr_pos, arr_neg, tr_spec_l22Onward, C_spec_l4Steps s hs h]
 refine mc.lp_for (List (List Int)) (fun i o => [⟨I, (i : Int)⟩, ⟨L (L I), o⟩]) (fun i o => o = onwN s i) (szn s.1) 0 (steps s) _ rfl (Nat.zero_le _) onwN_0.symm ?_ ?_
 ·rintro i o hi rfl
  simp (contextual := true) (maxSteps := 1000000) (disch := omega) only [↓Sd, ↓So, ↓Sk, ↓den, ↓denA, Sa, Sb, Sc, Se, O1.d, O2.d, O3.d, cmI, arI, envOf, putN, ↓reduceIte, Nat.reduceLT, Nat.reduceSub, Nat.reduceAdd, Int.reduceAdd, Int.reduceEq, Int.reduceLT, Int.reduceLE, arr_pos, arr_neg, ↓wpJoin, hl, onwN_get hi, nil_len]
  exact ⟨fun g => onwN_set hi g, fun g => onwN_keep g⟩
 ·rintro o rfl
  simp (contextual := true) (maxSteps := 1000000) (disch := omega) only [↓Sd, ↓So, ↓Sk, ↓den, ↓denA, Sa, Sb, Sc, Se, O1.d, O2.d, O3.d, cmI, arI, envOf, putN, ↓reduceIte, Nat.reduceLT, Nat.reduceSub, Nat.reduceAdd, Int.reduceAdd, Int.reduceEq, Int.reduceLT, Int.reduceLE, arr_pos, arr_neg, hl]
  exact onwN_n
theorem C_impl_followers (s : Sy) (h : valid s) (Q : List AV → Prop) : mc.C f_impl_followers [⟨L V3, s.1⟩, ⟨L TR, s.2⟩] Q = Q [⟨L (L I), onw s⟩] := by
 have hz := szn_eq h
 have hl : ∀ i, (onwN s i).length = szn s.1 := fun i => tab_len
 have hl0 : (steps s).length = szn s.1 := tab_len
 refine Mc.Ends.c (mc.ends F_impl_followers ?_)
 simp (contextual := true) (maxSteps := 1000000) (disch := omega) only [↓Sd, ↓So, ↓Sk, ↓den, ↓denA, Sa, Sb, Sc, Se, O1.d, O2.d, O3.d, cmI, arI, envOf, putN, ↓reduceIte, Nat.reduceLT, Nat.reduceSub, Nat.reduceAdd, Int.reduceAdd, Int.reduceEq, Int.reduceLT, Int.reduceLE, arr_pos, arr_neg, tr_impl_followers, C_impl_nexts s h, hl0]
 refine mc.lp_for (List (List Int)) (fun i o => [⟨I, (szn s.1 : Int)⟩, ⟨I, (i : Int)⟩, ⟨L (L I), o⟩]) (fun i o => o = onwN s i) (szn s.1) 0 (steps s) _ rfl (Nat.zero_le _) onwN_0.symm ?_ ?_
 ·rintro i o hi rfl
  simp (contextual := true) (maxSteps := 1000000) (disch := omega) only [↓Sd, ↓So, ↓Sk, ↓den, ↓denA, Sa, Sb, Sc, Se, O1.d, O2.d, O3.d, cmI, arI, envOf, putN, ↓reduceIte, Nat.reduceLT, Nat.reduceSub, Nat.reduceAdd, Int.reduceAdd, Int.reduceEq, Int.reduceLT, Int.reduceLE, arr_pos, arr_neg, ↓wpJoin, hl, onwN_get hi, nil_len]
  exact ⟨fun g => onwN_set hi g, fun g => onwN_keep g⟩
 ·rintro o rfl
  simp (contextual := true) (maxSteps := 1000000) (disch := omega) only [↓Sd, ↓So, ↓Sk, ↓den, ↓denA, Sa, Sb, Sc, Se, O1.d, O2.d, O3.d, cmI, arI, envOf, putN, ↓reduceIte, Nat.reduceLT, Nat.reduceSub, Nat.reduceAdd, Int.reduceAdd, Int.reduceEq, Int.reduceLT, Int.reduceLE, arr_pos, arr_neg, hl]
  exact onwN_n
theorem fOk_at {s : Sy} {F : List (List Tm)} (h : fOk s F) {k : Nat} (hk : k < szn s.1) : (∀ i, i < F.length → kf (F.getD i []) (stN s k).length = 2) ∧ Bds (stN s k) := by
 have hst := stN_in h.1 hk
 exact ⟨fun i hi => by rw [hst.1]; exact h.2.2 i hi, hst.bds h.1.2.2.1⟩
theorem C_impl_lettersAll (s : Sy) (F : List (List Tm)) (h : fOk s F) (Q : List AV → Prop) : mc.C f_impl_lettersAll [⟨L V3, s.1⟩, ⟨L TR, s.2⟩, ⟨L (L T4), F⟩] Q = Q [⟨L (L I), ltrs s F⟩] := by
 have hv := h.1
 have hz := szn_eq hv
 refine Mc.Ends.c (mc.ends F_impl_lettersAll ?_)
 simp (contextual := true) (maxSteps := 1000000) (disch := omega) only [↓Sd, ↓So, ↓Sk, ↓den, ↓denA, Sa, Sb, Sc, Se, O1.d, O2.d, O3.d, cmI, arI, envOf, putN, ↓reduceIte, Nat.reduceLT, Nat.reduceSub, Nat.reduceAdd, Int.reduceAdd, Int.reduceEq, Int.reduceLT, Int.reduceLE, arr_pos, arr_neg, tr_impl_lettersAll, C_impl_size s.1 hv.1.2 hv.2.2.1]
 rw [← hz.1]
 refine mc.lp_for (List (List Int)) (fun i o => [⟨L (L T4), F⟩, ⟨I, (szn s.1 : Int)⟩, ⟨I, (i : Int)⟩, ⟨L V3, s.1⟩, ⟨L TR, s.2⟩, ⟨L (L I), o⟩]) (fun i o => o = tab (fun k => ltr F (stN s k)) i) (szn s.1) 0 [] _ rfl (Nat.zero_le _) rfl ?_ ?_
 ·rintro i o hi rfl
  have h1 := fOk_at h hi
  have hst : stAt s.1 (i : Int) = stN s i := rfl
  simp (contextual := true) (maxSteps := 1000000) (disch := omega) only [↓Sd, ↓So, ↓Sk, ↓den, ↓denA, Sa, Sb, Sc, Se, O1.d, O2.d, O3.d, cmI, arI, envOf, putN, ↓reduceIte, Nat.reduceLT, Nat.reduceSub, Nat.reduceAdd, Int.reduceAdd, Int.reduceEq, Int.reduceLT, Int.reduceLE, arr_pos, arr_neg, tab_len, C_impl_stateAt s (i : Int) hv.1.2 hv.2.2.1 (by omega), hst, C_impl_letters F (stN s i) h.2.1 h1.1 h1.2]
  exact tab_next
 ·rintro o rfl
  simp (contextual := true) (maxSteps := 1000000) (disch := omega) only [↓Sd, ↓So, ↓Sk, ↓den, ↓denA, Sa, Sb, Sc, Se, O1.d, O2.d, O3.d, cmI, arI, envOf, putN, ↓reduceIte, Nat.reduceLT, Nat.reduceSub, Nat.reduceAdd, Int.reduceAdd, Int.reduceEq, Int.reduceLT, Int.reduceLE, arr_pos, arr_neg, ]
  rfl
theorem onw_sm {s : Sy} (h : valid s) : SmSS (onw s) := by
 have hz := szn_eq h
 refine ⟨by rw [onw, tab_len]; omega, fun x hx => ?_⟩
 obtain ⟨k, hk, rfl⟩ := List.mem_map.1 hx
 split
 ·simp
 ·have := (steps_tb8 h).2.2 _ (getD_mem (d := []) (i := k) (by rw [(steps_tb8 h).1.1]; exact List.mem_range.1 hk))
  omega
theorem ltrs_sm {s : Sy} {F : List (List Tm)} (h : fOk s F) : SmSS (ltrs s F) := by
 have hz := szn_eq h.1
 refine ⟨by rw [ltrs, tab_len]; omega, fun x hx => ?_⟩
 obtain ⟨k, hk, rfl⟩ := List.mem_map.1 hx
 rw [ltr, tab_len]
 have := h.2.1
 omega
theorem SmSS.few {l : List (List Int)} (h : SmSS l) : l.length ≤ 1048576 ∧ ∀ x ∈ l, x.length ≤ 1048576 := ⟨by have := h.1; omega, fun x hx => by have := h.2 x hx; omega⟩
theorem C_impl_graphOf (s : Sy) (F : List (List Tm)) (h : fOk s F) (Q : List AV → Prop) : mc.C f_impl_graphOf [⟨L V3, s.1⟩, ⟨L TR, s.2⟩, ⟨L (L T4), F⟩] Q = Q [⟨L (L I), ltrs s F⟩, ⟨I, num s.1 (fst0 s.1)⟩, ⟨L (L I), onw s⟩] := by
 have hv := h.1
 have hfi := fst0_in hv.2.2.1
 refine Mc.Ends.c (mc.ends F_impl_graphOf ?_)
 simp (contextual := true) (maxSteps := 1000000) (disch := omega) only [↓Sd, ↓So, ↓Sk, ↓den, ↓denA, Sa, Sb, Sc, Se, O1.d, O2.d, O3.d, cmI, arI, envOf, putN, ↓reduceIte, Nat.reduceLT, Nat.reduceSub, Nat.reduceAdd, Int.reduceAdd, Int.reduceEq, Int.reduceLT, Int.reduceLE, arr_pos, arr_neg, tr_impl_graphOf, C_impl_lettersAll s F h, C_impl_first s hv.1.2, C_impl_number s _ hv.1.2 hv.2.2.1 hfi, C_impl_followers s hv]
theorem C_impl_GraphOf (s : Sy) (F : List (List Tm)) (hs : FewSy s) (hF : FewSS F) (h : fOk s F) (Q : List AV → Prop) : mc.C f_impl_GraphOf [⟨L V3, s.1⟩, ⟨L TR, s.2⟩, ⟨L (L T4), F⟩] Q = Q [⟨L (L I), ltrs s F⟩, ⟨I, num s.1 (fst0 s.1)⟩, ⟨L (L I), onw s⟩, ⟨B, true⟩] := by
 have h1 := (ltrs_sm h).few
 have h2 := (onw_sm h.1).few
 refine Mc.Ends.c (mc.ends F_impl_GraphOf ?_)
 simp (contextual := true) (maxSteps := 1000000) (disch := omega) only [↓Sd, ↓So, ↓Sk, ↓den, ↓denA, Sa, Sb, Sc, Se, O1.d, O2.d, O3.d, cmI, arI, envOf, putN, ↓reduceIte, Nat.reduceLT, Nat.reduceSub, Nat.reduceAdd, Int.reduceAdd, Int.reduceEq, Int.reduceLT, Int.reduceLE, arr_pos, arr_neg, tr_impl_GraphOf, C_impl_factsOk s F hs hF, h, C_impl_graphOf s F h, C_impl_lists (ltrs s F) h1.1 h1.2, C_impl_lists (onw s) h2.1 h2.2]
theorem C_impl_GraphOf_no (s : Sy) (F : List (List Tm)) (hs : FewSy s) (hF : FewSS F) (h : ¬ fOk s F) (Q : List AV → Prop) : mc.C f_impl_GraphOf [⟨L V3, s.1⟩, ⟨L TR, s.2⟩, ⟨L (L T4), F⟩] Q = Q [⟨L (L I), []⟩, ⟨I, (0 : Int)⟩, ⟨L (L I), []⟩, ⟨B, false⟩] := by
 refine Mc.Ends.c (mc.ends F_impl_GraphOf ?_)
 simp (contextual := true) (maxSteps := 1000000) (disch := omega) only [↓Sd, ↓So, ↓Sk, ↓den, ↓denA, Sa, Sb, Sc, Se, O1.d, O2.d, O3.d, cmI, arI, envOf, putN, ↓reduceIte, Nat.reduceLT, Nat.reduceSub, Nat.reduceAdd, Int.reduceAdd, Int.reduceEq, Int.reduceLT, Int.reduceLE, arr_pos, arr_neg, tr_impl_GraphOf, C_impl_factsOk s F hs hF, h]
theorem C_spec_GraphOf_no (s : Sy) (F : List (List Tm)) (hs : FewSy s) (hF : FewSS F) (h : ¬ fOk s F) (Q : List AV → Prop) : mc.C f_spec_GraphOf [⟨L V3, s.1⟩, ⟨L TR, s.2⟩, ⟨L (L T4), F⟩] Q = Q [⟨L (L I), []⟩, ⟨I, (0 : Int)⟩, ⟨L (L I), []⟩, ⟨B, false⟩] := by
 refine Mc.Ends.c (mc.ends F_spec_GraphOf ?_)
 simp (contextual := true) (maxSteps := 1000000) (disch := omega) only [↓Sd, ↓So, ↓Sk, ↓den, ↓denA, Sa, Sb, Sc, Se, O1.d, O2.d, O3.d, cmI, arI, envOf, putN, ↓reduceIte, Nat.reduceLT, Nat.reduceSub, Nat.reduceAdd, Int.reduceAdd, Int.reduceEq, Int.reduceLT, Int.reduceLE, arr_pos, arr_neg, tr_spec_GraphOf, C_spec_l20Facts s F hs hF, h]
theorem C_spec_GraphOf (s : Sy) (F : List (List Tm)) (hs : FewSy s) (hF : FewSS F) (h : fOk s F) (Q : List AV → Prop) : mc.C f_spec_GraphOf [⟨L V3, s.1⟩, ⟨L TR, s.2⟩, ⟨L (L T4), F⟩] Q = Q [⟨L (L I), ltrs s F⟩, ⟨I, num s.1 (fst0 s.1)⟩, ⟨L (L I), onw s⟩, ⟨B, true⟩] := by
 have hv := h.1
 have hz := szn_eq hv
 have hfi := fst0_in hv.2.2.1
 have hl : (onw s).length = szn s.1 := tab_len
 refine Mc.Ends.c (mc.ends F_spec_GraphOf ?_)
 simp (contextual := true) (maxSteps := 1000000) (disch := omega) only [↓Sd, ↓So, ↓Sk, ↓den, ↓denA, Sa, Sb, Sc, Se, O1.d, O2.d, O3.d, cmI, arI, envOf, putN, ↓reduceIte, Nat.reduceLT, Nat.reduceSub, Nat.reduceAdd, Int.reduceAdd, Int.reduceEq, Int.reduceLT, Int.reduceLE, arr_pos, arr_neg, ↓wpJoin, tr_spec_GraphOf, C_spec_l20Facts s F hs hF, h, C_spec_FirstState s hs hv, C_spec_l4Number s _ hv.1.2 hv.2.2.1 hfi, C_spec_l22Onward s hs hv]
 refine mc.lp_for (List (List Int)) (fun i o => [⟨L (L T4), F⟩, ⟨I, (i : Int)⟩, ⟨L V3, s.1⟩, ⟨L TR, s.2⟩, ⟨I, (0 : Int)⟩, ⟨I, num s.1 (fst0 s.1)⟩, ⟨L (L I), o⟩, ⟨L (L I), onw s⟩]) (fun i o => o = tab (fun k => ltr F (stN s k)) i) (szn s.1) 0 [] _ rfl (Nat.zero_le _) rfl ?_ ?_
 ·rintro i o hi rfl
  have h1 := fOk_at h hi
  have hst : stAt s.1 (i : Int) = stN s i := rfl
  simp (contextual := true) (maxSteps := 1000000) (disch := omega) only [↓Sd, ↓So, ↓Sk, ↓den, ↓denA, Sa, Sb, Sc, Se, O1.d, O2.d, O3.d, cmI, arI, envOf, putN, ↓reduceIte, Nat.reduceLT, Nat.reduceSub, Nat.reduceAdd, Int.reduceAdd, Int.reduceEq, Int.reduceLT, Int.reduceLE, arr_pos, arr_neg, hl, tab_len, C_spec_l4State s (i : Int) hs hv (by omega), hst, C_spec_l20Of F (stN s i) h.2.1 h1.1 h1.2]
  exact tab_next
 ·rintro o rfl
  simp (contextual := true) (maxSteps := 1000000) (disch := omega) only [↓Sd, ↓So, ↓Sk, ↓den, ↓denA, Sa, Sb, Sc, Se, O1.d, O2.d, O3.d, cmI, arI, envOf, putN, ↓reduceIte, Nat.reduceLT, Nat.reduceSub, Nat.reduceAdd, Int.reduceAdd, Int.reduceEq, Int.reduceLT, Int.reduceLE, arr_pos, arr_neg, hl]
  rfl
theorem eq_Graph (X Y : List (List Int)) (n : Int) (hX : SmSS X) (hY : SmSS Y) (Q : List AV → Prop) : mc.C f_laws_eqGraph [⟨L (L I), X⟩, ⟨I, n⟩, ⟨L (L I), Y⟩, ⟨L (L I), X⟩, ⟨I, n⟩, ⟨L (L I), Y⟩] Q = Q [⟨B, true⟩] := by
 refine Mc.Ends.c (mc.ends F_laws_eqGraph ?_)
 simp (contextual := true) (maxSteps := 1000000) (disch := omega) only [↓Sd, ↓So, ↓Sk, ↓den, ↓denA, Sa, Sb, Sc, Se, O1.d, O2.d, O3.d, cmI, arI, envOf, putN, ↓reduceIte, Nat.reduceLT, Nat.reduceSub, Nat.reduceAdd, Int.reduceAdd, Int.reduceEq, Int.reduceLT, Int.reduceLE, arr_pos, arr_neg, tr_laws_eqGraph, eq_IntSS X hX, eq_IntSS Y hY]
theorem mk_Graph (X Y : List (List Int)) (n : Int) (hX : SmSS X) (hY : SmSS Y) (Q : List AV → Prop) : mc.C f_laws_markGraph [⟨L (L I), X⟩, ⟨I, n⟩, ⟨L (L I), Y⟩, ⟨I, 1⟩] Q = Q [⟨I, 1 + offN X X.length + offN Y Y.length⟩, ⟨L (L I), mkR X 1⟩, ⟨L (L I), mkR Y (1 + offN X X.length)⟩] := by
 have h1 := offN_bd hX X.length
 have h2 := hX.1
 refine Mc.Ends.c (mc.ends F_laws_markGraph ?_)
 simp (contextual := true) (maxSteps := 1000000) (disch := omega) only [↓Sd, ↓So, ↓Sk, ↓den, ↓denA, Sa, Sb, Sc, Se, O1.d, O2.d, O3.d, cmI, arI, envOf, putN, ↓reduceIte, Nat.reduceLT, Nat.reduceSub, Nat.reduceAdd, Int.reduceAdd, Int.reduceEq, Int.reduceLT, Int.reduceLE, arr_pos, arr_neg, tr_laws_markGraph, mk_IntSS X 1 (by omega) hX, mk_IntSS Y (1 + offN X X.length) (by omega) hY]
theorem held_Graph (X Y : List (List Int)) (n : Int) (hX : SmSS X) (hY : SmSS Y) (Q : List AV → Prop) : mc.C f_laws_heldGraph [⟨L (L I), mkR X 1⟩, ⟨I, n⟩, ⟨L (L I), mkR Y (1 + offN X X.length)⟩, ⟨I, 1⟩] Q = Q [⟨I, 1 + offN X X.length + offN Y Y.length⟩] := by
 have h1 := offN_bd hX X.length
 have h2 := hX.1
 refine Mc.Ends.c (mc.ends F_laws_heldGraph ?_)
 simp (contextual := true) (maxSteps := 1000000) (disch := omega) only [↓Sd, ↓So, ↓Sk, ↓den, ↓denA, Sa, Sb, Sc, Se, O1.d, O2.d, O3.d, cmI, arI, envOf, putN, ↓reduceIte, Nat.reduceLT, Nat.reduceSub, Nat.reduceAdd, Int.reduceAdd, Int.reduceEq, Int.reduceLT, Int.reduceLE, arr_pos, arr_neg, tr_laws_heldGraph, held_IntSS X 1 (by omega) hX, held_IntSS Y (1 + offN X X.length) (by omega) hY]
 intro h
 have := Int.natCast_nonneg (offN X X.length)
 have := Int.natCast_nonneg (offN Y Y.length)
 omega
theorem graphs (s : Sy) (F : List (List Tm)) (hs : FewSy s) (hF : FewSS F) : ∃ (X Y : List (List Int)) (n : Int) (ok : Bool), SmSS X ∧ SmSS Y ∧ (∀ Q : List AV → Prop, mc.C f_spec_GraphOf [⟨L V3, s.1⟩, ⟨L TR, s.2⟩, ⟨L (L T4), F⟩] Q = Q [⟨L (L I), X⟩, ⟨I, n⟩, ⟨L (L I), Y⟩, ⟨B, ok⟩]) ∧ ∀ Q : List AV → Prop, mc.C f_impl_GraphOf [⟨L V3, s.1⟩, ⟨L TR, s.2⟩, ⟨L (L T4), F⟩] Q = Q [⟨L (L I), X⟩, ⟨I, n⟩, ⟨L (L I), Y⟩, ⟨B, ok⟩] := by
 by_cases h : fOk s F
 ·exact ⟨_, _, _, true, ltrs_sm h, onw_sm h.1, C_spec_GraphOf s F hs hF h, C_impl_GraphOf s F hs hF h⟩
 ·exact ⟨[], [], 0, false, ⟨by simp, by simp⟩, ⟨by simp, by simp⟩, C_spec_GraphOf_no s F hs hF h, C_impl_GraphOf_no s F hs hF h⟩
theorem law_FnExactGraphOf (s : Sy) (F : List (List Tm)) (hs : LtSy s) (hl : Lt63 F) (hl2 : ∀ x ∈ F, Lt63 x) : mc.C f_laws_FnExactGraphOf [⟨L V3, s.1⟩, ⟨L TR, s.2⟩, ⟨L (L T4), F⟩] (· = [⟨B, true⟩]) := by
 refine mc.c_of F_laws_FnExactGraphOf ?_
 simp (contextual := true) (maxSteps := 1000000) (disch := omega) only [↓Sd, ↓So, ↓Sk, ↓den, ↓denA, Sa, Sb, Sc, Se, O1.d, O2.d, O3.d, cmI, arI, envOf, putN, ↓reduceIte, Nat.reduceLT, Nat.reduceSub, Nat.reduceAdd, Int.reduceAdd, Int.reduceEq, Int.reduceLT, Int.reduceLE, arr_pos, arr_neg, tr_laws_FnExactGraphOf]
 refine sz_System s _ (by omega) hs fun j h2 h3 => ?_
 simp (contextual := true) (maxSteps := 1000000) (disch := omega) only [↓Sd, ↓So, ↓Sk, ↓den, ↓denA, Sa, Sb, Sc, Se, O1.d, O2.d, O3.d, cmI, arI, envOf, putN, ↓reduceIte, Nat.reduceLT, Nat.reduceSub, Nat.reduceAdd, Int.reduceAdd, Int.reduceEq, Int.reduceLT, Int.reduceLE, arr_pos, arr_neg, ]
 intro h4
 have hs := h3 (by omega)
 refine sz_TermSS F _ (by omega) hl hl2 fun j2 h5 h6 => ?_
 simp (contextual := true) (maxSteps := 1000000) (disch := omega) only [↓Sd, ↓So, ↓Sk, ↓den, ↓denA, Sa, Sb, Sc, Se, O1.d, O2.d, O3.d, cmI, arI, envOf, putN, ↓reduceIte, Nat.reduceLT, Nat.reduceSub, Nat.reduceAdd, Int.reduceAdd, Int.reduceEq, Int.reduceLT, Int.reduceLE, arr_pos, arr_neg, ]
 intro h7
 have hF : FewSS F := h6 (by omega)
 obtain ⟨X, Y, n, ok, hX, hY, hspec, himpl⟩ := graphs s F hs hF
 simp (contextual := true) (maxSteps := 1000000) (disch := omega) only [↓Sd, ↓So, ↓Sk, ↓den, ↓denA, Sa, Sb, Sc, Se, O1.d, O2.d, O3.d, cmI, arI, envOf, putN, ↓reduceIte, Nat.reduceLT, Nat.reduceSub, Nat.reduceAdd, Int.reduceAdd, Int.reduceEq, Int.reduceLT, Int.reduceLE, arr_pos, arr_neg, to_System s hs, to_TermSS F hF.1 hF.2, hspec, himpl, eq_Graph X Y n hX hY, eq_System s hs, eq_TermSS F hF.1 hF.2]
 refine mk_System s 1 (by omega) hs fun k' v r hk' => ?_
 simp (contextual := true) (maxSteps := 1000000) (disch := omega) only [↓Sd, ↓So, ↓Sk, ↓den, ↓denA, Sa, Sb, Sc, Se, O1.d, O2.d, O3.d, cmI, arI, envOf, putN, ↓reduceIte, Nat.reduceLT, Nat.reduceSub, Nat.reduceAdd, Int.reduceAdd, Int.reduceEq, Int.reduceLT, Int.reduceLE, arr_pos, arr_neg, ]
 refine mk_TermSS F k' (by omega) hF.1 hF.2 fun k2 l' hk2 => ?_
 simp (contextual := true) (maxSteps := 1000000) (disch := omega) only [↓Sd, ↓So, ↓Sk, ↓den, ↓denA, Sa, Sb, Sc, Se, O1.d, O2.d, O3.d, cmI, arI, envOf, putN, ↓reduceIte, Nat.reduceLT, Nat.reduceSub, Nat.reduceAdd, Int.reduceAdd, Int.reduceEq, Int.reduceLT, Int.reduceLE, arr_pos, arr_neg, eq_Graph X Y n hX hY, mk_Graph X Y n hX hY, held_Graph X Y n hX hY, to_System s hs, to_TermSS F hF.1 hF.2, himpl]
 have := Int.natCast_nonneg (offN X X.length)
 have := Int.natCast_nonneg (offN Y Y.length)
 intro h
 omega
end Go.Proofs.YtplibobhcjgcmaaGreat
