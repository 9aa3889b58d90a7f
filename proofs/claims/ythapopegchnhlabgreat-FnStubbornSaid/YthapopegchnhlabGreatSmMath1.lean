/- What the trees come to: plain mathematics; no condition. -/
import Derived.Test.YthapopegchnhlabGreatSmMath0
namespace Go.Proofs.YthapopegchnhlabGreat
open Go Go.Sm Go.Sm.Q
set_option linter.unusedSimpArgs false
set_option linter.unusedVariables false
structure Rnd (T : List (List Int)) (p : Nat → Bool) (n : Nat) (d a0 C : Nat) (ag : Bool) (f : Nat → Int) : Prop where
 ge : ∀ k, k < n → -1 ≤ f k
 zero : ∀ k, k < n → (f k = 0 ↔ p k = true)
 pre : ∀ k, k < n → 0 < f k → ∃ a, a < n ∧ f a + 1 = f k ∧ (k : Int) ∈ T.getD a []
 le : ∀ k, k < n → f k ≤ (d : Int) + 1
 closed : ∀ a, a < n → 0 ≤ f a → (f a < d ∨ f a = d ∧ a < a0) → ∀ k : Nat, (k : Int) ∈ T.getD a [] → 0 ≤ f k ∧ f k ≤ f a + 1
 none : ag = false → ∀ k, k < n → f k ≤ d
 cnt : cntF (fun k => decide (0 ≤ f k)) n ≤ C
 less : ag = true → cntF (fun k => decide (0 ≤ f k)) n < C
theorem Rnd.skip {T : List (List Int)} {p : Nat → Bool} {n d a0 C : Nat} {ag : Bool} {f : Nat → Int} (h : Rnd T p n d a0 C ag f) (ht : Tbl T n) (hx : f a0 = d → ∀ k : Nat, (k : Int) ∈ T.getD a0 [] → 0 ≤ f k) : Rnd T p n d (a0 + 1) C ag f := by
 refine ⟨h.ge, h.zero, h.pre, h.le, fun a h1 h2 h3 k hk => ?_, h.none, h.cnt, h.less⟩
 by_cases e : a = a0
 ·subst e
  rcases h3 with h3 | h3
  ·exact h.closed a h1 h2 (.inl h3) k hk
  ·have h4 := ht.row _ hk
   have h5 := h.le k (by omega)
   exact ⟨hx h3.1 k hk, by omega⟩
 ·refine h.closed a h1 h2 (h3.imp_right fun h4 => ⟨h4.1, ?_⟩) k hk
  omega
theorem Rch.trans {T : List (List Int)} {a b c : Nat} (h : Rch T [(a : Int)] b) (h2 : Rch T [(b : Int)] c) : Rch T [(a : Int)] c := by
 induction h2 with
 | base h3 => simp only [List.mem_singleton] at h3; have h3 := Int.ofNat_inj.1 h3; subst h3; exact h
 | step _ h3 ih => exact .step ih h3
abbrev RD : Ty := P (L U) I
def Byt (b : List Int) : Prop := ∀ x ∈ b, 0 ≤ x ∧ x ≤ 255
def Rdy (b : List Int) : Prop := Byt b ∧ b.length ≤ 2000
theorem Byt.get {b : List Int} (h : Byt b) (i : Nat) : 0 ≤ b.getD i 0 ∧ b.getD i 0 ≤ 255 := by
 by_cases hi : i < b.length
 ·exact h _ (getD_mem hi)
 ·rw [List.getD_eq_getElem?_getD, List.getElem?_eq_none (by omega)]; simp
theorem xor_bd {x y : Int} (hx : 0 ≤ x ∧ x < 1099511627776) (hy : 0 ≤ y ∧ y < 1099511627776) : 0 ≤ IntKind.i64.wrap ((BitVec.ofInt IntKind.i64.bits x ^^^ BitVec.ofInt IntKind.i64.bits y).toNat : Int) := by
 have e : ∀ z : Int, 0 ≤ z ∧ z < 1099511627776 → (BitVec.ofInt IntKind.i64.bits z).toNat < 2 ^ 40 := by
  intro z hz
  rw [BitVec.toNat_ofInt]
  show Int.toNat (z % (2 : Int) ^ 64) < 2 ^ 40
  omega
 have h : (BitVec.ofInt IntKind.i64.bits x ^^^ BitVec.ofInt IntKind.i64.bits y).toNat < 2 ^ 40 := by
  rw [BitVec.toNat_xor]
  exact Nat.xor_lt_two_pow (e x hx) (e y hy)
 rw [wrap_id (by omega) (by omega)]
 omega
theorem D_pick (b : List Int) (p n : Int) (hb : Rdy b) (hp : 0 ≤ p ∧ p ≤ 1000000000) {Q : List AV → Prop} (h : ∀ v : Int, 0 ≤ v → (1 ≤ n → v < n) → Q [⟨I, v⟩, ⟨RD, (b, p + 1)⟩]) : mc.C f_spec_l40Rd_pick [⟨RD, (b, p)⟩, ⟨I, n⟩] Q := by
 refine mc.c_of F_spec_l40Rd_pick ?_
 have hl := hb.2
 simp (contextual := true) (maxSteps := 1000000) (disch := omega) only [↓Sd, ↓So, ↓Sk, ↓den, ↓denA, Sa, Sb, Sc, Se, O1.d, O2.d, O3.d, cmI, arI, envOf, putN, ↓reduceIte, Nat.reduceLT, Nat.reduceSub, Nat.reduceAdd, Int.reduceAdd, Int.reduceEq, Int.reduceLT, Int.reduceLE, arr_pos, arr_neg, tr_spec_l40Rd_pick]
 refine ⟨fun g => h 0 (by omega) (by omega), fun g => ⟨fun g2 => h 0 (by omega) (by omega), fun g2 => ?_⟩⟩
 have hn : 1 ≤ n := by omega
 have hlb : 0 < (b.length : Int) := by omega
 refine ⟨fun g3 => ?_, fun g3 => ?_⟩
 ·have h1 := hb.1.get p.toNat
  rw [wrap_id (by omega) (by omega), Int.tmod_eq_emod_of_nonneg h1.1]
  exact h _ (Int.emod_nonneg _ (by omega)) fun _ => Int.emod_lt_of_pos _ (by omega)
 ·have a1 := Int.emod_nonneg p (show (b.length : Int) ≠ 0 by omega)
  have a2 := Int.emod_lt_of_pos p hlb
  have a3 := Int.emod_nonneg (p * 7 + 3) (show (b.length : Int) ≠ 0 by omega)
  have a4 := Int.emod_lt_of_pos (p * 7 + 3) hlb
  have a5 := Int.ediv_nonneg hp.1 (Int.le_of_lt hlb)
  have a6 := Int.ediv_le_self (b.length : Int) hp.1
  have h1 := hb.1.get (p % (b.length : Int)).toNat
  have h2 := hb.1.get ((p * 7 + 3) % (b.length : Int)).toNat
  refine ⟨a1, a2, a3, a4, ?_⟩
  generalize b.getD (p % (b.length : Int)).toNat 0 = x1 at *
  generalize b.getD ((p * 7 + 3) % (b.length : Int)).toNat 0 = x2 at *
  generalize p / (b.length : Int) = x3 at *
  rw [wrap_id (x := x1) (by omega) (by omega), wrap_id (x := x2) (by omega) (by omega), wrap_id (x := x3) (by omega) (by omega), wrap_id (x := x1 * 131) (by omega) (by omega), wrap_id (x := x2 * 1117) (by omega) (by omega), wrap_id (x := x1 * 131 + x2 * 1117) (by omega) (by omega), wrap_id (x := x1 * 131 + x2 * 1117 + p * 29) (by omega) (by omega), wrap_id (x := x3 * 53) (by omega) (by omega), wrap_id (x := x1 * 131 + x2 * 1117 + p * 29 + x3 * 53) (by omega) (by omega)]
  obtain ⟨y, hy⟩ : ∃ y, x1 * 131 + x2 * 1117 + p * 29 + x3 * 53 = y := ⟨_, rfl⟩
  have hyb : 0 ≤ y ∧ y < 1099511627776 := by omega
  rw [hy, Int.tdiv_eq_ediv_of_nonneg hyb.1, wrap_id (x := y / 64) (by omega) (by omega)]
  have h4 := xor_bd hyb (y := y / 64) (by omega)
  rw [Int.tmod_eq_emod_of_nonneg h4]
  exact h _ (Int.emod_nonneg _ (by omega)) fun _ => Int.emod_lt_of_pos _ (by omega)
theorem D_pick1 (b : List Int) (p n : Int) (hb : Rdy b) (hp : 0 ≤ p ∧ p ≤ 1000000000) (hn : 1 ≤ n) {Q : List AV → Prop} (h : ∀ v : Int, 0 ≤ v → v < n → Q [⟨I, v⟩, ⟨RD, (b, p + 1)⟩]) : mc.C f_spec_l40Rd_pick [⟨RD, (b, p)⟩, ⟨I, n⟩] Q := D_pick b p n hb hp fun v h0 h1 => h v h0 (h1 hn)
theorem D_num (b : List Int) (p : Int) (l : List Int) (hb : Rdy b) (hp : 0 ≤ p ∧ p ≤ 1000000000) (hl : l ≠ []) (hl2 : l.length ≤ 1048576) {Q : List AV → Prop} (h : ∀ v : Int, v ∈ l → Q [⟨I, v⟩, ⟨RD, (b, p + 1)⟩]) : mc.C f_spec_l40Rd_num [⟨RD, (b, p)⟩, ⟨L I, l⟩] Q := by
 have hl1 : 0 < l.length := List.length_pos_iff.2 hl
 refine mc.c_of F_spec_l40Rd_num ?_
 simp (contextual := true) (maxSteps := 1000000) (disch := omega) only [↓Sd, ↓So, ↓Sk, ↓den, ↓denA, Sa, Sb, Sc, Se, O1.d, O2.d, O3.d, cmI, arI, envOf, putN, ↓reduceIte, Nat.reduceLT, Nat.reduceSub, Nat.reduceAdd, Int.reduceAdd, Int.reduceEq, Int.reduceLT, Int.reduceLE, arr_pos, arr_neg, tr_spec_l40Rd_num]
 refine D_pick1 b p _ hb hp (by omega) fun v h0 h1 => ?_
 simp (contextual := true) (maxSteps := 1000000) (disch := omega) only [↓Sd, ↓So, ↓Sk, ↓den, ↓denA, Sa, Sb, Sc, Se, O1.d, O2.d, O3.d, cmI, arI, envOf, putN, ↓reduceIte, Nat.reduceLT, Nat.reduceSub, Nat.reduceAdd, Int.reduceAdd, Int.reduceEq, Int.reduceLT, Int.reduceLE, arr_pos, arr_neg, ]
 exact h _ (getD_mem (by omega))
theorem D_open (b : List Int) (hb : Byt b) (hl : Lt63 b) {Q : List AV → Prop} (h : ∀ b', Rdy b' → Q [⟨RD, (b', 0)⟩]) : mc.C f_spec_l40Open [⟨L U, b⟩] Q := by
 unfold Lt63 at hl
 refine mc.c_of F_spec_l40Open ?_
 simp (contextual := true) (maxSteps := 1000000) (disch := omega) only [↓Sd, ↓So, ↓Sk, ↓den, ↓denA, Sa, Sb, Sc, Se, O1.d, O2.d, O3.d, cmI, arI, envOf, putN, ↓reduceIte, Nat.reduceLT, Nat.reduceSub, Nat.reduceAdd, Int.reduceAdd, Int.reduceEq, Int.reduceLT, Int.reduceLE, arr_pos, arr_neg, ↓wpJoin, tr_spec_l40Open]
 refine ⟨fun g => ?_, fun g => h b ⟨hb, by omega⟩⟩
 refine h _ ⟨fun x hx => hb x ?_, ?_⟩
 ·exact List.mem_of_mem_take hx
 ·rw [List.length_take]; omega
theorem D_l1Number (b : List Int) (p : Int) (hb : Rdy b) (hp : 0 ≤ p ∧ p ≤ 900000000) {Q : List AV → Prop} (h : ∀ v p' : Int, p ≤ p' ∧ p' ≤ p + 6 → Q [⟨I, v⟩, ⟨RD, (b, p')⟩]) : mc.C f_spec_l1Number [⟨RD, (b, p)⟩] Q := by
 refine mc.c_of F_spec_l1Number ?_
 simp (contextual := true) (maxSteps := 1000000) (disch := omega) only [↓Sd, ↓So, ↓Sk, ↓den, ↓denA, Sa, Sb, Sc, Se, O1.d, O2.d, O3.d, cmI, arI, envOf, putN, ↓reduceIte, Nat.reduceLT, Nat.reduceSub, Nat.reduceAdd, Int.reduceAdd, Int.reduceEq, Int.reduceLT, Int.reduceLE, arr_pos, arr_neg, tr_spec_l1Number]
 refine D_pick1 _ _ _ hb (by omega) (by omega) fun v1 v10 v11 => ?_; simp (contextual := true) (maxSteps := 1000000) (disch := omega) only [↓Sd, ↓So, ↓Sk, ↓den, ↓denA, Sa, Sb, Sc, Se, O1.d, O2.d, O3.d, cmI, arI, envOf, putN, ↓reduceIte, Nat.reduceLT, Nat.reduceSub, Nat.reduceAdd, Int.reduceAdd, Int.reduceEq, Int.reduceLT, Int.reduceLE, arr_pos, arr_neg, ]
 refine D_pick1 _ _ _ hb (by omega) (by omega) fun v2 v20 v21 => ?_; simp (contextual := true) (maxSteps := 1000000) (disch := omega) only [↓Sd, ↓So, ↓Sk, ↓den, ↓denA, Sa, Sb, Sc, Se, O1.d, O2.d, O3.d, cmI, arI, envOf, putN, ↓reduceIte, Nat.reduceLT, Nat.reduceSub, Nat.reduceAdd, Int.reduceAdd, Int.reduceEq, Int.reduceLT, Int.reduceLE, arr_pos, arr_neg, ]
 refine D_pick1 _ _ _ hb (by omega) (by omega) fun v3 v30 v31 => ?_; simp (contextual := true) (maxSteps := 1000000) (disch := omega) only [↓Sd, ↓So, ↓Sk, ↓den, ↓denA, Sa, Sb, Sc, Se, O1.d, O2.d, O3.d, cmI, arI, envOf, putN, ↓reduceIte, Nat.reduceLT, Nat.reduceSub, Nat.reduceAdd, Int.reduceAdd, Int.reduceEq, Int.reduceLT, Int.reduceLE, arr_pos, arr_neg, ]
 refine D_pick1 _ _ _ hb (by omega) (by omega) fun v4 v40 v41 => ?_; simp (contextual := true) (maxSteps := 1000000) (disch := omega) only [↓Sd, ↓So, ↓Sk, ↓den, ↓denA, Sa, Sb, Sc, Se, O1.d, O2.d, O3.d, cmI, arI, envOf, putN, ↓reduceIte, Nat.reduceLT, Nat.reduceSub, Nat.reduceAdd, Int.reduceAdd, Int.reduceEq, Int.reduceLT, Int.reduceLE, arr_pos, arr_neg, ]
 refine D_pick1 _ _ _ hb (by omega) (by omega) fun v5 v50 v51 => ?_; simp (contextual := true) (maxSteps := 1000000) (disch := omega) only [↓Sd, ↓So, ↓Sk, ↓den, ↓denA, Sa, Sb, Sc, Se, O1.d, O2.d, O3.d, cmI, arI, envOf, putN, ↓reduceIte, Nat.reduceLT, Nat.reduceSub, Nat.reduceAdd, Int.reduceAdd, Int.reduceEq, Int.reduceLT, Int.reduceLE, arr_pos, arr_neg, ]
 refine D_num _ _ _ hb (by omega) (by simp) (by simp) fun v v0 => ?_; simp (contextual := true) (maxSteps := 1000000) (disch := omega) only [↓Sd, ↓So, ↓Sk, ↓den, ↓denA, Sa, Sb, Sc, Se, O1.d, O2.d, O3.d, cmI, arI, envOf, putN, ↓reduceIte, Nat.reduceLT, Nat.reduceSub, Nat.reduceAdd, Int.reduceAdd, Int.reduceEq, Int.reduceLT, Int.reduceLE, arr_pos, arr_neg, ]
 exact h v _ (by omega)
theorem D_l1Pick (b : List Int) (p : Int) (ks : List Int) (kind : Int) (hb : Rdy b) (hp : 0 ≤ p ∧ p ≤ 900000000) (hk : 0 < ks.length) (hk2 : ks.length ≤ 1000) {Q : List AV → Prop} (h : ∀ v : Int, -1 ≤ v ∧ v < ks.length → Q [⟨I, v⟩, ⟨RD, (b, p + 1)⟩]) : mc.C f_spec_l1Pick [⟨RD, (b, p)⟩, ⟨L I, ks⟩, ⟨I, kind⟩] Q := by
 refine mc.c_of F_spec_l1Pick ?_
 simp (contextual := true) (maxSteps := 1000000) (disch := omega) only [↓Sd, ↓So, ↓Sk, ↓den, ↓denA, Sa, Sb, Sc, Se, O1.d, O2.d, O3.d, cmI, arI, envOf, putN, ↓reduceIte, Nat.reduceLT, Nat.reduceSub, Nat.reduceAdd, Int.reduceAdd, Int.reduceEq, Int.reduceLT, Int.reduceLE, arr_pos, arr_neg, tr_spec_l1Pick]
 refine D_pick1 _ _ _ hb (by omega) (by omega) fun a a0 a1 => ?_; simp (contextual := true) (maxSteps := 1000000) (disch := omega) only [↓Sd, ↓So, ↓Sk, ↓den, ↓denA, Sa, Sb, Sc, Se, O1.d, O2.d, O3.d, cmI, arI, envOf, putN, ↓reduceIte, Nat.reduceLT, Nat.reduceSub, Nat.reduceAdd, Int.reduceAdd, Int.reduceEq, Int.reduceLT, Int.reduceLE, arr_pos, arr_neg, ]
 refine mc.lp_for Unit (fun i _ => [⟨L I, ks⟩, ⟨I, kind⟩, ⟨I, a⟩, ⟨I, (i : Int)⟩, ⟨L U, b⟩, ⟨I, p + 1⟩]) (fun _ _ => True) ks.length 0 () _ rfl (Nat.zero_le _) trivial ?_ ?_
 ·rintro i - hi -
  have a1 := Int.emod_nonneg (a + (i : Int)) (show (ks.length : Int) ≠ 0 by omega)
  have a2 := Int.emod_lt_of_pos (a + (i : Int)) (show 0 < (ks.length : Int) by omega)
  simp (contextual := true) (maxSteps := 1000000) (disch := omega) only [↓Sd, ↓So, ↓Sk, ↓den, ↓denA, Sa, Sb, Sc, Se, O1.d, O2.d, O3.d, cmI, arI, envOf, putN, ↓reduceIte, Nat.reduceLT, Nat.reduceSub, Nat.reduceAdd, Int.reduceAdd, Int.reduceEq, Int.reduceLT, Int.reduceLE, arr_pos, arr_neg, ]
  exact fun _ => h _ (by omega)
 ·rintro - -
  simp (contextual := true) (maxSteps := 1000000) (disch := omega) only [↓Sd, ↓So, ↓Sk, ↓den, ↓denA, Sa, Sb, Sc, Se, O1.d, O2.d, O3.d, cmI, arI, envOf, putN, ↓reduceIte, Nat.reduceLT, Nat.reduceSub, Nat.reduceAdd, Int.reduceAdd, Int.reduceEq, Int.reduceLT, Int.reduceLE, arr_pos, arr_neg, ]
  exact h _ (by omega)
theorem C_spec_l2VarOf (n : Int) (Q : List AV → Prop) : mc.C f_spec_l2VarOf [⟨I, n⟩] Q = Q [⟨I, 1⟩, ⟨I, n⟩, ⟨I, 0⟩, ⟨I, 0⟩] := Mc.Ends.c (mc.ends F_spec_l2VarOf (by simp (contextual := true) (maxSteps := 1000000) (disch := omega) only [↓Sd, ↓So, ↓Sk, ↓den, ↓denA, Sa, Sb, Sc, Se, O1.d, O2.d, O3.d, cmI, arI, envOf, putN, ↓reduceIte, Nat.reduceLT, Nat.reduceSub, Nat.reduceAdd, Int.reduceAdd, Int.reduceEq, Int.reduceLT, Int.reduceLE, arr_pos, arr_neg, tr_spec_l2VarOf]))
theorem C_spec_l2Const (n : Int) (Q : List AV → Prop) : mc.C f_spec_l2Const [⟨I, n⟩] Q = Q [⟨I, 0⟩, ⟨I, n⟩, ⟨I, 0⟩, ⟨I, 0⟩] := Mc.Ends.c (mc.ends F_spec_l2Const (by simp (contextual := true) (maxSteps := 1000000) (disch := omega) only [↓Sd, ↓So, ↓Sk, ↓den, ↓denA, Sa, Sb, Sc, Se, O1.d, O2.d, O3.d, cmI, arI, envOf, putN, ↓reduceIte, Nat.reduceLT, Nat.reduceSub, Nat.reduceAdd, Int.reduceAdd, Int.reduceEq, Int.reduceLT, Int.reduceLE, arr_pos, arr_neg, tr_spec_l2Const]))
theorem D_l2Cond (b : List Int) (p : Int) (v : Vr) (at_ : Int) (hb : Rdy b) (hp : 0 ≤ p ∧ p ≤ 900000000) {Q : List AV → Prop} (h : ∀ (l : List Tm) (p' : Int), p ≤ p' ∧ p' ≤ p + 3 → l.length ≤ 4 → Q [⟨L T4, l⟩, ⟨RD, (b, p')⟩]) : mc.C f_spec_l2Cond [⟨RD, (b, p)⟩, ⟨I, v.1⟩, ⟨I, v.2.1⟩, ⟨I, v.2.2⟩, ⟨I, at_⟩] Q := by
 refine mc.c_of F_spec_l2Cond ?_
 simp (contextual := true) (maxSteps := 1000000) (disch := omega) only [↓Sd, ↓So, ↓Sk, ↓den, ↓denA, Sa, Sb, Sc, Se, O1.d, O2.d, O3.d, cmI, arI, envOf, putN, ↓reduceIte, Nat.reduceLT, Nat.reduceSub, Nat.reduceAdd, Int.reduceAdd, Int.reduceEq, Int.reduceLT, Int.reduceLE, arr_pos, arr_neg, tr_spec_l2Cond]
 refine D_pick _ _ _ hb (by omega) fun n _ _ => ?_
 simp (contextual := true) (maxSteps := 1000000) (disch := omega) only [↓Sd, ↓So, ↓Sk, ↓den, ↓denA, Sa, Sb, Sc, Se, O1.d, O2.d, O3.d, cmI, arI, envOf, putN, ↓reduceIte, Nat.reduceLT, Nat.reduceSub, Nat.reduceAdd, Int.reduceAdd, Int.reduceEq, Int.reduceLT, Int.reduceLE, arr_pos, arr_neg, ↓wpJoin, ]
 refine D_num _ _ _ hb (by omega) (by simp) (by simp) fun o o0 => ?_; simp (contextual := true) (maxSteps := 1000000) (disch := omega) only [↓Sd, ↓So, ↓Sk, ↓den, ↓denA, Sa, Sb, Sc, Se, O1.d, O2.d, O3.d, cmI, arI, envOf, putN, ↓reduceIte, Nat.reduceLT, Nat.reduceSub, Nat.reduceAdd, Int.reduceAdd, Int.reduceEq, Int.reduceLT, Int.reduceLE, arr_pos, arr_neg, ]
 simp (contextual := true) (maxSteps := 1000000) (disch := omega) only [↓Sd, ↓So, ↓Sk, ↓den, ↓denA, Sa, Sb, Sc, Se, O1.d, O2.d, O3.d, cmI, arI, envOf, putN, ↓reduceIte, Nat.reduceLT, Nat.reduceSub, Nat.reduceAdd, Int.reduceAdd, Int.reduceEq, Int.reduceLT, Int.reduceLE, arr_pos, arr_neg, ↓wpJoin, C_spec_l2VarOf, C_spec_l2Const]
 refine D_pick1 _ _ _ hb (by omega) (by omega) fun k k0 k1 => ?_; simp (contextual := true) (maxSteps := 1000000) (disch := omega) only [↓Sd, ↓So, ↓Sk, ↓den, ↓denA, Sa, Sb, Sc, Se, O1.d, O2.d, O3.d, cmI, arI, envOf, putN, ↓reduceIte, Nat.reduceLT, Nat.reduceSub, Nat.reduceAdd, Int.reduceAdd, Int.reduceEq, Int.reduceLT, Int.reduceLE, arr_pos, arr_neg, ]
 exact ⟨fun _ => h _ _ (by omega) (by simp), fun _ => h _ _ (by omega) (by simp)⟩
def mvT (t : Tm) (n : Int) : Tm := if 2 ≤ t.1 then (t.1, 0, IntKind.i64.wrap (t.2.2.1 + n), IntKind.i64.wrap (t.2.2.2 + n)) else t
theorem C_spec_l1Moved (t : Tm) (n : Int) (Q : List AV → Prop) : mc.C f_spec_l1Moved [⟨I, t.1⟩, ⟨I, t.2.1⟩, ⟨I, t.2.2.1⟩, ⟨I, t.2.2.2⟩, ⟨I, n⟩] Q = Q [⟨I, (mvT t n).1⟩, ⟨I, (mvT t n).2.1⟩, ⟨I, (mvT t n).2.2.1⟩, ⟨I, (mvT t n).2.2.2⟩] := by
 refine Mc.Ends.c (mc.ends F_spec_l1Moved ?_)
 unfold mvT
 by_cases g : 2 ≤ t.1
 ·rw [if_pos g]
  simp (contextual := true) (maxSteps := 1000000) (disch := omega) only [↓Sd, ↓So, ↓Sk, ↓den, ↓denA, Sa, Sb, Sc, Se, O1.d, O2.d, O3.d, cmI, arI, envOf, putN, ↓reduceIte, Nat.reduceLT, Nat.reduceSub, Nat.reduceAdd, Int.reduceAdd, Int.reduceEq, Int.reduceLT, Int.reduceLE, arr_pos, arr_neg, tr_spec_l1Moved]
 ·rw [if_neg g]
  simp (contextual := true) (maxSteps := 1000000) (disch := omega) only [↓Sd, ↓So, ↓Sk, ↓den, ↓denA, Sa, Sb, Sc, Se, O1.d, O2.d, O3.d, cmI, arI, envOf, putN, ↓reduceIte, Nat.reduceLT, Nat.reduceSub, Nat.reduceAdd, Int.reduceAdd, Int.reduceEq, Int.reduceLT, Int.reduceLE, arr_pos, arr_neg, tr_spec_l1Moved]
theorem C_spec_TermsValid (l : List Tm) (vars : Int) (hl : Few l) (Q : List AV → Prop) : mc.C f_spec_TermsValid [⟨L T4, l⟩, ⟨I, vars⟩] Q = Q [⟨B, decide (((kdsOf l vars).length : Int) > 0)⟩] := by
 refine Mc.Ends.c (mc.ends F_spec_TermsValid ?_)
 simp (contextual := true) (maxSteps := 1000000) (disch := omega) only [↓Sd, ↓So, ↓Sk, ↓den, ↓denA, Sa, Sb, Sc, Se, O1.d, O2.d, O3.d, cmI, arI, envOf, putN, ↓reduceIte, Nat.reduceLT, Nat.reduceSub, Nat.reduceAdd, Int.reduceAdd, Int.reduceEq, Int.reduceLT, Int.reduceLE, arr_pos, arr_neg, tr_spec_TermsValid, C_spec_KindsOf l vars hl]
theorem D_Joined (o : Int) (l m : List Tm) (vars : Int) (hl : l.length ≤ 1000) (hm : m.length ≤ 1000) {Q : List AV → Prop} (h : ∀ (r : List Tm), r.length ≤ l.length + m.length + 1 → Q [⟨L T4, r⟩]) : mc.C f_spec_Joined [⟨I, o⟩, ⟨L T4, l⟩, ⟨L T4, m⟩, ⟨I, vars⟩] Q := by
 have h1 : Few l := by unfold Few; omega
 have h2 : Few m := by unfold Few; omega
 refine mc.c_of F_spec_Joined ?_
 simp (contextual := true) (maxSteps := 1000000) (disch := omega) only [↓Sd, ↓So, ↓Sk, ↓den, ↓denA, Sa, Sb, Sc, Se, O1.d, O2.d, O3.d, cmI, arI, envOf, putN, ↓reduceIte, Nat.reduceLT, Nat.reduceSub, Nat.reduceAdd, Int.reduceAdd, Int.reduceEq, Int.reduceLT, Int.reduceLE, arr_pos, arr_neg, tr_spec_Joined, C_spec_TermsValid l vars h1, C_spec_TermsValid m vars h2]
 refine ⟨fun _ => h _ (by simp), fun _ => ⟨fun _ => h _ (by simp), fun _ => ?_⟩⟩
 refine mc.lp_for (List Tm) (fun i s => [⟨I, o⟩, ⟨L T4, l⟩, ⟨L T4, m⟩, ⟨I, vars⟩, ⟨I, (i : Int)⟩, ⟨L T4, s⟩]) (fun i s => s.length = i) l.length 0 [] _ rfl (Nat.zero_le _) rfl ?_ ?_
 ·rintro i s hi hs
  simp (contextual := true) (maxSteps := 1000000) (disch := omega) only [↓Sd, ↓So, ↓Sk, ↓den, ↓denA, Sa, Sb, Sc, Se, O1.d, O2.d, O3.d, cmI, arI, envOf, putN, ↓reduceIte, Nat.reduceLT, Nat.reduceSub, Nat.reduceAdd, Int.reduceAdd, Int.reduceEq, Int.reduceLT, Int.reduceLE, arr_pos, arr_neg, ]
  omega
 rintro s hs
 simp (contextual := true) (maxSteps := 1000000) (disch := omega) only [↓Sd, ↓So, ↓Sk, ↓den, ↓denA, Sa, Sb, Sc, Se, O1.d, O2.d, O3.d, cmI, arI, envOf, putN, ↓reduceIte, Nat.reduceLT, Nat.reduceSub, Nat.reduceAdd, Int.reduceAdd, Int.reduceEq, Int.reduceLT, Int.reduceLE, arr_pos, arr_neg, ↓wpJoin, ]
 refine mc.lp_for (List Tm) (fun i s => [⟨I, o⟩, ⟨L T4, l⟩, ⟨L T4, m⟩, ⟨I, vars⟩, ⟨I, (i : Int)⟩, ⟨L T4, s⟩]) (fun i s => s.length ≤ l.length + i) m.length 0 s _ rfl (Nat.zero_le _) (by omega) ?_ ?_
 ·rintro i s hi hs
  simp (contextual := true) (maxSteps := 1000000) (disch := omega) only [↓Sd, ↓So, ↓Sk, ↓den, ↓denA, Sa, Sb, Sc, Se, O1.d, O2.d, O3.d, cmI, arI, envOf, putN, ↓reduceIte, Nat.reduceLT, Nat.reduceSub, Nat.reduceAdd, Int.reduceAdd, Int.reduceEq, Int.reduceLT, Int.reduceLE, arr_pos, arr_neg, C_spec_l1One, C_spec_l1Moved]
  refine ⟨fun _ => by omega, fun g => ?_⟩
  have hf : Few (s ++ [((7 : Int), (0 : Int), (l.length : Int) - 1, (s.length : Int) - 1)]) := by unfold Few; simp only [List.length_append, List.length_singleton]; omega
  simp (contextual := true) (maxSteps := 1000000) (disch := omega) only [↓Sd, ↓So, ↓Sk, ↓den, ↓denA, Sa, Sb, Sc, Se, O1.d, O2.d, O3.d, cmI, arI, envOf, putN, ↓reduceIte, Nat.reduceLT, Nat.reduceSub, Nat.reduceAdd, Int.reduceAdd, Int.reduceEq, Int.reduceLT, Int.reduceLE, arr_pos, arr_neg, C_spec_TermsValid _ vars hf]
  exact ⟨fun _ => h _ (by simp), fun _ => h _ (by simp only [List.length_append, List.length_singleton]; omega)⟩
 ·rintro s hs
  simp (contextual := true) (maxSteps := 1000000) (disch := omega) only [↓Sd, ↓So, ↓Sk, ↓den, ↓denA, Sa, Sb, Sc, Se, O1.d, O2.d, O3.d, cmI, arI, envOf, putN, ↓reduceIte, Nat.reduceLT, Nat.reduceSub, Nat.reduceAdd, Int.reduceAdd, Int.reduceEq, Int.reduceLT, Int.reduceLE, arr_pos, arr_neg, ]
  refine ⟨fun _ => h _ (by simp), fun _ => ?_⟩
  have hf : Few (s ++ [(o, (0 : Int), (l.length : Int) - 1, (s.length : Int) - 1)]) := by unfold Few; simp only [List.length_append, List.length_singleton]; omega
  simp (contextual := true) (maxSteps := 1000000) (disch := omega) only [↓Sd, ↓So, ↓Sk, ↓den, ↓denA, Sa, Sb, Sc, Se, O1.d, O2.d, O3.d, cmI, arI, envOf, putN, ↓reduceIte, Nat.reduceLT, Nat.reduceSub, Nat.reduceAdd, Int.reduceAdd, Int.reduceEq, Int.reduceLT, Int.reduceLE, arr_pos, arr_neg, C_spec_TermsValid _ vars hf]
  exact ⟨fun _ => h _ (by simp), fun _ => h _ (by simp only [List.length_append, List.length_singleton]; omega)⟩
theorem D_l2When (b : List Int) (p : Int) (vs : List Vr) (hb : Rdy b) (hp : 0 ≤ p ∧ p ≤ 800000000) (hv : 1 ≤ vs.length) (hv2 : vs.length ≤ 1000) {Q : List AV → Prop} (h : ∀ (l : List Tm) (p' : Int), p ≤ p' ∧ p' ≤ p + 10 → l.length ≤ 9 → Q [⟨L T4, l⟩, ⟨RD, (b, p')⟩]) : mc.C f_spec_l2When [⟨RD, (b, p)⟩, ⟨L V3, vs⟩] Q := by
 refine mc.c_of F_spec_l2When ?_
 simp (contextual := true) (maxSteps := 1000000) (disch := omega) only [↓Sd, ↓So, ↓Sk, ↓den, ↓denA, Sa, Sb, Sc, Se, O1.d, O2.d, O3.d, cmI, arI, envOf, putN, ↓reduceIte, Nat.reduceLT, Nat.reduceSub, Nat.reduceAdd, Int.reduceAdd, Int.reduceEq, Int.reduceLT, Int.reduceLE, arr_pos, arr_neg, tr_spec_l2When]
 refine D_pick1 _ _ _ hb (by omega) (by omega) fun i i0 i1 => ?_; simp (contextual := true) (maxSteps := 1000000) (disch := omega) only [↓Sd, ↓So, ↓Sk, ↓den, ↓denA, Sa, Sb, Sc, Se, O1.d, O2.d, O3.d, cmI, arI, envOf, putN, ↓reduceIte, Nat.reduceLT, Nat.reduceSub, Nat.reduceAdd, Int.reduceAdd, Int.reduceEq, Int.reduceLT, Int.reduceLE, arr_pos, arr_neg, ]
 refine D_l2Cond _ _ (vs.getD i.toNat (0, 0, 0)) _ hb (by omega) fun l p1 hp1 hl => ?_
 simp (contextual := true) (maxSteps := 1000000) (disch := omega) only [↓Sd, ↓So, ↓Sk, ↓den, ↓denA, Sa, Sb, Sc, Se, O1.d, O2.d, O3.d, cmI, arI, envOf, putN, ↓reduceIte, Nat.reduceLT, Nat.reduceSub, Nat.reduceAdd, Int.reduceAdd, Int.reduceEq, Int.reduceLT, Int.reduceLE, arr_pos, arr_neg, ↓wpJoin, ]
 refine D_pick1 _ _ _ hb (by omega) (by omega) fun k k0 k1 => ?_; simp (contextual := true) (maxSteps := 1000000) (disch := omega) only [↓Sd, ↓So, ↓Sk, ↓den, ↓denA, Sa, Sb, Sc, Se, O1.d, O2.d, O3.d, cmI, arI, envOf, putN, ↓reduceIte, Nat.reduceLT, Nat.reduceSub, Nat.reduceAdd, Int.reduceAdd, Int.reduceEq, Int.reduceLT, Int.reduceLE, arr_pos, arr_neg, ]
 refine ⟨fun _ => ?_, fun _ => h _ _ (by omega) (by omega)⟩
 refine D_pick1 _ _ _ hb (by omega) (by omega) fun j j0 j1 => ?_; simp (contextual := true) (maxSteps := 1000000) (disch := omega) only [↓Sd, ↓So, ↓Sk, ↓den, ↓denA, Sa, Sb, Sc, Se, O1.d, O2.d, O3.d, cmI, arI, envOf, putN, ↓reduceIte, Nat.reduceLT, Nat.reduceSub, Nat.reduceAdd, Int.reduceAdd, Int.reduceEq, Int.reduceLT, Int.reduceLE, arr_pos, arr_neg, ]
 refine D_num _ _ _ hb (by omega) (by simp) (by simp) fun o o0 => ?_; simp (contextual := true) (maxSteps := 1000000) (disch := omega) only [↓Sd, ↓So, ↓Sk, ↓den, ↓denA, Sa, Sb, Sc, Se, O1.d, O2.d, O3.d, cmI, arI, envOf, putN, ↓reduceIte, Nat.reduceLT, Nat.reduceSub, Nat.reduceAdd, Int.reduceAdd, Int.reduceEq, Int.reduceLT, Int.reduceLE, arr_pos, arr_neg, ]
 refine D_l2Cond _ _ (vs.getD j.toNat (0, 0, 0)) _ hb (by omega) fun m p2 hp2 hm => ?_
 simp (contextual := true) (maxSteps := 1000000) (disch := omega) only [↓Sd, ↓So, ↓Sk, ↓den, ↓denA, Sa, Sb, Sc, Se, O1.d, O2.d, O3.d, cmI, arI, envOf, putN, ↓reduceIte, Nat.reduceLT, Nat.reduceSub, Nat.reduceAdd, Int.reduceAdd, Int.reduceEq, Int.reduceLT, Int.reduceLE, arr_pos, arr_neg, ]
 refine D_Joined _ _ _ _ (by omega) (by omega) fun r hr => ?_
 simp (contextual := true) (maxSteps := 1000000) (disch := omega) only [↓Sd, ↓So, ↓Sk, ↓den, ↓denA, Sa, Sb, Sc, Se, O1.d, O2.d, O3.d, cmI, arI, envOf, putN, ↓reduceIte, Nat.reduceLT, Nat.reduceSub, Nat.reduceAdd, Int.reduceAdd, Int.reduceEq, Int.reduceLT, Int.reduceLE, arr_pos, arr_neg, ↓wpJoin, ]
 exact h _ _ (by omega) (by omega)
theorem D_l1Terms (b : List Int) (p vars kind most : Int) (hb : Rdy b) (hp : 0 ≤ p ∧ p ≤ 800000000) (hv : 0 ≤ vars ∧ vars ≤ 5) (hm : 1 ≤ most ∧ most ≤ 12) {Q : List AV → Prop} (h : ∀ (l : List Tm) (p' : Int), p ≤ p' ∧ p' ≤ p + 400 → 1 ≤ l.length → l.length ≤ 16 → Q [⟨L T4, l⟩, ⟨RD, (b, p')⟩]) : mc.C f_spec_l1Terms [⟨RD, (b, p)⟩, ⟨I, vars⟩, ⟨I, kind⟩, ⟨I, most⟩] Q := by
 refine mc.c_of F_spec_l1Terms ?_
 simp (contextual := true) (maxSteps := 1000000) (disch := omega) only [↓Sd, ↓So, ↓Sk, ↓den, ↓denA, Sa, Sb, Sc, Se, O1.d, O2.d, O3.d, cmI, arI, envOf, putN, ↓reduceIte, Nat.reduceLT, Nat.reduceSub, Nat.reduceAdd, Int.reduceAdd, Int.reduceEq, Int.reduceLT, Int.reduceLE, arr_pos, arr_neg, tr_spec_l1Terms]
 refine D_pick1 _ _ _ hb (by omega) (by omega) fun n n0 n1 => ?_; simp (contextual := true) (maxSteps := 1000000) (disch := omega) only [↓Sd, ↓So, ↓Sk, ↓den, ↓denA, Sa, Sb, Sc, Se, O1.d, O2.d, O3.d, cmI, arI, envOf, putN, ↓reduceIte, Nat.reduceLT, Nat.reduceSub, Nat.reduceAdd, Int.reduceAdd, Int.reduceEq, Int.reduceLT, Int.reduceLE, arr_pos, arr_neg, ]
 obtain ⟨N, hN⟩ : ∃ N : Nat, n = N := ⟨n.toNat, by omega⟩
 subst hN
 refine mc.lp_inv (fun k us => ∃ (p1 : Int) (l : List Tm) (ks : List Int), us = [⟨I, vars⟩, ⟨I, kind⟩, ⟨I, (k : Int)⟩, ⟨L U, b⟩, ⟨I, p1⟩, ⟨L T4, l⟩, ⟨L I, ks⟩] ∧ l.length = ks.length ∧ l.length + k ≤ 2 + N ∧ p ≤ p1 ∧ p1 + 20 * k ≤ p + 1 + 20 * (2 + N)) (2 + N) _ ⟨p + 1, [], [], by simp, rfl, by simp, by omega, by omega⟩ ?_
 rintro k us ⟨p1, l, ks, rfl, i1, i2, i3, i4⟩
 cases k with
 | zero =>
  simp (contextual := true) (maxSteps := 1000000) (disch := omega) only [↓Sd, ↓So, ↓Sk, ↓den, ↓denA, Sa, Sb, Sc, Se, O1.d, O2.d, O3.d, cmI, arI, envOf, putN, ↓reduceIte, Nat.reduceLT, Nat.reduceSub, Nat.reduceAdd, Int.reduceAdd, Int.reduceEq, Int.reduceLT, Int.reduceLE, arr_pos, arr_neg, ]
  refine mc.wp_join (fun us => ∃ (l : List Tm) (ks : List Int), us = [⟨I, kind⟩, ⟨L U, b⟩, ⟨I, p1⟩, ⟨L T4, l⟩, ⟨L I, ks⟩] ∧ l.length = ks.length ∧ 1 ≤ l.length ∧ l.length ≤ 14) ?_ ?_
  ·simp (contextual := true) (maxSteps := 1000000) (disch := omega) only [↓Sd, ↓So, ↓Sk, ↓den, ↓denA, Sa, Sb, Sc, Se, O1.d, O2.d, O3.d, cmI, arI, envOf, putN, ↓reduceIte, Nat.reduceLT, Nat.reduceSub, Nat.reduceAdd, Int.reduceAdd, Int.reduceEq, Int.reduceLT, Int.reduceLE, arr_pos, arr_neg, ]
   refine ⟨fun g => ⟨_, _, ⟨rfl, rfl⟩, by simp [i1], by simp, ?_⟩, fun g => ⟨l, ks, ⟨rfl, rfl⟩, i1, by omega, by omega⟩⟩
   simp only [List.length_append, List.length_singleton]; omega
  ·rintro us ⟨l, ks, rfl, a1, a2, a3⟩
   refine mc.wp_join (fun us => ∃ (p2 : Int) (l : List Tm), us = [⟨L U, b⟩, ⟨I, p2⟩, ⟨L T4, l⟩] ∧ p ≤ p2 ∧ p2 ≤ p + 390 ∧ 1 ≤ l.length ∧ l.length ≤ 16) ?_ ?_
   ·have ln1 : ∀ x : Tm, 1 ≤ (l ++ [x]).length ∧ (l ++ [x]).length ≤ 16 := fun x => by simp only [List.length_append, List.length_singleton]; omega
    simp (contextual := true) (maxSteps := 1000000) (disch := omega) only [↓Sd, ↓So, ↓Sk, ↓den, ↓denA, Sa, Sb, Sc, Se, O1.d, O2.d, O3.d, cmI, arI, envOf, putN, ↓reduceIte, Nat.reduceLT, Nat.reduceSub, Nat.reduceAdd, Int.reduceAdd, Int.reduceEq, Int.reduceLT, Int.reduceLE, arr_pos, arr_neg, ]
    refine ⟨fun _ => ⟨fun _ => ?_, fun _ => ⟨_, _, ⟨rfl, rfl⟩, by omega, by omega, by omega, by omega⟩⟩, fun _ => ⟨fun _ => ⟨fun _ => ?_, fun _ => ⟨_, _, ⟨rfl, rfl⟩, by omega, by omega, by omega, by omega⟩⟩, fun _ => ⟨_, _, ⟨rfl, rfl⟩, by omega, by omega, by omega, by omega⟩⟩⟩
    ·refine D_num _ _ _ hb (by omega) (by simp) (by simp) fun o o0 => ?_; simp (contextual := true) (maxSteps := 1000000) (disch := omega) only [↓Sd, ↓So, ↓Sk, ↓den, ↓denA, Sa, Sb, Sc, Se, O1.d, O2.d, O3.d, cmI, arI, envOf, putN, ↓reduceIte, Nat.reduceLT, Nat.reduceSub, Nat.reduceAdd, Int.reduceAdd, Int.reduceEq, Int.reduceLT, Int.reduceLE, arr_pos, arr_neg, ]
     refine D_l1Pick _ _ _ _ hb (by omega) (by omega) (by omega) fun x hx => ?_
     simp (contextual := true) (maxSteps := 1000000) (disch := omega) only [↓Sd, ↓So, ↓Sk, ↓den, ↓denA, Sa, Sb, Sc, Se, O1.d, O2.d, O3.d, cmI, arI, envOf, putN, ↓reduceIte, Nat.reduceLT, Nat.reduceSub, Nat.reduceAdd, Int.reduceAdd, Int.reduceEq, Int.reduceLT, Int.reduceLE, arr_pos, arr_neg, ]
     exact ⟨_, _, ⟨rfl, rfl⟩, by omega, by omega, (ln1 _).1, (ln1 _).2⟩
    ·refine D_l1Pick _ _ _ _ hb (by omega) (by omega) (by omega) fun x hx => ?_
     simp (contextual := true) (maxSteps := 1000000) (disch := omega) only [↓Sd, ↓So, ↓Sk, ↓den, ↓denA, Sa, Sb, Sc, Se, O1.d, O2.d, O3.d, cmI, arI, envOf, putN, ↓reduceIte, Nat.reduceLT, Nat.reduceSub, Nat.reduceAdd, Int.reduceAdd, Int.reduceEq, Int.reduceLT, Int.reduceLE, arr_pos, arr_neg, ]
     refine D_num _ _ _ hb (by omega) (by simp) (by simp) fun o o0 => ?_; simp (contextual := true) (maxSteps := 1000000) (disch := omega) only [↓Sd, ↓So, ↓Sk, ↓den, ↓denA, Sa, Sb, Sc, Se, O1.d, O2.d, O3.d, cmI, arI, envOf, putN, ↓reduceIte, Nat.reduceLT, Nat.reduceSub, Nat.reduceAdd, Int.reduceAdd, Int.reduceEq, Int.reduceLT, Int.reduceLE, arr_pos, arr_neg, ]
     refine D_l1Pick _ _ _ _ hb (by omega) (by omega) (by omega) fun y hy => ?_
     simp (contextual := true) (maxSteps := 1000000) (disch := omega) only [↓Sd, ↓So, ↓Sk, ↓den, ↓denA, Sa, Sb, Sc, Se, O1.d, O2.d, O3.d, cmI, arI, envOf, putN, ↓reduceIte, Nat.reduceLT, Nat.reduceSub, Nat.reduceAdd, Int.reduceAdd, Int.reduceEq, Int.reduceLT, Int.reduceLE, arr_pos, arr_neg, ]
     exact ⟨_, _, ⟨rfl, rfl⟩, by omega, by omega, (ln1 _).1, (ln1 _).2⟩
   ·rintro us ⟨p2, l, rfl, c1, c2, c3, c4⟩
    simp (contextual := true) (maxSteps := 1000000) (disch := omega) only [↓Sd, ↓So, ↓Sk, ↓den, ↓denA, Sa, Sb, Sc, Se, O1.d, O2.d, O3.d, cmI, arI, envOf, putN, ↓reduceIte, Nat.reduceLT, Nat.reduceSub, Nat.reduceAdd, Int.reduceAdd, Int.reduceEq, Int.reduceLT, Int.reduceLE, arr_pos, arr_neg, ]
    exact h _ _ (by omega) (by omega) (by omega)
 | succ k =>
  simp (contextual := true) (maxSteps := 1000000) (disch := omega) only [↓Sd, ↓So, ↓Sk, ↓den, ↓denA, Sa, Sb, Sc, Se, O1.d, O2.d, O3.d, cmI, arI, envOf, putN, ↓reduceIte, Nat.reduceLT, Nat.reduceSub, Nat.reduceAdd, Int.reduceAdd, Int.reduceEq, Int.reduceLT, Int.reduceLE, arr_pos, arr_neg, ]
  refine mc.wp_join (fun us => ∃ (p2 : Int) (l : List Tm) (ks : List Int), us = [⟨I, vars⟩, ⟨I, kind⟩, ⟨I, (k : Int) + 1⟩, ⟨L U, b⟩, ⟨I, p2⟩, ⟨L T4, l⟩, ⟨L I, ks⟩] ∧ l.length = ks.length ∧ l.length + k ≤ 2 + N ∧ p ≤ p2 ∧ p2 + 20 * k ≤ p + 1 + 20 * (2 + N)) ?_ ?_
  ·simp (contextual := true) (maxSteps := 1000000) (disch := omega) only [↓Sd, ↓So, ↓Sk, ↓den, ↓denA, Sa, Sb, Sc, Se, O1.d, O2.d, O3.d, cmI, arI, envOf, putN, ↓reduceIte, Nat.reduceLT, Nat.reduceSub, Nat.reduceAdd, Int.reduceAdd, Int.reduceEq, Int.reduceLT, Int.reduceLE, arr_pos, arr_neg, ]
   refine D_num _ _ _ hb (by omega) (by simp) (by simp) fun o o0 => ?_; simp (contextual := true) (maxSteps := 1000000) (disch := omega) only [↓Sd, ↓So, ↓Sk, ↓den, ↓denA, Sa, Sb, Sc, Se, O1.d, O2.d, O3.d, cmI, arI, envOf, putN, ↓reduceIte, Nat.reduceLT, Nat.reduceSub, Nat.reduceAdd, Int.reduceAdd, Int.reduceEq, Int.reduceLT, Int.reduceLE, arr_pos, arr_neg, ]
   refine mc.wp_join (fun us => ∃ (p2 : Int) (t : Tm), us = [⟨I, vars⟩, ⟨I, kind⟩, ⟨I, (k : Int) + 1⟩, ⟨L U, b⟩, ⟨I, p2⟩, ⟨L T4, l⟩, ⟨L I, ks⟩, ⟨I, t.1⟩, ⟨I, t.2.1⟩, ⟨I, t.2.2.1⟩, ⟨I, t.2.2.2⟩] ∧ p ≤ p2 ∧ p2 ≤ p1 + 10) ?_ ?_
   ·simp (contextual := true) (maxSteps := 1000000) (disch := omega) only [↓Sd, ↓So, ↓Sk, ↓den, ↓denA, Sa, Sb, Sc, Se, O1.d, O2.d, O3.d, cmI, arI, envOf, putN, ↓reduceIte, Nat.reduceLT, Nat.reduceSub, Nat.reduceAdd, Int.reduceAdd, Int.reduceEq, Int.reduceLT, Int.reduceLE, arr_pos, arr_neg, ]
    refine ⟨fun g => ?_, fun g => ⟨fun g2 => ?_, fun g2 => ?_⟩⟩
    ·refine D_l1Number _ _ hb (by omega) fun x p2 hp2 => ?_
     simp (contextual := true) (maxSteps := 1000000) (disch := omega) only [↓Sd, ↓So, ↓Sk, ↓den, ↓denA, Sa, Sb, Sc, Se, O1.d, O2.d, O3.d, cmI, arI, envOf, putN, ↓reduceIte, Nat.reduceLT, Nat.reduceSub, Nat.reduceAdd, Int.reduceAdd, Int.reduceEq, Int.reduceLT, Int.reduceLE, arr_pos, arr_neg, ]
     refine ⟨fun _ => ⟨fun _ => ?_, fun _ => ⟨_, ((0 : Int), x, (0 : Int), (0 : Int)), ⟨rfl, rfl, rfl, rfl, rfl⟩, by omega, by omega⟩⟩, fun _ => ⟨_, ((0 : Int), x, (0 : Int), (0 : Int)), ⟨rfl, rfl, rfl, rfl, rfl⟩, by omega, by omega⟩⟩
     refine D_pick1 _ _ _ hb (by omega) (by omega) fun y y0 y1 => ?_; simp (contextual := true) (maxSteps := 1000000) (disch := omega) only [↓Sd, ↓So, ↓Sk, ↓den, ↓denA, Sa, Sb, Sc, Se, O1.d, O2.d, O3.d, cmI, arI, envOf, putN, ↓reduceIte, Nat.reduceLT, Nat.reduceSub, Nat.reduceAdd, Int.reduceAdd, Int.reduceEq, Int.reduceLT, Int.reduceLE, arr_pos, arr_neg, ]
     exact ⟨_, ((1 : Int), y, (0 : Int), (0 : Int)), ⟨rfl, rfl, rfl, rfl, rfl⟩, by omega, by omega⟩
    ·refine D_l1Number _ _ hb (by omega) fun x p2 hp2 => ?_
     simp (contextual := true) (maxSteps := 1000000) (disch := omega) only [↓Sd, ↓So, ↓Sk, ↓den, ↓denA, Sa, Sb, Sc, Se, O1.d, O2.d, O3.d, cmI, arI, envOf, putN, ↓reduceIte, Nat.reduceLT, Nat.reduceSub, Nat.reduceAdd, Int.reduceAdd, Int.reduceEq, Int.reduceLT, Int.reduceLE, arr_pos, arr_neg, ]
     refine ⟨fun _ => ⟨fun _ => ?_, fun _ => ⟨_, ((0 : Int), x, (0 : Int), (0 : Int)), ⟨rfl, rfl, rfl, rfl, rfl⟩, by omega, by omega⟩⟩, fun _ => ⟨_, ((0 : Int), x, (0 : Int), (0 : Int)), ⟨rfl, rfl, rfl, rfl, rfl⟩, by omega, by omega⟩⟩
     refine D_pick1 _ _ _ hb (by omega) (by omega) fun y y0 y1 => ?_; simp (contextual := true) (maxSteps := 1000000) (disch := omega) only [↓Sd, ↓So, ↓Sk, ↓den, ↓denA, Sa, Sb, Sc, Se, O1.d, O2.d, O3.d, cmI, arI, envOf, putN, ↓reduceIte, Nat.reduceLT, Nat.reduceSub, Nat.reduceAdd, Int.reduceAdd, Int.reduceEq, Int.reduceLT, Int.reduceLE, arr_pos, arr_neg, ]
     exact ⟨_, ((1 : Int), y, (0 : Int), (0 : Int)), ⟨rfl, rfl, rfl, rfl, rfl⟩, by omega, by omega⟩
    ·refine mc.wp_join (fun us => ∃ w : Int, us = [⟨I, vars⟩, ⟨I, kind⟩, ⟨I, (k : Int) + 1⟩, ⟨I, o⟩, ⟨I, w⟩, ⟨L U, b⟩, ⟨I, p1 + 1⟩, ⟨L T4, l⟩, ⟨L I, ks⟩, ⟨I, o⟩, ⟨I, (0 : Int)⟩, ⟨I, (0 : Int)⟩, ⟨I, (0 : Int)⟩]) ?_ ?_
     ·simp (contextual := true) (maxSteps := 1000000) (disch := omega) only [↓Sd, ↓So, ↓Sk, ↓den, ↓denA, Sa, Sb, Sc, Se, O1.d, O2.d, O3.d, cmI, arI, envOf, putN, ↓reduceIte, Nat.reduceLT, Nat.reduceSub, Nat.reduceAdd, Int.reduceAdd, Int.reduceEq, Int.reduceLT, Int.reduceLE, arr_pos, arr_neg, ]
      exact ⟨fun _ => ⟨2, rfl⟩, fun _ => ⟨1, rfl⟩⟩
     ·rintro us ⟨w, rfl⟩
      simp (contextual := true) (maxSteps := 1000000) (disch := omega) only [↓Sd, ↓So, ↓Sk, ↓den, ↓denA, Sa, Sb, Sc, Se, O1.d, O2.d, O3.d, cmI, arI, envOf, putN, ↓reduceIte, Nat.reduceLT, Nat.reduceSub, Nat.reduceAdd, Int.reduceAdd, Int.reduceEq, Int.reduceLT, Int.reduceLE, arr_pos, arr_neg, ]
      refine D_l1Pick _ _ _ _ hb (by omega) (by omega) (by omega) fun x hx => ?_
      simp (contextual := true) (maxSteps := 1000000) (disch := omega) only [↓Sd, ↓So, ↓Sk, ↓den, ↓denA, Sa, Sb, Sc, Se, O1.d, O2.d, O3.d, cmI, arI, envOf, putN, ↓reduceIte, Nat.reduceLT, Nat.reduceSub, Nat.reduceAdd, Int.reduceAdd, Int.reduceEq, Int.reduceLT, Int.reduceLE, arr_pos, arr_neg, ]
      refine D_l1Pick _ _ _ _ hb (by omega) (by omega) (by omega) fun y hy => ?_
      simp (contextual := true) (maxSteps := 1000000) (disch := omega) only [↓Sd, ↓So, ↓Sk, ↓den, ↓denA, Sa, Sb, Sc, Se, O1.d, O2.d, O3.d, cmI, arI, envOf, putN, ↓reduceIte, Nat.reduceLT, Nat.reduceSub, Nat.reduceAdd, Int.reduceAdd, Int.reduceEq, Int.reduceLT, Int.reduceLE, arr_pos, arr_neg, C_spec_l1One]
      exact ⟨fun _ => ⟨_, ((7 : Int), (0 : Int), x, x), ⟨rfl, rfl, rfl, rfl, rfl⟩, by omega, by omega⟩, fun _ => ⟨_, (o, (0 : Int), x, y), ⟨rfl, rfl, rfl, rfl, rfl⟩, by omega, by omega⟩⟩
   ·rintro us ⟨p2, t, rfl, c1, c2⟩
    simp (contextual := true) (maxSteps := 1000000) (disch := omega) only [↓Sd, ↓So, ↓Sk, ↓den, ↓denA, Sa, Sb, Sc, Se, O1.d, O2.d, O3.d, cmI, arI, envOf, putN, ↓reduceIte, Nat.reduceLT, Nat.reduceSub, Nat.reduceAdd, Int.reduceAdd, Int.reduceEq, Int.reduceLT, Int.reduceLE, arr_pos, arr_neg, C_spec_l1Kind t ks vars hv (by omega)]
    refine ⟨fun _ => ⟨_, _, _, ⟨rfl, rfl, rfl⟩, ?_, ?_, by omega, by omega⟩, fun _ => ⟨_, _, _, ⟨rfl, rfl, rfl⟩, i1, by omega, by omega, by omega⟩⟩
    ·simp only [List.length_append, List.length_singleton]; omega
    ·simp only [List.length_append, List.length_singleton]; omega
  ·rintro us ⟨p2, l, ks, rfl, a1, a2, a3, a4⟩
   simp (contextual := true) (maxSteps := 1000000) (disch := omega) only [↓Sd, ↓So, ↓Sk, ↓den, ↓denA, Sa, Sb, Sc, Se, O1.d, O2.d, O3.d, cmI, arI, envOf, putN, ↓reduceIte, Nat.reduceLT, Nat.reduceSub, Nat.reduceAdd, Int.reduceAdd, Int.reduceEq, Int.reduceLT, Int.reduceLE, arr_pos, arr_neg, ]
   exact ⟨k, by omega, p2, l, ks, ⟨rfl, rfl, rfl, rfl⟩, a1, a2, a3, a4⟩
theorem D_l2Value (b : List Int) (p : Int) (vs : List Vr) (k : Int) (i : Nat) (hk : k = i) (hb : Rdy b) (hp : 0 ≤ p ∧ p ≤ 700000000) (hv : vs.length ≤ 5) (hi : i < vs.length) {Q : List AV → Prop} (h : ∀ (l : List Tm) (p' : Int), p ≤ p' ∧ p' ≤ p + 500 → l.length ≤ 16 → Q [⟨L T4, l⟩, ⟨RD, (b, p')⟩]) : mc.C f_spec_l2Value [⟨RD, (b, p)⟩, ⟨L V3, vs⟩, ⟨I, k⟩] Q := by
 subst hk
 refine mc.c_of F_spec_l2Value ?_
 simp (contextual := true) (maxSteps := 1000000) (disch := omega) only [↓Sd, ↓So, ↓Sk, ↓den, ↓denA, Sa, Sb, Sc, Se, O1.d, O2.d, O3.d, cmI, arI, envOf, putN, ↓reduceIte, Nat.reduceLT, Nat.reduceSub, Nat.reduceAdd, Int.reduceAdd, Int.reduceEq, Int.reduceLT, Int.reduceLE, arr_pos, arr_neg, tr_spec_l2Value]
 refine D_pick1 _ _ _ hb (by omega) (by omega) fun k k0 k1 => ?_; simp (contextual := true) (maxSteps := 1000000) (disch := omega) only [↓Sd, ↓So, ↓Sk, ↓den, ↓denA, Sa, Sb, Sc, Se, O1.d, O2.d, O3.d, cmI, arI, envOf, putN, ↓reduceIte, Nat.reduceLT, Nat.reduceSub, Nat.reduceAdd, Int.reduceAdd, Int.reduceEq, Int.reduceLT, Int.reduceLE, arr_pos, arr_neg, ]
 refine ⟨fun _ => ?_, fun _ => ⟨fun _ => ?_, fun _ => ⟨fun _ => ?_, fun _ => ?_⟩⟩⟩
 ·simp (contextual := true) (maxSteps := 1000000) (disch := omega) only [↓Sd, ↓So, ↓Sk, ↓den, ↓denA, Sa, Sb, Sc, Se, O1.d, O2.d, O3.d, cmI, arI, envOf, putN, ↓reduceIte, Nat.reduceLT, Nat.reduceSub, Nat.reduceAdd, Int.reduceAdd, Int.reduceEq, Int.reduceLT, Int.reduceLE, arr_pos, arr_neg, C_spec_l2VarOf, C_spec_l2Const]
  refine D_num _ _ _ hb (by omega) (by simp) (by simp) fun o o0 => ?_; simp (contextual := true) (maxSteps := 1000000) (disch := omega) only [↓Sd, ↓So, ↓Sk, ↓den, ↓denA, Sa, Sb, Sc, Se, O1.d, O2.d, O3.d, cmI, arI, envOf, putN, ↓reduceIte, Nat.reduceLT, Nat.reduceSub, Nat.reduceAdd, Int.reduceAdd, Int.reduceEq, Int.reduceLT, Int.reduceLE, arr_pos, arr_neg, ]
  exact h _ _ (by omega) (by simp)
 ·refine D_pick _ _ _ hb (by omega) fun n _ _ => ?_
  simp (contextual := true) (maxSteps := 1000000) (disch := omega) only [↓Sd, ↓So, ↓Sk, ↓den, ↓denA, Sa, Sb, Sc, Se, O1.d, O2.d, O3.d, cmI, arI, envOf, putN, ↓reduceIte, Nat.reduceLT, Nat.reduceSub, Nat.reduceAdd, Int.reduceAdd, Int.reduceEq, Int.reduceLT, Int.reduceLE, arr_pos, arr_neg, ↓wpJoin, C_spec_l2Const]
  exact h _ _ (by omega) (by simp)
 ·refine D_pick1 _ _ _ hb (by omega) (by omega) fun n n0 n1 => ?_; simp (contextual := true) (maxSteps := 1000000) (disch := omega) only [↓Sd, ↓So, ↓Sk, ↓den, ↓denA, Sa, Sb, Sc, Se, O1.d, O2.d, O3.d, cmI, arI, envOf, putN, ↓reduceIte, Nat.reduceLT, Nat.reduceSub, Nat.reduceAdd, Int.reduceAdd, Int.reduceEq, Int.reduceLT, Int.reduceLE, arr_pos, arr_neg, ]
  simp (contextual := true) (maxSteps := 1000000) (disch := omega) only [↓Sd, ↓So, ↓Sk, ↓den, ↓denA, Sa, Sb, Sc, Se, O1.d, O2.d, O3.d, cmI, arI, envOf, putN, ↓reduceIte, Nat.reduceLT, Nat.reduceSub, Nat.reduceAdd, Int.reduceAdd, Int.reduceEq, Int.reduceLT, Int.reduceLE, arr_pos, arr_neg, C_spec_l2VarOf]
  exact h _ _ (by omega) (by simp)
 ·refine D_l1Terms _ _ _ _ _ hb (by omega) (by omega) (by omega) fun l p2 h1 h2 h3 => ?_
  simp (contextual := true) (maxSteps := 1000000) (disch := omega) only [↓Sd, ↓So, ↓Sk, ↓den, ↓denA, Sa, Sb, Sc, Se, O1.d, O2.d, O3.d, cmI, arI, envOf, putN, ↓reduceIte, Nat.reduceLT, Nat.reduceSub, Nat.reduceAdd, Int.reduceAdd, Int.reduceEq, Int.reduceLT, Int.reduceLE, arr_pos, arr_neg, ]
  exact h _ _ (by omega) (by omega)
def SmRu (r : Ru) : Prop := r.1.length ≤ 100 ∧ r.2.1.length ≤ 100 ∧ r.2.2.length ≤ 100 ∧ ∀ x ∈ r.2.2, x.length ≤ 100
def SmR5 (r : Ru) : Prop := r.1.length ≤ 50 ∧ r.2.1.length ≤ 50 ∧ r.2.2.length ≤ 50 ∧ ∀ x ∈ r.2.2, x.length ≤ 50
theorem SmR5.sm {r : Ru} (h : SmR5 r) : SmRu r := ⟨by have := h.1; omega, by have := h.2.1; omega, by have := h.2.2.1; omega, fun x hx => by have := h.2.2.2 x hx; omega⟩
def SmSy (s : Sy) : Prop := s.1.length ≤ 3 ∧ s.2.length ≤ 9 ∧ ∀ r ∈ s.2, SmRu r
theorem SmSy.few {s : Sy} (h : SmSy s) : FewSy s := by
 refine ⟨by have := h.1; unfold Few; omega, by have := h.2.1; unfold Few; omega, fun r hr => ?_⟩
 have h1 := h.2.2 r hr
 exact ⟨by have := h1.1; unfold Few; omega, by have := h1.2.1; unfold Few; omega, by have := h1.2.2.1; unfold Few; omega, fun x hx => by have := h1.2.2.2 x hx; unfold Few; omega⟩
theorem D_l2Rules (b : List Int) (p : Int) (vs : List Vr) (many : Nat) (hb : Rdy b) (hp : 0 ≤ p ∧ p ≤ 600000000) (hv1 : 1 ≤ vs.length) (hv : vs.length ≤ 3) (hm : many ≤ 9) {Q : List AV → Prop} (h : ∀ (l : List Ru) (p' : Int), p ≤ p' ∧ p' ≤ p + 20000 → l.length ≤ many → (∀ r ∈ l, SmR5 r) → Q [⟨L TR, l⟩, ⟨RD, (b, p')⟩]) : mc.C f_spec_l2Rules [⟨RD, (b, p)⟩, ⟨L V3, vs⟩, ⟨I, (many : Int)⟩] Q := by
 refine mc.c_of F_spec_l2Rules ?_
 simp (contextual := true) (maxSteps := 1000000) (disch := omega) only [↓Sd, ↓So, ↓Sk, ↓den, ↓denA, Sa, Sb, Sc, Se, O1.d, O2.d, O3.d, cmI, arI, envOf, putN, ↓reduceIte, Nat.reduceLT, Nat.reduceSub, Nat.reduceAdd, Int.reduceAdd, Int.reduceEq, Int.reduceLT, Int.reduceLE, arr_pos, arr_neg, tr_spec_l2Rules]
 refine mc.lp_for (Int × List Ru) (fun i s => [⟨L V3, vs⟩, ⟨I, (many : Int)⟩, ⟨I, (i : Int)⟩, ⟨L U, b⟩, ⟨I, s.1⟩, ⟨L TR, s.2⟩]) (fun i s => p ≤ s.1 ∧ s.1 ≤ p + 2000 * i ∧ s.2.length = i ∧ ∀ r ∈ s.2, SmR5 r) many 0 (p, []) _ rfl (Nat.zero_le _) ⟨by simp, by simp, rfl, by simp⟩ ?_ ?_
 ·rintro i ⟨p1, l⟩ hi ⟨a1, a2, a3, a4⟩
  simp only at a1 a2 a3 a4
  simp (contextual := true) (maxSteps := 1000000) (disch := omega) only [↓Sd, ↓So, ↓Sk, ↓den, ↓denA, Sa, Sb, Sc, Se, O1.d, O2.d, O3.d, cmI, arI, envOf, putN, ↓reduceIte, Nat.reduceLT, Nat.reduceSub, Nat.reduceAdd, Int.reduceAdd, Int.reduceEq, Int.reduceLT, Int.reduceLE, arr_pos, arr_neg, ]
  refine D_l2When _ _ _ hb (by omega) hv1 (by omega) fun w p2 hp2 hw => ?_
  simp (contextual := true) (maxSteps := 1000000) (disch := omega) only [↓Sd, ↓So, ↓Sk, ↓den, ↓denA, Sa, Sb, Sc, Se, O1.d, O2.d, O3.d, cmI, arI, envOf, putN, ↓reduceIte, Nat.reduceLT, Nat.reduceSub, Nat.reduceAdd, Int.reduceAdd, Int.reduceEq, Int.reduceLT, Int.reduceLE, arr_pos, arr_neg, ]
  refine mc.lp_for (Int × List Int × List (List Tm)) (fun j s => [⟨L V3, vs⟩, ⟨I, (many : Int)⟩, ⟨I, (i : Int)⟩, ⟨I, (j : Int)⟩, ⟨L U, b⟩, ⟨I, s.1⟩, ⟨L TR, l⟩, ⟨L T4, w⟩, ⟨L I, s.2.1⟩, ⟨L (L T4), s.2.2⟩]) (fun j s => p2 ≤ s.1 ∧ s.1 ≤ p2 + 510 * j ∧ s.2.1.length ≤ j ∧ s.2.2.length ≤ j ∧ ∀ x ∈ s.2.2, x.length ≤ 16) vs.length 0 (p2, [], []) _ rfl (Nat.zero_le _) ⟨by simp, by simp, by simp, by simp, by simp⟩ ?_ ?_
  ·rintro j ⟨p3, ss, ts⟩ hj ⟨c1, c2, c3, c4, c5⟩
   simp only at c1 c2 c3 c4 c5
   have app : ∀ (x : List Tm), x.length ≤ 16 → ∀ y ∈ ts ++ [x], y.length ≤ 16 := fun x hx y hy => (List.mem_append.1 hy).elim (c5 y) fun hy => by rw [List.mem_singleton.1 hy]; exact hx
   have l1 : ∀ x, (ss ++ [x]).length = ss.length + 1 := fun x => by simp
   have l2 : ∀ x, (ts ++ [x]).length = ts.length + 1 := fun x => by simp
   simp (contextual := true) (maxSteps := 1000000) (disch := omega) only [↓Sd, ↓So, ↓Sk, ↓den, ↓denA, Sa, Sb, Sc, Se, O1.d, O2.d, O3.d, cmI, arI, envOf, putN, ↓reduceIte, Nat.reduceLT, Nat.reduceSub, Nat.reduceAdd, Int.reduceAdd, Int.reduceEq, Int.reduceLT, Int.reduceLE, arr_pos, arr_neg, ↓wpJoin, ]
   refine D_pick1 _ _ _ hb (by omega) (by omega) fun a a0 a1 => ?_; simp (contextual := true) (maxSteps := 1000000) (disch := omega) only [↓Sd, ↓So, ↓Sk, ↓den, ↓denA, Sa, Sb, Sc, Se, O1.d, O2.d, O3.d, cmI, arI, envOf, putN, ↓reduceIte, Nat.reduceLT, Nat.reduceSub, Nat.reduceAdd, Int.reduceAdd, Int.reduceEq, Int.reduceLT, Int.reduceLE, arr_pos, arr_neg, ]
   refine ⟨fun _ => ?_, fun _ => ⟨fun _ => ⟨fun _ => ?_, fun _ => ?_⟩, fun _ => ?_⟩⟩
   ·refine D_l2Value _ _ _ _ j (by omega) hb (by omega) (by omega) hj fun x p4 hp4 hx => ?_
    simp (contextual := true) (maxSteps := 1000000) (disch := omega) only [↓Sd, ↓So, ↓Sk, ↓den, ↓denA, Sa, Sb, Sc, Se, O1.d, O2.d, O3.d, cmI, arI, envOf, putN, ↓reduceIte, Nat.reduceLT, Nat.reduceSub, Nat.reduceAdd, Int.reduceAdd, Int.reduceEq, Int.reduceLT, Int.reduceLE, arr_pos, arr_neg, ↓wpJoin, ]
    exact ⟨(_, _, _), ⟨rfl, rfl, rfl⟩, by dsimp only; omega, by dsimp only; omega, by dsimp only; rw [l1]; omega, by dsimp only; rw [l2]; omega, app x hx⟩
   ·refine D_pick1 _ _ _ hb (by omega) (by omega) fun c c0 c1 => ?_; simp (contextual := true) (maxSteps := 1000000) (disch := omega) only [↓Sd, ↓So, ↓Sk, ↓den, ↓denA, Sa, Sb, Sc, Se, O1.d, O2.d, O3.d, cmI, arI, envOf, putN, ↓reduceIte, Nat.reduceLT, Nat.reduceSub, Nat.reduceAdd, Int.reduceAdd, Int.reduceEq, Int.reduceLT, Int.reduceLE, arr_pos, arr_neg, ]
    refine ⟨fun _ => ?_, fun _ => ?_⟩
    ·refine D_l2Value _ _ _ _ j (by omega) hb (by omega) (by omega) hj fun x p4 hp4 hx => ?_
     simp (contextual := true) (maxSteps := 1000000) (disch := omega) only [↓Sd, ↓So, ↓Sk, ↓den, ↓denA, Sa, Sb, Sc, Se, O1.d, O2.d, O3.d, cmI, arI, envOf, putN, ↓reduceIte, Nat.reduceLT, Nat.reduceSub, Nat.reduceAdd, Int.reduceAdd, Int.reduceEq, Int.reduceLT, Int.reduceLE, arr_pos, arr_neg, ↓wpJoin, ]
     exact ⟨(_, _, _), ⟨rfl, rfl, rfl⟩, by dsimp only; omega, by dsimp only; omega, by dsimp only; rw [l1]; omega, by dsimp only; rw [l2]; omega, app x hx⟩
    ·exact ⟨(_, _, _), ⟨rfl, rfl, rfl⟩, by dsimp only; omega, by dsimp only; omega, by dsimp only; omega, by dsimp only; omega, c5⟩
   ·exact ⟨(_, _, _), ⟨rfl, rfl, rfl⟩, by dsimp only; omega, by dsimp only; omega, by dsimp only; omega, by dsimp only; omega, c5⟩
   ·exact ⟨(_, _, _), ⟨rfl, rfl, rfl⟩, by dsimp only; omega, by dsimp only; omega, by dsimp only; omega, by dsimp only; omega, c5⟩
  ·rintro ⟨p3, ss, ts⟩ ⟨c1, c2, c3, c4, c5⟩
   simp only at c1 c2 c3 c4 c5
   simp (contextual := true) (maxSteps := 1000000) (disch := omega) only [↓Sd, ↓So, ↓Sk, ↓den, ↓denA, Sa, Sb, Sc, Se, O1.d, O2.d, O3.d, cmI, arI, envOf, putN, ↓reduceIte, Nat.reduceLT, Nat.reduceSub, Nat.reduceAdd, Int.reduceAdd, Int.reduceEq, Int.reduceLT, Int.reduceLE, arr_pos, arr_neg, ]
   refine ⟨(_, _), ⟨rfl, rfl⟩, by dsimp only; omega, by dsimp only; omega, by dsimp only; simp [a3], fun r hr => ?_⟩
   rcases List.mem_append.1 hr with hr | hr
   ·exact a4 r hr
   ·rw [List.mem_singleton.1 hr]
    exact ⟨by dsimp only; omega, by dsimp only; omega, by dsimp only; omega, fun x hx => by have := c5 x hx; omega⟩
 ·rintro ⟨p1, l⟩ ⟨a1, a2, a3, a4⟩
  simp only at a1 a2 a3 a4
  simp (contextual := true) (maxSteps := 1000000) (disch := omega) only [↓Sd, ↓So, ↓Sk, ↓den, ↓denA, Sa, Sb, Sc, Se, O1.d, O2.d, O3.d, cmI, arI, envOf, putN, ↓reduceIte, Nat.reduceLT, Nat.reduceSub, Nat.reduceAdd, Int.reduceAdd, Int.reduceEq, Int.reduceLT, Int.reduceLE, arr_pos, arr_neg, ]
  exact h _ _ (by omega) (by omega) a4
theorem D_l2System (b : List Int) (p most : Int) (hb : Rdy b) (hp : 0 ≤ p ∧ p ≤ 500000000) {Q : List AV → Prop} (h : ∀ (s : Sy) (p' : Int), p ≤ p' ∧ p' ≤ p + 30000 → SmSy s → 1 ≤ s.1.length → s.2.length ≤ 4 → (∀ r ∈ s.2, SmR5 r) → Q [⟨L V3, s.1⟩, ⟨L TR, s.2⟩, ⟨RD, (b, p')⟩]) : mc.C f_spec_l2System [⟨RD, (b, p)⟩, ⟨I, most⟩] Q := by
 refine mc.c_of F_spec_l2System ?_
 simp (contextual := true) (maxSteps := 1000000) (disch := omega) only [↓Sd, ↓So, ↓Sk, ↓den, ↓denA, Sa, Sb, Sc, Se, O1.d, O2.d, O3.d, cmI, arI, envOf, putN, ↓reduceIte, Nat.reduceLT, Nat.reduceSub, Nat.reduceAdd, Int.reduceAdd, Int.reduceEq, Int.reduceLT, Int.reduceLE, arr_pos, arr_neg, tr_spec_l2System]
 refine D_pick1 _ _ _ hb (by omega) (by omega) fun n n0 n1 => ?_; simp (contextual := true) (maxSteps := 1000000) (disch := omega) only [↓Sd, ↓So, ↓Sk, ↓den, ↓denA, Sa, Sb, Sc, Se, O1.d, O2.d, O3.d, cmI, arI, envOf, putN, ↓reduceIte, Nat.reduceLT, Nat.reduceSub, Nat.reduceAdd, Int.reduceAdd, Int.reduceEq, Int.reduceLT, Int.reduceLE, arr_pos, arr_neg, ]
 obtain ⟨N, hN⟩ : ∃ N : Nat, n = N := ⟨n.toNat, by omega⟩
 subst hN
 refine mc.lp_inv (fun k us => ∃ (p1 m : Int) (l : List Vr), us = [⟨I, most⟩, ⟨I, m⟩, ⟨I, (k : Int)⟩, ⟨L U, b⟩, ⟨I, p1⟩, ⟨L V3, l⟩] ∧ l.length + k ≤ 1 + N ∧ p ≤ p1 ∧ p1 + 3 * k ≤ p + 1 + 3 * (1 + N)) (1 + N) _ ⟨p + 1, 1, [], by simp, by simp, by omega, by omega⟩ ?_
 rintro k us ⟨p1, m, l, rfl, i1, i2, i3⟩
 cases k with
 | zero =>
  simp (contextual := true) (maxSteps := 1000000) (disch := omega) only [↓Sd, ↓So, ↓Sk, ↓den, ↓denA, Sa, Sb, Sc, Se, O1.d, O2.d, O3.d, cmI, arI, envOf, putN, ↓reduceIte, Nat.reduceLT, Nat.reduceSub, Nat.reduceAdd, Int.reduceAdd, Int.reduceEq, Int.reduceLT, Int.reduceLE, arr_pos, arr_neg, ]
  refine mc.wp_join (fun us => ∃ (l : List Vr), us = [⟨L U, b⟩, ⟨I, p1⟩, ⟨L V3, l⟩] ∧ 1 ≤ l.length ∧ l.length ≤ 3) ?_ ?_
  ·simp (contextual := true) (maxSteps := 1000000) (disch := omega) only [↓Sd, ↓So, ↓Sk, ↓den, ↓denA, Sa, Sb, Sc, Se, O1.d, O2.d, O3.d, cmI, arI, envOf, putN, ↓reduceIte, Nat.reduceLT, Nat.reduceSub, Nat.reduceAdd, Int.reduceAdd, Int.reduceEq, Int.reduceLT, Int.reduceLE, arr_pos, arr_neg, ]
   exact ⟨fun _ => by omega, fun _ => by omega⟩
  ·rintro us ⟨l, rfl, a1, a2⟩
   simp (contextual := true) (maxSteps := 1000000) (disch := omega) only [↓Sd, ↓So, ↓Sk, ↓den, ↓denA, Sa, Sb, Sc, Se, O1.d, O2.d, O3.d, cmI, arI, envOf, putN, ↓reduceIte, Nat.reduceLT, Nat.reduceSub, Nat.reduceAdd, Int.reduceAdd, Int.reduceEq, Int.reduceLT, Int.reduceLE, arr_pos, arr_neg, ]
   refine D_num _ _ _ hb (by omega) (by simp) (by simp) fun x x0 => ?_; simp (contextual := true) (maxSteps := 1000000) (disch := omega) only [↓Sd, ↓So, ↓Sk, ↓den, ↓denA, Sa, Sb, Sc, Se, O1.d, O2.d, O3.d, cmI, arI, envOf, putN, ↓reduceIte, Nat.reduceLT, Nat.reduceSub, Nat.reduceAdd, Int.reduceAdd, Int.reduceEq, Int.reduceLT, Int.reduceLE, arr_pos, arr_neg, ]
   have hx : 0 ≤ x ∧ x ≤ 4 := by simp only [List.mem_append, List.mem_singleton] at x0; omega
   obtain ⟨y, hy⟩ : ∃ y : Nat, x = y := ⟨x.toNat, by omega⟩
   subst hy
   refine D_l2Rules _ _ _ _ hb (by omega) a1 a2 (by omega) fun rs p2 hp2 h1 h2 => ?_
   simp (contextual := true) (maxSteps := 1000000) (disch := omega) only [↓Sd, ↓So, ↓Sk, ↓den, ↓denA, Sa, Sb, Sc, Se, O1.d, O2.d, O3.d, cmI, arI, envOf, putN, ↓reduceIte, Nat.reduceLT, Nat.reduceSub, Nat.reduceAdd, Int.reduceAdd, Int.reduceEq, Int.reduceLT, Int.reduceLE, arr_pos, arr_neg, ↓wpJoin, ]
   exact h (l, rs) _ (by omega) ⟨a2, by dsimp only; omega, fun r hr => (h2 r hr).sm⟩ a1 (by dsimp only; omega) h2
 | succ k =>
  simp (contextual := true) (maxSteps := 1000000) (disch := omega) only [↓Sd, ↓So, ↓Sk, ↓den, ↓denA, Sa, Sb, Sc, Se, O1.d, O2.d, O3.d, cmI, arI, envOf, putN, ↓reduceIte, Nat.reduceLT, Nat.reduceSub, Nat.reduceAdd, Int.reduceAdd, Int.reduceEq, Int.reduceLT, Int.reduceLE, arr_pos, arr_neg, ]
  refine mc.wp_join (fun us => ∃ (p2 m : Int) (l : List Vr), us = [⟨I, most⟩, ⟨I, m⟩, ⟨I, (k : Int) + 1⟩, ⟨L U, b⟩, ⟨I, p2⟩, ⟨L V3, l⟩] ∧ l.length + k ≤ 1 + N ∧ p ≤ p2 ∧ p2 + 3 * k ≤ p + 1 + 3 * (1 + N)) ?_ ?_
  ·simp (contextual := true) (maxSteps := 1000000) (disch := omega) only [↓Sd, ↓So, ↓Sk, ↓den, ↓denA, Sa, Sb, Sc, Se, O1.d, O2.d, O3.d, cmI, arI, envOf, putN, ↓reduceIte, Nat.reduceLT, Nat.reduceSub, Nat.reduceAdd, Int.reduceAdd, Int.reduceEq, Int.reduceLT, Int.reduceLE, arr_pos, arr_neg, ]
   refine D_num _ _ _ hb (by omega) (by simp) (by simp) fun x x0 => ?_; simp (contextual := true) (maxSteps := 1000000) (disch := omega) only [↓Sd, ↓So, ↓Sk, ↓den, ↓denA, Sa, Sb, Sc, Se, O1.d, O2.d, O3.d, cmI, arI, envOf, putN, ↓reduceIte, Nat.reduceLT, Nat.reduceSub, Nat.reduceAdd, Int.reduceAdd, Int.reduceEq, Int.reduceLT, Int.reduceLE, arr_pos, arr_neg, ]
   have hx : 2 ≤ x ∧ x ≤ 5 := by simp only [List.mem_append, List.mem_singleton] at x0; omega
   refine ⟨fun _ => ?_, fun _ => ⟨_, _, _, ⟨rfl, rfl, rfl⟩, by omega, by omega, by omega⟩⟩
   refine D_num _ _ _ hb (by omega) (by simp) (by simp) fun lo lo0 => ?_; simp (contextual := true) (maxSteps := 1000000) (disch := omega) only [↓Sd, ↓So, ↓Sk, ↓den, ↓denA, Sa, Sb, Sc, Se, O1.d, O2.d, O3.d, cmI, arI, envOf, putN, ↓reduceIte, Nat.reduceLT, Nat.reduceSub, Nat.reduceAdd, Int.reduceAdd, Int.reduceEq, Int.reduceLT, Int.reduceLE, arr_pos, arr_neg, ]
   refine D_pick1 _ _ _ hb (by omega) (by omega) fun d d0 d1 => ?_; simp (contextual := true) (maxSteps := 1000000) (disch := omega) only [↓Sd, ↓So, ↓Sk, ↓den, ↓denA, Sa, Sb, Sc, Se, O1.d, O2.d, O3.d, cmI, arI, envOf, putN, ↓reduceIte, Nat.reduceLT, Nat.reduceSub, Nat.reduceAdd, Int.reduceAdd, Int.reduceEq, Int.reduceLT, Int.reduceLE, arr_pos, arr_neg, ]
   simp (contextual := true) (maxSteps := 1000000) (disch := omega) only [↓Sd, ↓So, ↓Sk, ↓den, ↓denA, Sa, Sb, Sc, Se, O1.d, O2.d, O3.d, cmI, arI, envOf, putN, ↓reduceIte, Nat.reduceLT, Nat.reduceSub, Nat.reduceAdd, Int.reduceAdd, Int.reduceEq, Int.reduceLT, Int.reduceLE, arr_pos, arr_neg, ↓wpJoin, ]
   exact ⟨_, _, _, ⟨rfl, rfl, rfl⟩, by simp only [List.length_append, List.length_singleton]; omega, by omega, by omega⟩
  ·rintro us ⟨p2, m, l, rfl, a1, a2, a3⟩
   simp (contextual := true) (maxSteps := 1000000) (disch := omega) only [↓Sd, ↓So, ↓Sk, ↓den, ↓denA, Sa, Sb, Sc, Se, O1.d, O2.d, O3.d, cmI, arI, envOf, putN, ↓reduceIte, Nat.reduceLT, Nat.reduceSub, Nat.reduceAdd, Int.reduceAdd, Int.reduceEq, Int.reduceLT, Int.reduceLE, arr_pos, arr_neg, ]
   exact ⟨k, by omega, p2, m, l, ⟨rfl, rfl, rfl, rfl⟩, a1, a2, a3⟩
theorem D_l2Any (b : List Int) (p most : Int) (hb : Rdy b) (hp : 0 ≤ p ∧ p ≤ 400000000) {Q : List AV → Prop} (h : ∀ (s : Sy) (p' : Int), p ≤ p' ∧ p' ≤ p + 31000 → SmSy s → Q [⟨L V3, s.1⟩, ⟨L TR, s.2⟩, ⟨RD, (b, p')⟩]) : mc.C f_spec_l2Any [⟨RD, (b, p)⟩, ⟨I, most⟩] Q := by
 refine mc.c_of F_spec_l2Any ?_
 simp (contextual := true) (maxSteps := 1000000) (disch := omega) only [↓Sd, ↓So, ↓Sk, ↓den, ↓denA, Sa, Sb, Sc, Se, O1.d, O2.d, O3.d, cmI, arI, envOf, putN, ↓reduceIte, Nat.reduceLT, Nat.reduceSub, Nat.reduceAdd, Int.reduceAdd, Int.reduceEq, Int.reduceLT, Int.reduceLE, arr_pos, arr_neg, tr_spec_l2Any]
 refine D_l2System _ _ _ hb (by omega) fun s p1 hp1 hs h1 h2 h5 => ?_
 simp (contextual := true) (maxSteps := 1000000) (disch := omega) only [↓Sd, ↓So, ↓Sk, ↓den, ↓denA, Sa, Sb, Sc, Se, O1.d, O2.d, O3.d, cmI, arI, envOf, putN, ↓reduceIte, Nat.reduceLT, Nat.reduceSub, Nat.reduceAdd, Int.reduceAdd, Int.reduceEq, Int.reduceLT, Int.reduceLE, arr_pos, arr_neg, ↓wpJoin, C_spec_l2Const]
 refine D_pick1 _ _ _ hb (by omega) (by omega) fun a a0 a1 => ?_; simp (contextual := true) (maxSteps := 1000000) (disch := omega) only [↓Sd, ↓So, ↓Sk, ↓den, ↓denA, Sa, Sb, Sc, Se, O1.d, O2.d, O3.d, cmI, arI, envOf, putN, ↓reduceIte, Nat.reduceLT, Nat.reduceSub, Nat.reduceAdd, Int.reduceAdd, Int.reduceEq, Int.reduceLT, Int.reduceLE, arr_pos, arr_neg, ]
 refine ⟨fun _ => ?_, fun _ => h _ _ (by omega) hs⟩
 have hV : ∀ (l : List Vr) (p' : Int), l.length ≤ 3 → p ≤ p' ∧ p' ≤ p + 31000 → Q [⟨L V3, l⟩, ⟨L TR, s.2⟩, ⟨RD, (b, p')⟩] := fun l p' hl hp' => h (l, s.2) p' hp' ⟨hl, hs.2.1, hs.2.2⟩
 have hR : ∀ (r : Ru) (p' : Int), SmRu r → p ≤ p' ∧ p' ≤ p + 31000 → Q [⟨L V3, s.1⟩, ⟨L TR, s.2.set 0 r⟩, ⟨RD, (b, p')⟩] := fun r p' hr hp' => h (s.1, s.2.set 0 r) p' hp' ⟨hs.1, by rw [List.length_set]; exact hs.2.1, fun x hx => (List.mem_or_eq_of_mem_set hx).elim (hs.2.2 x) fun e => by rw [e]; exact hr⟩
 have hS1 : (s.1.set 0 (s.1.getD 0 (0, 0, 0))).length ≤ 3 := by rw [List.length_set]; exact hs.1
 have hsl : ∀ x : Vr, (s.1.set 0 x).length ≤ 3 := fun x => by rw [List.length_set]; exact hs.1
 have hb0 : SmR5 (s.2.getD 0 ([], [], [])) := by
  by_cases g : 0 < s.2.length
  ·exact h5 _ (getD_mem g)
  ·rw [List.getD_eq_getElem?_getD, List.getElem?_eq_none (by omega)]; exact ⟨by simp, by simp, by simp, by simp⟩
 refine D_pick1 _ _ _ hb (by omega) (by omega) fun c c0 c1 => ?_; simp (contextual := true) (maxSteps := 1000000) (disch := omega) only [↓Sd, ↓So, ↓Sk, ↓den, ↓denA, Sa, Sb, Sc, Se, O1.d, O2.d, O3.d, cmI, arI, envOf, putN, ↓reduceIte, Nat.reduceLT, Nat.reduceSub, Nat.reduceAdd, Int.reduceAdd, Int.reduceEq, Int.reduceLT, Int.reduceLE, arr_pos, arr_neg, ]
 have q1 := hb0.2.1
 have q2 := hb0.2.2.1
 simp (contextual := true) (maxSteps := 1000000) (disch := omega) only [↓Sd, ↓So, ↓Sk, ↓den, ↓denA, Sa, Sb, Sc, Se, O1.d, O2.d, O3.d, cmI, arI, envOf, putN, ↓reduceIte, Nat.reduceLT, Nat.reduceSub, Nat.reduceAdd, Int.reduceAdd, Int.reduceEq, Int.reduceLT, Int.reduceLE, arr_pos, arr_neg, ↓wpJoin, C_spec_l2Const]
 repeat' first | apply And.intro | intro _
 all_goals first
  | exact hV _ _ (hsl _) (by omega)
  | exact hV _ _ (by simp) (by omega)
  | exact hV _ _ hs.1 (by omega)
  | exact hR _ _ ⟨by simp, hb0.sm.2.1, hb0.sm.2.2.1, hb0.sm.2.2.2⟩ (by omega)
  | exact hR _ _ ⟨hb0.sm.1, by simp only [List.length_append, List.length_singleton]; omega, hb0.sm.2.2.1, hb0.sm.2.2.2⟩ (by omega)
  | exact hR _ _ ⟨hb0.sm.1, hb0.sm.2.1, by simp only [List.length_append, List.length_singleton]; omega, fun x hx => (List.mem_append.1 hx).elim (hb0.sm.2.2.2 x) fun hx => by rw [List.mem_singleton.1 hx]; simp⟩ (by omega)
  | skip
 refine D_num _ _ _ hb (by omega) (by simp) (by simp) fun x x0 => ?_; simp (contextual := true) (maxSteps := 1000000) (disch := omega) only [↓Sd, ↓So, ↓Sk, ↓den, ↓denA, Sa, Sb, Sc, Se, O1.d, O2.d, O3.d, cmI, arI, envOf, putN, ↓reduceIte, Nat.reduceLT, Nat.reduceSub, Nat.reduceAdd, Int.reduceAdd, Int.reduceEq, Int.reduceLT, Int.reduceLE, arr_pos, arr_neg, ]
 simp (contextual := true) (maxSteps := 1000000) (disch := omega) only [↓Sd, ↓So, ↓Sk, ↓den, ↓denA, Sa, Sb, Sc, Se, O1.d, O2.d, O3.d, cmI, arI, envOf, putN, ↓reduceIte, Nat.reduceLT, Nat.reduceSub, Nat.reduceAdd, Int.reduceAdd, Int.reduceEq, Int.reduceLT, Int.reduceLE, arr_pos, arr_neg, ↓wpJoin, ]
 exact hV _ _ (hsl _) (by omega)
theorem C_laws_wcInts (a b : List Int) (ha : a.length ≤ 1048576) (hb : b.length ≤ 1048576) (Q : List AV → Prop) : mc.C f_laws_wcInts [⟨L I, a⟩, ⟨L I, b⟩] Q = Q [⟨B, decide (a = b)⟩] := by
 refine Mc.Ends.c (mc.ends F_laws_wcInts ?_)
 generalize hK : decide (a = b) = K
 simp (contextual := true) (maxSteps := 1000000) (disch := omega) only [↓Sd, ↓So, ↓Sk, ↓den, ↓denA, Sa, Sb, Sc, Se, O1.d, O2.d, O3.d, cmI, arI, envOf, putN, ↓reduceIte, Nat.reduceLT, Nat.reduceSub, Nat.reduceAdd, Int.reduceAdd, Int.reduceEq, Int.reduceLT, Int.reduceLE, arr_pos, arr_neg, tr_laws_wcInts]
 refine ⟨fun g => ?_, fun g => ?_⟩
 ·rw [← hK, decide_eq_false]; intro h; rw [h] at g; exact absurd rfl g
 ·have hl : a.length = b.length := by omega
  refine lp_all (fun i => [⟨L I, b⟩, ⟨L I, a⟩, ⟨I, (a.length : Int)⟩, ⟨I, (i : Int)⟩]) (fun i => a.getD i 0 = b.getD i 0) a.length _ ?_ ?_ ?_
  ·rw [hl]; rfl
  ·intro i hi
   simp (contextual := true) (maxSteps := 1000000) (disch := omega) only [↓Sd, ↓So, ↓Sk, ↓den, ↓denA, Sa, Sb, Sc, Se, O1.d, O2.d, O3.d, cmI, arI, envOf, putN, ↓reduceIte, Nat.reduceLT, Nat.reduceSub, Nat.reduceAdd, Int.reduceAdd, Int.reduceEq, Int.reduceLT, Int.reduceLE, arr_pos, arr_neg, ]
   intro h
   rw [← hK, decide_eq_false]
   intro h2; rw [h2] at h; exact h rfl
  ·intro h
   simp (contextual := true) (maxSteps := 1000000) (disch := omega) only [↓Sd, ↓So, ↓Sk, ↓den, ↓denA, Sa, Sb, Sc, Se, O1.d, O2.d, O3.d, cmI, arI, envOf, putN, ↓reduceIte, Nat.reduceLT, Nat.reduceSub, Nat.reduceAdd, Int.reduceAdd, Int.reduceEq, Int.reduceLT, Int.reduceLE, arr_pos, arr_neg, ]
   rw [← hK, decide_eq_true]
   refine List.ext_getElem hl fun i h1 h2 => ?_
   have := h i h1
   rwa [getD_lt h1, getD_lt h2] at this
theorem C_laws_wcHas (l : List Int) (x : Int) (hl : l.length ≤ 1048576) (Q : List AV → Prop) : mc.C f_laws_wcHas [⟨L I, l⟩, ⟨I, x⟩] Q = Q [⟨B, dB (x ∈ l)⟩] := by
 refine Mc.Ends.c (mc.ends F_laws_wcHas ?_)
 generalize hK : dB (x ∈ l) = K
 simp (contextual := true) (maxSteps := 1000000) (disch := omega) only [↓Sd, ↓So, ↓Sk, ↓den, ↓denA, Sa, Sb, Sc, Se, O1.d, O2.d, O3.d, cmI, arI, envOf, putN, ↓reduceIte, Nat.reduceLT, Nat.reduceSub, Nat.reduceAdd, Int.reduceAdd, Int.reduceEq, Int.reduceLT, Int.reduceLE, arr_pos, arr_neg, tr_laws_wcHas]
 refine lp_all (fun i => [⟨I, x⟩, ⟨L I, l⟩, ⟨I, (l.length : Int)⟩, ⟨I, (i : Int)⟩]) (fun i => ¬ l.getD i 0 = x) l.length _ rfl ?_ ?_
 ·intro i hi
  simp (contextual := true) (maxSteps := 1000000) (disch := omega) only [↓Sd, ↓So, ↓Sk, ↓den, ↓denA, Sa, Sb, Sc, Se, O1.d, O2.d, O3.d, cmI, arI, envOf, putN, ↓reduceIte, Nat.reduceLT, Nat.reduceSub, Nat.reduceAdd, Int.reduceAdd, Int.reduceEq, Int.reduceLT, Int.reduceLE, arr_pos, arr_neg, ]
  intro g
  rw [← hK, dB_t]
  rw [← g]; exact getD_mem hi
 ·intro h
  simp (contextual := true) (maxSteps := 1000000) (disch := omega) only [↓Sd, ↓So, ↓Sk, ↓den, ↓denA, Sa, Sb, Sc, Se, O1.d, O2.d, O3.d, cmI, arI, envOf, putN, ↓reduceIte, Nat.reduceLT, Nat.reduceSub, Nat.reduceAdd, Int.reduceAdd, Int.reduceEq, Int.reduceLT, Int.reduceLE, arr_pos, arr_neg, ]
  rw [← hK, dB_f]
  intro hx
  exact all_get (d := 0) (p := fun y => ¬ y = x) h x hx rfl
def hw1 (s : Sy) (l : List Tm) (X : List Int) (x : Int) : Prop := holdsN s l x.toNat = true → ∀ y ∈ (steps s).getD x.toNat [], y ∈ X → holdsN s l y.toNat = true
def hw (s : Sy) (l : List Tm) (X : List Int) : Prop := ∀ x ∈ X, hw1 s l X x
def fst1 (p : Nat → Bool) : Nat → Int
 | 0 => -1
 | n + 1 => if 0 ≤ fst1 p n then fst1 p n else if p n = true then (n : Int) else -1
def rbt (s : Sy) (a b : List Int) : Int := fst1 (fun r => decide (useM s.1 (s.2.getD r ([], [], [])) a ≠ [] ∧ useM s.1 (s.2.getD r ([], [], [])) a = b)) s.2.length
def IsPrd (T : List (List Int)) (f : Nat → Int) (n k a : Nat) : Prop := a < n ∧ f a + 1 = f k ∧ (k : Int) ∈ T.getD a [] ∧ ∀ b, b < a → ¬ (f b + 1 = f k ∧ (k : Int) ∈ T.getD b [])
def Chain (T : List (List Int)) (f : Nat → Int) (n k D : Nat) (ch : Nat → Nat) : Prop := ch D = k ∧ (∀ e, e < D → IsPrd T f n (ch (e + 1)) (ch e)) ∧ ∀ e, e ≤ D → ch e < n ∧ f (ch e) = e
theorem Chain.few {T : List (List Int)} {f : Nat → Int} {n k D : Nat} {ch : Nat → Nat} (h : Chain T f n k D ch) : D < n := by
 have key : ∀ e, e ≤ D → e < (upTo (fun k => decide (0 ≤ f k ∧ f k ≤ (e : Int))) n).length := by
  intro e
  induction e with
  | zero =>
   intro _
   have h1 := h.2.2 0 (by omega)
   exact upTo_pos.2 ⟨ch 0, h1.1, decide_eq_true (by omega)⟩
  | succ e ih =>
   intro he
   have h1 := ih (by omega)
   have h2 := h.2.2 (e + 1) he
   have h3 := upTo_mono (p := fun k => decide (0 ≤ f k ∧ f k ≤ (e : Int))) (q := fun k => decide (0 ≤ f k ∧ f k ≤ ((e + 1 : Nat) : Int))) (n := n) fun k _ hk => decide_eq_true (by have := of_decide_eq_true hk; omega)
   by_cases g : (upTo (fun k => decide (0 ≤ f k ∧ f k ≤ ((e + 1 : Nat) : Int))) n).length ≤ (upTo (fun k => decide (0 ≤ f k ∧ f k ≤ (e : Int))) n).length
   ·have h4 := h3.2 g (ch (e + 1)) h2.1 (decide_eq_true (by omega))
    have h5 := of_decide_eq_true h4
    omega
   ·omega
 have h1 := key D (Nat.le_refl _)
 have h2 := @upTo_len (fun k => decide (0 ≤ f k ∧ f k ≤ (D : Int))) n
 omega
structure IsRun (s : Sy) (D : Nat) (f : Nat → List Int) : Prop where
 few : D < 500
 first : f 0 = fst0 s.1
 inr : ∀ e, e ≤ D → inR s.1 (f e)
 rule : ∀ e, e < D → 0 ≤ rbt s (f e) (f (e + 1))
def rules (s : Sy) (f : Nat → List Int) (D : Nat) : List Int := tab (fun e => rbt s (f e) (f (e + 1))) D
theorem IsRun.len {s : Sy} {D : Nat} {f : Nat → List Int} (hv : valid s) (h : IsRun s D f) {e : Nat} (he : e ≤ D) : (f e).length ≤ 1048576 := by
 have := (h.inr e he).1
 have := hv.1.2
 omega
def SmSS (l : List (List Int)) : Prop := l.length ≤ 4000 ∧ ∀ x ∈ l, x.length ≤ 4000
theorem SmSS.few {l : List (List Int)} (h : SmSS l) : l.length ≤ 1048576 ∧ ∀ x ∈ l, x.length ≤ 1048576 := ⟨by have := h.1; omega, fun x hx => by have := h.2 x hx; omega⟩
def usb (s : Sy) (st : List Int) : List Int := upTo (fun k => decide (¬ useM s.1 (s.2.getD k ([], [], [])) st = [])) s.2.length
theorem C_impl_usableIn (s : Sy) (a : List Int) (h : valid s) (ha : inR s.1 a) (Q : List AV → Prop) : mc.C f_impl_usableIn [⟨L V3, s.1⟩, ⟨L TR, s.2⟩, ⟨L I, a⟩] Q = Q [⟨L I, usb s a⟩] := by
 refine Mc.Ends.c (mc.ends F_impl_usableIn ?_)
 simp (contextual := true) (maxSteps := 1000000) (disch := omega) only [↓Sd, ↓So, ↓Sk, ↓den, ↓denA, Sa, Sb, Sc, Se, O1.d, O2.d, O3.d, cmI, arI, envOf, putN, ↓reduceIte, Nat.reduceLT, Nat.reduceSub, Nat.reduceAdd, Int.reduceAdd, Int.reduceEq, Int.reduceLT, Int.reduceLE, arr_pos, arr_neg, tr_impl_usableIn]
 refine mc.lp_for (List Int) (fun i o => [⟨L I, a⟩, ⟨I, (s.2.length : Int)⟩, ⟨I, (i : Int)⟩, ⟨L V3, s.1⟩, ⟨L TR, s.2⟩, ⟨L I, o⟩]) (fun i o => o = upTo (fun k => decide (¬ useM s.1 (s.2.getD k ([], [], [])) a = [])) i) s.2.length 0 [] _ rfl (Nat.zero_le _) rfl ?_ ?_
 ·rintro i o hi rfl
  have h1 := @upTo_len (fun k => decide (¬ useM s.1 (s.2.getD k ([], [], [])) a = [])) i
  have h8 := h.2.1
  simp (contextual := true) (maxSteps := 1000000) (disch := omega) only [↓Sd, ↓So, ↓Sk, ↓den, ↓denA, Sa, Sb, Sc, Se, O1.d, O2.d, O3.d, cmI, arI, envOf, putN, ↓reduceIte, Nat.reduceLT, Nat.reduceSub, Nat.reduceAdd, Int.reduceAdd, Int.reduceEq, Int.reduceLT, Int.reduceLE, arr_pos, arr_neg, ↓wpJoin, C_impl_use s a i h ha hi]
  exact ⟨fun g => (upTo_s (p := fun k => decide (¬ useM s.1 (s.2.getD k ([], [], [])) a = [])) (decide_eq_true g)).symm, fun g => (upTo_n (p := fun k => decide (¬ useM s.1 (s.2.getD k ([], [], [])) a = [])) (by simpa using g)).symm⟩
 ·rintro o rfl
  have h1 := @upTo_len (fun k => decide (¬ useM s.1 (s.2.getD k ([], [], [])) a = [])) s.2.length
  have h8 := h.2.1
  simp (contextual := true) (maxSteps := 1000000) (disch := omega) only [↓Sd, ↓So, ↓Sk, ↓den, ↓denA, Sa, Sb, Sc, Se, O1.d, O2.d, O3.d, cmI, arI, envOf, putN, ↓reduceIte, Nat.reduceLT, Nat.reduceSub, Nat.reduceAdd, Int.reduceAdd, Int.reduceEq, Int.reduceLT, Int.reduceLE, arr_pos, arr_neg, C_impl_clone_int (upTo (fun k => decide (¬ useM s.1 (s.2.getD k ([], [], [])) a = [])) s.2.length) (by omega)]
  rfl
theorem C_slices_Contains_int (l : List Int) (x : Int) (hl : l.length ≤ 1048576) (Q : List AV → Prop) : mc.C f_slices_Contains_Sint_int [⟨L I, l⟩, ⟨I, x⟩] Q = Q [⟨B, dB (x ∈ l)⟩] := by
 have hI : ∀ {Q : List AV → Prop}, (∀ j : Int, (0 ≤ j ↔ x ∈ l) → Q [⟨I, j⟩]) → mc.C f_slices_Index_Sint_int [⟨L I, l⟩, ⟨I, x⟩] Q := by
  intro Q hQ
  refine mc.c_of F_slices_Index_Sint_int ?_
  simp (contextual := true) (maxSteps := 1000000) (disch := omega) only [↓Sd, ↓So, ↓Sk, ↓den, ↓denA, Sa, Sb, Sc, Se, O1.d, O2.d, O3.d, cmI, arI, envOf, putN, ↓reduceIte, Nat.reduceLT, Nat.reduceSub, Nat.reduceAdd, Int.reduceAdd, Int.reduceEq, Int.reduceLT, Int.reduceLE, arr_pos, arr_neg, tr_slices_Index_Sint_int]
  refine lp_all (fun i => [⟨L I, l⟩, ⟨I, x⟩, ⟨I, (l.length : Int)⟩, ⟨I, (i : Int)⟩]) (fun i => ¬ x = l.getD i 0) l.length _ rfl ?_ ?_
  ·intro i hi
   simp (contextual := true) (maxSteps := 1000000) (disch := omega) only [↓Sd, ↓So, ↓Sk, ↓den, ↓denA, Sa, Sb, Sc, Se, O1.d, O2.d, O3.d, cmI, arI, envOf, putN, ↓reduceIte, Nat.reduceLT, Nat.reduceSub, Nat.reduceAdd, Int.reduceAdd, Int.reduceEq, Int.reduceLT, Int.reduceLE, arr_pos, arr_neg, ]
   intro h
   refine hQ _ ⟨fun _ => ?_, fun _ => by omega⟩
   rw [h]; exact getD_mem hi
  ·intro h
   simp (contextual := true) (maxSteps := 1000000) (disch := omega) only [↓Sd, ↓So, ↓Sk, ↓den, ↓denA, Sa, Sb, Sc, Se, O1.d, O2.d, O3.d, cmI, arI, envOf, putN, ↓reduceIte, Nat.reduceLT, Nat.reduceSub, Nat.reduceAdd, Int.reduceAdd, Int.reduceEq, Int.reduceLT, Int.reduceLE, arr_pos, arr_neg, ]
   refine hQ _ ⟨fun h => by omega, fun hx => ?_⟩
   obtain ⟨i, hi, rfl⟩ := List.getElem_of_mem hx
   exact absurd (getD_lt hi).symm (h i hi)
 refine Mc.Ends.c (mc.ends F_slices_Contains_Sint_int ?_)
 simp (contextual := true) (maxSteps := 1000000) (disch := omega) only [↓Sd, ↓So, ↓Sk, ↓den, ↓denA, Sa, Sb, Sc, Se, O1.d, O2.d, O3.d, cmI, arI, envOf, putN, ↓reduceIte, Nat.reduceLT, Nat.reduceSub, Nat.reduceAdd, Int.reduceAdd, Int.reduceEq, Int.reduceLT, Int.reduceLE, arr_pos, arr_neg, tr_slices_Contains_Sint_int]
 refine hI fun j hj => ?_
 simp (contextual := true) (maxSteps := 1000000) (disch := omega) only [↓Sd, ↓So, ↓Sk, ↓den, ↓denA, Sa, Sb, Sc, Se, O1.d, O2.d, O3.d, cmI, arI, envOf, putN, ↓reduceIte, Nat.reduceLT, Nat.reduceSub, Nat.reduceAdd, Int.reduceAdd, Int.reduceEq, Int.reduceLT, Int.reduceLE, arr_pos, arr_neg, ]
 rw [← dB_eq]
 exact dB_congr hj
def tAt (l : List Tm) (i : Nat) : Tm := l.getD i (0, 0, 0, 0)
structure TmsOk (l : List Tm) (vars : Int) : Prop where
 vb : 0 ≤ vars ∧ vars ≤ 5
 len : 1 ≤ l.length ∧ l.length ≤ 40
 at' : ∀ i, i < l.length → (tAt l i).1 = 0 ∨ ((tAt l i).1 = 1 ∧ 0 ≤ (tAt l i).2.1 ∧ (tAt l i).2.1 < vars) ∨ (2 ≤ (tAt l i).1 ∧ (0 ≤ (tAt l i).2.2.1 ∧ (tAt l i).2.2.1 < i) ∧ 0 ≤ (tAt l i).2.2.2 ∧ (tAt l i).2.2.2 < i)
theorem kds_at {vars : Int} : ∀ {l : List Tm} {ks o : List Int}, kds vars l ks = some o → ∀ i, i < l.length → ∃ ks', ks'.length = ks.length + i ∧ kd (tAt l i) ks' vars ≠ 0
 | [], ks, o, _, i, hi => absurd hi (Nat.not_lt_zero _)
 | t :: l, ks, o, h, i, hi => by
  simp only [kds] at h
  split at h
  ·cases h
  ·rename_i h0
   cases i with
   | zero => exact ⟨ks, rfl, h0⟩
   | succ i =>
    obtain ⟨ks', h1, h2⟩ := kds_at h i (by simpa using hi)
    exact ⟨ks', by rw [h1]; simp only [List.length_append, List.length_cons, List.length_nil]; omega, h2⟩
theorem tms_ok {l : List Tm} {vars : Int} (h : kf l vars ≠ 0) : TmsOk l vars := by
 obtain ⟨o, h1, h2, -⟩ := kf_some h
 refine ⟨?_, h2, fun i hi => ?_⟩
 ·unfold kf kdsOf at h
  split at h
  ·rename_i h3; exact h3.1
  ·exact absurd rfl h
 ·obtain ⟨ks, h3, h4⟩ := kds_at h1 i hi
  simp only [List.length_nil, Nat.zero_add] at h3
  rcases kd_ne h4 with h5 | h5 | h5
  ·exact .inl h5.1
  ·exact .inr (.inl h5)
  ·rw [h3] at h5; exact .inr (.inr ⟨h5.1.1, h5.2.1, h5.2.2.1⟩)
inductive Nd (l : List Tm) : Nat → Prop
 | top : Nd l (l.length - 1)
 | arg {m j : Nat} : Nd l m → m < l.length → 2 ≤ (tAt l m).1 → (j = (tAt l m).2.2.1.toNat ∨ j = (tAt l m).2.2.2.toNat) → Nd l j
def NdI (l : List Tm) (i : Nat) (p : Nat → Bool) : Prop := ∀ j, j < l.length → (p j = true ↔ (j = l.length - 1 ∨ ∃ m, i ≤ m ∧ m < l.length ∧ Nd l m ∧ 2 ≤ (tAt l m).1 ∧ (j = (tAt l m).2.2.1.toNat ∨ j = (tAt l m).2.2.2.toNat)))
theorem NdI.at' {l : List Tm} {vars : Int} (ho : TmsOk l vars) {m : Nat} {p : Nat → Bool} (h : NdI l (m + 1) p) (hm : m < l.length) : p m = true ↔ Nd l m := by
 rw [h m hm]
 constructor
 ·rintro (h1 | ⟨a, h1, h2, h3, h4, h5⟩)
  ·rw [h1]; exact .top
  ·exact .arg h3 h2 h4 h5
 ·intro h1
  cases h1 with
  | top => exact .inl rfl
  | @arg a _ h2 h3 h4 h5 =>
   refine .inr ⟨a, ?_, h3, h2, h4, h5⟩
   rcases ho.at' a h3 with h6 | h6 | h6
   ·omega
   ·omega
   ·omega
theorem NdI.step {l : List Tm} {vars : Int} (ho : TmsOk l vars) {m : Nat} {p : Nat → Bool} (h : NdI l (m + 1) p) (hm : m < l.length) (hp : p m = true) (h2 : 2 ≤ (tAt l m).1) {q : Nat → Bool} (hq : ∀ j, q j = true ↔ (j = (tAt l m).2.2.2.toNat ∨ j = (tAt l m).2.2.1.toNat ∨ p j = true)) : NdI l m q := by
 intro j hj
 rw [hq, h j hj]
 have hN := (h.at' ho hm).1 hp
 constructor
 ·rintro (h1 | h1 | h1 | ⟨a, h1, h3⟩)
  ·exact .inr ⟨m, Nat.le_refl _, hm, hN, h2, .inr h1⟩
  ·exact .inr ⟨m, Nat.le_refl _, hm, hN, h2, .inl h1⟩
  ·exact .inl h1
  ·exact .inr ⟨a, by omega, h3⟩
 ·rintro (h1 | ⟨a, h1, h3, h4, h5, h6⟩)
  ·exact .inr (.inr (.inl h1))
  ·by_cases e : a = m
   ·subst e
    rcases h6 with h6 | h6
    ·exact .inr (.inl h6)
    ·exact .inl h6
   ·exact .inr (.inr (.inr ⟨a, by omega, h3, h4, h5, h6⟩))
theorem NdI.skip {l : List Tm} {vars : Int} (ho : TmsOk l vars) {m : Nat} {p : Nat → Bool} (h : NdI l (m + 1) p) (hm : m < l.length) (hp : p m = false ∨ (tAt l m).1 < 2) : NdI l m p := by
 intro j hj
 rw [h j hj]
 constructor
 ·rintro (h1 | ⟨a, h1, h3⟩)
  ·exact .inl h1
  ·exact .inr ⟨a, by omega, h3⟩
 ·rintro (h1 | ⟨a, h1, h3, h4, h5, h6⟩)
  ·exact .inl h1
  ·by_cases e : a = m
   ·subst e
    rcases hp with hp | hp
    ·have := (h.at' ho hm).2 h4
     rw [this] at hp; cases hp
    ·omega
   ·exact .inr ⟨a, by omega, h3, h4, h5, h6⟩
theorem NdI.end' {l : List Tm} {vars : Int} (ho : TmsOk l vars) {p : Nat → Bool} (h : NdI l 0 p) {j : Nat} (hj : j < l.length) : p j = true ↔ Nd l j := by
 rw [h j hj]
 constructor
 ·rintro (h1 | ⟨a, h1, h2, h3, h4, h5⟩)
  ·rw [h1]; exact .top
  ·exact .arg h3 h2 h4 h5
 ·intro h1
  cases h1 with
  | top => exact .inl rfl
  | @arg a _ h2 h3 h4 h5 => exact .inr ⟨a, Nat.zero_le _, h3, h2, h4, h5⟩
theorem NdI.start {l : List Tm} : NdI l l.length (fun j => decide (j = l.length - 1)) := by
 intro j hj
 simp only [decide_eq_true_eq]
 constructor
 ·intro h; exact .inl h
 ·rintro (h | ⟨a, h1, h2, _⟩)
  ·exact h
  ·omega
def Us (l : List Tm) (x : Int) : Prop := ∃ i, i < l.length ∧ Nd l i ∧ (tAt l i).1 = 1 ∧ (tAt l i).2.1 = x
noncomputable def usL (l : List Tm) (vars : Nat) : List Int := upTo (fun k => dB (Us l k)) vars
def UsI (l : List Tm) (i : Nat) (u : Nat → Bool) : Prop := ∀ x : Nat, u x = true ↔ ∃ m, i ≤ m ∧ m < l.length ∧ Nd l m ∧ (tAt l m).1 = 1 ∧ (tAt l m).2.1 = x
theorem C_impl_usedBy (l : List Tm) (vars : Nat) (ho : TmsOk l vars) (Q : List AV → Prop) : mc.C f_impl_usedBy [⟨L T4, l⟩, ⟨I, (vars : Int)⟩] Q = Q [⟨L I, usL l vars⟩] := by
 refine Mc.Ends.c (mc.ends F_impl_usedBy ?_)
 have hl := ho.len
 have hv := ho.vb
 have hr1 : (List.replicate l.length false).set (l.length - 1) true = tab (fun j => decide (j = l.length - 1)) l.length := by
  rw [rep_tab, tab_set']
  refine tab_congr fun k hk => ?_
  by_cases e : k = l.length - 1 <;> simp [e]
 have hr2 : List.replicate vars false = tab (fun _ => false) vars := rep_tab
 simp (contextual := true) (maxSteps := 1000000) (disch := omega) only [↓Sd, ↓So, ↓Sk, ↓den, ↓denA, Sa, Sb, Sc, Se, O1.d, O2.d, O3.d, cmI, arI, envOf, putN, ↓reduceIte, Nat.reduceLT, Nat.reduceSub, Nat.reduceAdd, Int.reduceAdd, Int.reduceEq, Int.reduceLT, Int.reduceLE, arr_pos, arr_neg, tr_impl_usedBy, List.length_replicate, hr1, hr2]
 refine mc.lp_down ((Nat → Bool) × (Nat → Bool)) (fun i p => [⟨L T4, l⟩, ⟨I, (i : Int) - 1⟩, ⟨L B, tab p.1 l.length⟩, ⟨L B, tab p.2 vars⟩]) (fun i p => i ≤ l.length ∧ NdI l i p.1 ∧ UsI l i p.2) l.length (_, _) _ rfl ⟨Nat.le_refl _, NdI.start, fun x => ⟨fun h => by simp at h, fun ⟨m, h1, h2, _⟩ => by omega⟩⟩ ?_ ?_
 ·rintro i ⟨p, u⟩ ⟨h1, h2, h3⟩
  simp only at h2 h3
  have hi : i < l.length := by omega
  obtain ⟨t, ht⟩ : ∃ t, l.getD i (0, 0, 0, 0) = t := ⟨_, rfl⟩
  have hat := ho.at' i hi
  have htt : tAt l i = t := ht
  rw [htt] at hat
  have hsk : (p i = false ∨ t.1 < 2) → ¬ (p i = true ∧ t.1 = 1) → i ≤ l.length ∧ NdI l i p ∧ UsI l i u := fun g1 g2 => by
   refine ⟨by omega, h2.skip ho hi (by rw [htt]; exact g1), fun x => (h3 x).trans ⟨fun ⟨m, a1, a2⟩ => ⟨m, by omega, a2⟩, fun ⟨m, a1, a2, a3, a4, a5⟩ => ?_⟩⟩
   by_cases e : m = i
   ·subst e
    rw [htt] at a4
    exact absurd ⟨(h2.at' ho hi).2 a3, a4⟩ g2
   ·exact ⟨m, by omega, a2, a3, a4, a5⟩
  simp (contextual := true) (maxSteps := 1000000) (disch := omega) only [↓Sd, ↓So, ↓Sk, ↓den, ↓denA, Sa, Sb, Sc, Se, O1.d, O2.d, O3.d, cmI, arI, envOf, putN, ↓reduceIte, Nat.reduceLT, Nat.reduceSub, Nat.reduceAdd, Int.reduceAdd, Int.reduceEq, Int.reduceLT, Int.reduceLE, arr_pos, arr_neg, ↓wpJoin, ht, tab_len, tab_get hi]
  refine ⟨fun g => ⟨(p, u), ⟨rfl, rfl⟩, hsk (.inl g) (by rw [g]; simp)⟩, fun g => ⟨fun g0 => ⟨(p, u), ⟨rfl, rfl⟩, hsk (.inr (by omega)) (by omega)⟩, fun g0 => ⟨fun g1 => ?_, fun g1 => ?_⟩⟩⟩
  ·have hn : 0 ≤ t.2.1 ∧ t.2.1 < vars := by
    rcases hat with h5 | h5 | h5
    ·omega
    ·exact h5.2
    ·omega
   have hp : p i = true := by simpa using g
   refine ⟨(p, fun k => if k = t.2.1.toNat then true else u k), ⟨rfl, tab_set'⟩, by omega, h2.skip ho hi (.inr (by rw [htt]; omega)), fun x => ?_⟩
   show (if x = t.2.1.toNat then true else u x) = true ↔ _
   constructor
   ·intro g3
    by_cases e : x = t.2.1.toNat
    ·exact ⟨i, Nat.le_refl _, hi, (h2.at' ho hi).1 hp, by rw [htt]; exact g1, by rw [htt]; omega⟩
    ·rw [if_neg e] at g3
     obtain ⟨m, a1, a2⟩ := (h3 x).1 g3
     exact ⟨m, by omega, a2⟩
   ·rintro ⟨m, a1, a2, a3, a4, a5⟩
    by_cases e : m = i
    ·subst e
     rw [htt] at a5
     rw [if_pos (by omega)]
    ·split
     ·rfl
     ·exact (h3 x).2 ⟨m, by omega, a2, a3, a4, a5⟩
  ·have ha : 2 ≤ t.1 ∧ (0 ≤ t.2.2.1 ∧ t.2.2.1 < i) ∧ 0 ≤ t.2.2.2 ∧ t.2.2.2 < i := by
    rcases hat with h5 | h5 | h5
    ·omega
    ·omega
    ·exact h5
   have hp : p i = true := by simpa using g
   refine ⟨by rw [List.length_set, tab_len]; omega, ?_⟩
   refine ⟨(fun k => if k = t.2.2.2.toNat then true else if k = t.2.2.1.toNat then true else p k, u), ⟨by rw [tab_set', tab_set'], rfl⟩, by omega, h2.step ho hi hp (by rw [htt]; exact ha.1) (fun j => ?_), fun x => (h3 x).trans ⟨fun ⟨m, a1, a2⟩ => ⟨m, by omega, a2⟩, fun ⟨m, a1, a2, a3, a4, a5⟩ => ?_⟩⟩
   ·show (if j = t.2.2.2.toNat then true else if j = t.2.2.1.toNat then true else p j) = true ↔ _
    rw [htt]
    by_cases e1 : j = t.2.2.2.toNat
    ·simp [e1]
    ·by_cases e2 : j = t.2.2.1.toNat
     ·simp [e2]
     ·simp [e1, e2]
   ·by_cases e : m = i
    ·subst e
     rw [htt] at a4; omega
    ·exact ⟨m, by omega, a2, a3, a4, a5⟩
 ·rintro ⟨p, u⟩ ⟨h1, h2, h3⟩
  simp only at h2 h3
  have hu : ∀ k, u k = dB (Us l k) := fun k => by
   rw [← Bool.eq_iff_iff.2 (show u k = true ↔ dB (Us l k) = true from ?_)]
   rw [h3 k, dB_iff]
   exact ⟨fun ⟨m, a1, a2⟩ => ⟨m, a2⟩, fun ⟨m, a2⟩ => ⟨m, Nat.zero_le _, a2⟩⟩
  have hul := @upTo_len (fun k => dB (Us l k)) vars
  simp (contextual := true) (maxSteps := 1000000) (disch := omega) only [↓Sd, ↓So, ↓Sk, ↓den, ↓denA, Sa, Sb, Sc, Se, O1.d, O2.d, O3.d, cmI, arI, envOf, putN, ↓reduceIte, Nat.reduceLT, Nat.reduceSub, Nat.reduceAdd, Int.reduceAdd, Int.reduceEq, Int.reduceLT, Int.reduceLE, arr_pos, arr_neg, tab_len]
  refine mc.lp_for (List Int) (fun i o => [⟨I, (vars : Int)⟩, ⟨I, (i : Int)⟩, ⟨L I, o⟩, ⟨L B, tab u vars⟩]) (fun i o => o = upTo (fun k => dB (Us l k)) i) vars 0 [] _ rfl (Nat.zero_le _) rfl ?_ ?_
  ·rintro i o hi rfl
   have h1 := @upTo_len (fun k => dB (Us l k)) i
   simp (contextual := true) (maxSteps := 1000000) (disch := omega) only [↓Sd, ↓So, ↓Sk, ↓den, ↓denA, Sa, Sb, Sc, Se, O1.d, O2.d, O3.d, cmI, arI, envOf, putN, ↓reduceIte, Nat.reduceLT, Nat.reduceSub, Nat.reduceAdd, Int.reduceAdd, Int.reduceEq, Int.reduceLT, Int.reduceLE, arr_pos, arr_neg, ↓wpJoin, tab_len, tab_get hi, hu]
   exact ⟨fun g => (upTo_s (p := fun k => dB (Us l k)) g).symm, fun g => (upTo_n (p := fun k => dB (Us l k)) g).symm⟩
  ·rintro o rfl
   simp (contextual := true) (maxSteps := 1000000) (disch := omega) only [↓Sd, ↓So, ↓Sk, ↓den, ↓denA, Sa, Sb, Sc, Se, O1.d, O2.d, O3.d, cmI, arI, envOf, putN, ↓reduceIte, Nat.reduceLT, Nat.reduceSub, Nat.reduceAdd, Int.reduceAdd, Int.reduceEq, Int.reduceLT, Int.reduceLE, arr_pos, arr_neg, C_impl_clone_int (upTo (fun k => dB (Us l k)) vars) (by omega)]
   rfl
theorem C_spec_l1Needed (l : List Tm) (vars : Int) (ho : TmsOk l vars) {Q : List AV → Prop} (hQ : ∀ p : Nat → Bool, (∀ j, j < l.length → (p j = true ↔ Nd l j)) → Q [⟨L B, tab p l.length⟩]) : mc.C f_spec_l1Needed [⟨L T4, l⟩] Q := by
 refine mc.c_of F_spec_l1Needed ?_
 have hl := ho.len
 simp (contextual := true) (maxSteps := 1000000) (disch := omega) only [↓Sd, ↓So, ↓Sk, ↓den, ↓denA, Sa, Sb, Sc, Se, O1.d, O2.d, O3.d, cmI, arI, envOf, putN, ↓reduceIte, Nat.reduceLT, Nat.reduceSub, Nat.reduceAdd, Int.reduceAdd, Int.reduceEq, Int.reduceLT, Int.reduceLE, arr_pos, arr_neg, tr_spec_l1Needed]
 refine mc.lp_for (List Bool) (fun i o => [⟨L T4, l⟩, ⟨I, (i : Int)⟩, ⟨L B, o⟩]) (fun i o => o = tab (fun j => decide (j = l.length - 1)) i) l.length 0 [] _ rfl (Nat.zero_le _) rfl ?_ ?_
 ·rintro i o hi rfl
  simp (contextual := true) (maxSteps := 1000000) (disch := omega) only [↓Sd, ↓So, ↓Sk, ↓den, ↓denA, Sa, Sb, Sc, Se, O1.d, O2.d, O3.d, cmI, arI, envOf, putN, ↓reduceIte, Nat.reduceLT, Nat.reduceSub, Nat.reduceAdd, Int.reduceAdd, Int.reduceEq, Int.reduceLT, Int.reduceLE, arr_pos, arr_neg, tab_len]
  rw [← tab_next]
  congr 2
  by_cases e : i = l.length - 1
  ·rw [decide_eq_true e, beq_iff_eq]; omega
  ·rw [decide_eq_false e, beq_eq_false_iff_ne]; omega
 rintro o rfl
 simp (contextual := true) (maxSteps := 1000000) (disch := omega) only [↓Sd, ↓So, ↓Sk, ↓den, ↓denA, Sa, Sb, Sc, Se, O1.d, O2.d, O3.d, cmI, arI, envOf, putN, ↓reduceIte, Nat.reduceLT, Nat.reduceSub, Nat.reduceAdd, Int.reduceAdd, Int.reduceEq, Int.reduceLT, Int.reduceLE, arr_pos, arr_neg, ]
 refine mc.lp_down (Nat → Bool) (fun i p => [⟨L T4, l⟩, ⟨I, (i : Int) - 1⟩, ⟨L B, tab p l.length⟩]) (fun i p => i ≤ l.length ∧ NdI l i p) l.length _ _ rfl ⟨Nat.le_refl _, NdI.start⟩ ?_ ?_
 ·rintro i p ⟨h1, h2⟩
  have hi : i < l.length := by omega
  obtain ⟨t, ht⟩ : ∃ t, l.getD i (0, 0, 0, 0) = t := ⟨_, rfl⟩
  have hat := ho.at' i hi
  have htt : tAt l i = t := ht
  rw [htt] at hat
  simp (contextual := true) (maxSteps := 1000000) (disch := omega) only [↓Sd, ↓So, ↓Sk, ↓den, ↓denA, Sa, Sb, Sc, Se, O1.d, O2.d, O3.d, cmI, arI, envOf, putN, ↓reduceIte, Nat.reduceLT, Nat.reduceSub, Nat.reduceAdd, Int.reduceAdd, Int.reduceEq, Int.reduceLT, Int.reduceLE, arr_pos, arr_neg, ↓wpJoin, ht, tab_len, tab_get hi]
  refine ⟨fun hp => ⟨fun g1 => ⟨?_, fun k => if k = t.2.2.2.toNat then true else if k = t.2.2.1.toNat then true else p k, by rw [tab_set', tab_set'], by omega, h2.step ho hi hp (by rw [htt]; exact g1) (fun j => ?_)⟩, fun g1 => ⟨p, rfl, by omega, h2.skip ho hi (.inr (by rw [htt]; omega))⟩⟩, fun g => ⟨p, rfl, by omega, h2.skip ho hi (.inl (by simpa using g))⟩⟩
  ·rw [List.length_set, tab_len]; omega
  ·show (if j = t.2.2.2.toNat then true else if j = t.2.2.1.toNat then true else p j) = true ↔ _
   rw [htt]
   by_cases e1 : j = t.2.2.2.toNat
   ·simp [e1]
   ·by_cases e2 : j = t.2.2.1.toNat
    ·simp [e2]
    ·simp [e1, e2]
 ·rintro p ⟨h1, h2⟩
  simp (contextual := true) (maxSteps := 1000000) (disch := omega) only [↓Sd, ↓So, ↓Sk, ↓den, ↓denA, Sa, Sb, Sc, Se, O1.d, O2.d, O3.d, cmI, arI, envOf, putN, ↓reduceIte, Nat.reduceLT, Nat.reduceSub, Nat.reduceAdd, Int.reduceAdd, Int.reduceEq, Int.reduceLT, Int.reduceLE, arr_pos, arr_neg, ]
  exact hQ p fun j hj => h2.end' ho hj
theorem C_spec_UsedBy (l : List Tm) (vars : Nat) (hf : Few l) (hk : kf l vars ≠ 0) (Q : List AV → Prop) : mc.C f_spec_UsedBy [⟨L T4, l⟩, ⟨I, (vars : Int)⟩] Q = Q [⟨L I, usL l vars⟩] := by
 refine Mc.Ends.c (mc.ends F_spec_UsedBy ?_)
 have ho := tms_ok hk
 have hl := ho.len
 have hv := ho.vb
 have hul := @upTo_len (fun k => dB (Us l k)) vars
 simp (contextual := true) (maxSteps := 1000000) (disch := omega) only [↓Sd, ↓So, ↓Sk, ↓den, ↓denA, Sa, Sb, Sc, Se, O1.d, O2.d, O3.d, cmI, arI, envOf, putN, ↓reduceIte, Nat.reduceLT, Nat.reduceSub, Nat.reduceAdd, Int.reduceAdd, Int.reduceEq, Int.reduceLT, Int.reduceLE, arr_pos, arr_neg, tr_spec_UsedBy, C_spec_TermsValid l vars hf]
 refine ⟨fun g => absurd (kf_nil (by omega)) hk, fun _ => ?_⟩
 refine C_spec_l1Needed l vars ho fun p hp => ?_
 simp (contextual := true) (maxSteps := 1000000) (disch := omega) only [↓Sd, ↓So, ↓Sk, ↓den, ↓denA, Sa, Sb, Sc, Se, O1.d, O2.d, O3.d, cmI, arI, envOf, putN, ↓reduceIte, Nat.reduceLT, Nat.reduceSub, Nat.reduceAdd, Int.reduceAdd, Int.reduceEq, Int.reduceLT, Int.reduceLE, arr_pos, arr_neg, ]
 refine mc.lp_for (List Int) (fun x o => [⟨L T4, l⟩, ⟨I, (vars : Int)⟩, ⟨I, (x : Int)⟩, ⟨L I, o⟩, ⟨L B, tab p l.length⟩]) (fun x o => o = upTo (fun k => dB (Us l k)) x) vars 0 [] _ rfl (Nat.zero_le _) rfl ?_ ?_
 ·rintro x o hx rfl
  have h1 := @upTo_len (fun k => dB (Us l k)) x
  simp (contextual := true) (maxSteps := 1000000) (disch := omega) only [↓Sd, ↓So, ↓Sk, ↓den, ↓denA, Sa, Sb, Sc, Se, O1.d, O2.d, O3.d, cmI, arI, envOf, putN, ↓reduceIte, Nat.reduceLT, Nat.reduceSub, Nat.reduceAdd, Int.reduceAdd, Int.reduceEq, Int.reduceLT, Int.reduceLE, arr_pos, arr_neg, ↓wpJoin, ]
  refine mc.lp_for Bool (fun i b => [⟨L T4, l⟩, ⟨I, (vars : Int)⟩, ⟨I, (x : Int)⟩, ⟨B, b⟩, ⟨I, (i : Int)⟩, ⟨L I, upTo (fun k => dB (Us l k)) x⟩, ⟨L B, tab p l.length⟩]) (fun i b => b = dB (∃ m, m < i ∧ Nd l m ∧ (tAt l m).1 = 1 ∧ (tAt l m).2.1 = x)) l.length 0 false _ rfl (Nat.zero_le _) (dB_f fun ⟨m, h, _⟩ => absurd h (Nat.not_lt_zero _)).symm ?_ ?_
  ·rintro i b hi rfl
   obtain ⟨t, ht⟩ : ∃ t, l.getD i (0, 0, 0, 0) = t := ⟨_, rfl⟩
   have htt : tAt l i = t := ht
   have hpi := hp i hi
   have hno : ¬ (Nd l i ∧ t.1 = 1 ∧ t.2.1 = x) → dB (∃ m, m < i ∧ Nd l m ∧ (tAt l m).1 = 1 ∧ (tAt l m).2.1 = x) = dB (∃ m, m < i + 1 ∧ Nd l m ∧ (tAt l m).1 = 1 ∧ (tAt l m).2.1 = x) := fun g => dB_congr ⟨fun ⟨m, a1, a2⟩ => ⟨m, by omega, a2⟩, fun ⟨m, a1, a2⟩ => by
    by_cases e : m = i
    ·subst e; rw [htt] at a2; exact absurd a2 g
    ·exact ⟨m, by omega, a2⟩⟩
   simp (contextual := true) (maxSteps := 1000000) (disch := omega) only [↓Sd, ↓So, ↓Sk, ↓den, ↓denA, Sa, Sb, Sc, Se, O1.d, O2.d, O3.d, cmI, arI, envOf, putN, ↓reduceIte, Nat.reduceLT, Nat.reduceSub, Nat.reduceAdd, Int.reduceAdd, Int.reduceEq, Int.reduceLT, Int.reduceLE, arr_pos, arr_neg, ↓wpJoin, ht, tab_len, tab_get hi]
   refine ⟨fun g => ?_, fun g => ⟨fun g1 => ⟨fun g2 => ?_, fun g2 => ?_⟩, fun g1 => ?_⟩⟩
   ·symm
    rw [dB_t]
    obtain ⟨m, a1, a2⟩ := dB_iff.1 g
    exact ⟨m, by omega, a2⟩
   ·by_cases e : t.2.1 = x
    ·rw [dB_t ⟨i, by omega, hpi.1 g1, by rw [htt]; exact g2, by rw [htt]; exact e⟩]
     simpa using e
    ·rw [← hno fun h => e h.2.2, dB_f fun h => g (dB_t h)]
     simpa using e
   ·rw [← hno fun h => g2 h.2.1]
    exact (dB_f fun h => g (dB_t h)).symm
   ·rw [← hno fun h => g1 (hpi.2 h.1)]
    exact (dB_f fun h => g (dB_t h)).symm
  ·rintro b rfl
   have e : dB (∃ m, m < l.length ∧ Nd l m ∧ (tAt l m).1 = 1 ∧ (tAt l m).2.1 = x) = dB (Us l x) := rfl
   rw [e]
   simp (contextual := true) (maxSteps := 1000000) (disch := omega) only [↓Sd, ↓So, ↓Sk, ↓den, ↓denA, Sa, Sb, Sc, Se, O1.d, O2.d, O3.d, cmI, arI, envOf, putN, ↓reduceIte, Nat.reduceLT, Nat.reduceSub, Nat.reduceAdd, Int.reduceAdd, Int.reduceEq, Int.reduceLT, Int.reduceLE, arr_pos, arr_neg, ]
   exact ⟨fun g => (upTo_s (p := fun k => dB (Us l k)) g).symm, fun g => (upTo_n (p := fun k => dB (Us l k)) g).symm⟩
 ·rintro o rfl
  simp (contextual := true) (maxSteps := 1000000) (disch := omega) only [↓Sd, ↓So, ↓Sk, ↓den, ↓denA, Sa, Sb, Sc, Se, O1.d, O2.d, O3.d, cmI, arI, envOf, putN, ↓reduceIte, Nat.reduceLT, Nat.reduceSub, Nat.reduceAdd, Int.reduceAdd, Int.reduceEq, Int.reduceLT, Int.reduceLE, arr_pos, arr_neg, ]
  rfl
theorem insZ_mem {x y : Int} : ∀ {l : List Int}, y ∈ insZ x l ↔ y = x ∨ y ∈ l
 | [] => by simp [insZ]
 | z :: l => by
  unfold insZ
  split
  ·simp
  ·simp only [List.mem_cons, insZ_mem (l := l)]
   constructor
   ·rintro (h | h | h)
    ·exact .inr (.inl h)
    ·exact .inl h
    ·exact .inr (.inr h)
   ·rintro (h | h | h)
    ·exact .inr (.inl h)
    ·exact .inl h
    ·exact .inr (.inr h)
theorem srtZ_mem {y : Int} : ∀ {l : List Int}, y ∈ srtZ l ↔ y ∈ l
 | [] => Iff.rfl
 | x :: l => by rw [srtZ, insZ_mem, srtZ_mem (l := l), List.mem_cons]
theorem insZ_len {x : Int} : ∀ {l : List Int}, (insZ x l).length = l.length + 1
 | [] => rfl
 | z :: l => by
  unfold insZ
  split
  ·rfl
  ·simp only [List.length_cons, insZ_len (l := l)]
theorem srtZ_len : ∀ {l : List Int}, (srtZ l).length = l.length
 | [] => rfl
 | x :: l => by rw [srtZ, insZ_len, srtZ_len (l := l), List.length_cons]
theorem cptZ_mem {y : Int} : ∀ {l : List Int}, y ∈ cptZ l ↔ y ∈ l
 | [] => Iff.rfl
 | [x] => Iff.rfl
 | x :: z :: l => by
  have ih := cptZ_mem (y := y) (l := z :: l)
  show y ∈ (if x = z then cptZ (z :: l) else x :: cptZ (z :: l)) ↔ _
  split
  ·rename_i h
   rw [ih, h]; simp
  ·rw [List.mem_cons, ih, List.mem_cons (a := y) (b := x)]
theorem cptZ_len : ∀ {l : List Int}, (cptZ l).length ≤ l.length
 | [] => Nat.le_refl _
 | [x] => Nat.le_refl _
 | x :: z :: l => by
  have ih := cptZ_len (l := z :: l)
  show (if x = z then cptZ (z :: l) else x :: cptZ (z :: l)).length ≤ _
  split <;> simp only [List.length_cons] at ih ⊢ <;> omega
def rl (s : Sy) (i : Nat) : Ru := s.2.getD i ([], [], [])
theorem rl_ok {s : Sy} (h : valid s) {i : Nat} (hi : i < s.2.length) : rOk (rl s i) s.1.length := h.2.2.2.1 _ (getD_mem hi)
noncomputable def tcA (n : Nat) (r : Ru) (k : Nat) : List Int := usL r.1 n ++ ((r.2.2.take k).map fun t => usL t n).flatten
theorem tcA_next {n k : Nat} {r : Ru} (h : k < r.2.2.length) : tcA n r (k + 1) = tcA n r k ++ usL (r.2.2.getD k []) n := by
 unfold tcA
 rw [List.take_succ_eq_append_getElem h, List.map_append, List.flatten_append, getD_lt h, List.append_assoc]
 simp
theorem usL_len {l : List Tm} {n : Nat} : (usL l n).length ≤ n := upTo_len
theorem tcA_len {n k : Nat} {r : Ru} (h : k ≤ r.2.2.length) : (tcA n r k).length ≤ n * (k + 1) := by
 induction k with
 | zero => simpa [tcA] using usL_len
 | succ k ih =>
  rw [tcA_next (by omega), List.length_append]
  have := @usL_len (r.2.2.getD k []) n
  have := ih (by omega)
  rw [Nat.mul_add n (k + 1) 1]; omega
noncomputable def tcL (n : Nat) (r : Ru) : List Int := cptZ (srtZ (tcA n r r.2.2.length))
noncomputable def tcS (n : Nat) (r : Ru) : List Int := upTo (fun x => dB ((x : Int) ∈ usL r.1 n ∨ ∃ m, m < r.2.2.length ∧ (x : Int) ∈ usL (r.2.2.getD m []) n)) n
theorem tcL_mem {n : Nat} {r : Ru} {x : Int} : x ∈ tcL n r ↔ (x ∈ usL r.1 n ∨ ∃ m, m < r.2.2.length ∧ x ∈ usL (r.2.2.getD m []) n) := by
 rw [tcL, cptZ_mem, srtZ_mem, tcA, List.take_length, List.mem_append, List.mem_flatten]
 refine or_congr Iff.rfl ⟨fun ⟨l, h1, h2⟩ => ?_, fun ⟨m, h1, h2⟩ => ?_⟩
 ·obtain ⟨t, h3, rfl⟩ := List.mem_map.1 h1
  obtain ⟨m, hm, rfl⟩ := List.getElem_of_mem h3
  exact ⟨m, hm, by rw [getD_lt hm]; exact h2⟩
 ·exact ⟨_, List.mem_map.2 ⟨_, getD_mem h1, rfl⟩, h2⟩
theorem tcS_mem {n : Nat} {r : Ru} {x : Int} : x ∈ tcS n r ↔ x ∈ tcL n r := by
 rw [tcL_mem, tcS, upTo_mem]
 constructor
 ·rintro ⟨k, h1, rfl, h2⟩; exact dB_iff.1 h2
 ·intro h
  have hb : 0 ≤ x ∧ x < n := by
   rcases h with h | ⟨m, _, h⟩
   ·obtain ⟨k, h1, rfl, _⟩ := upTo_mem.1 h; omega
   ·obtain ⟨k, h1, rfl, _⟩ := upTo_mem.1 h; omega
  have e : ((x.toNat : Nat) : Int) = x := by omega
  exact ⟨x.toNat, by omega, e.symm, dB_t (by rw [e]; exact h)⟩
theorem tcL_len {n : Nat} {r : Ru} (hn : n ≤ 5) (hr : r.2.2.length ≤ 5) : (tcL n r).length ≤ 30 := by
 have h1 := @cptZ_len (srtZ (tcA n r r.2.2.length))
 rw [srtZ_len] at h1
 have h2 := tcA_len (n := n) (r := r) (Nat.le_refl _)
 have h3 : n * (r.2.2.length + 1) ≤ 5 * 6 := Nat.mul_le_mul hn (by omega)
 unfold tcL
 omega
theorem rl_terms {s : Sy} (h : valid s) {i : Nat} (hi : i < s.2.length) : (rl s i).2.1.length = (rl s i).2.2.length ∧ (rl s i).2.2.length ≤ 5 ∧ kf (rl s i).1 s.1.length ≠ 0 ∧ ∀ m, m < (rl s i).2.2.length → kf ((rl s i).2.2.getD m []) s.1.length ≠ 0 := by
 have hr := rl_ok h hi
 have h5 := h.1
 have h1 := rOk_few hr.2.2
 refine ⟨hr.2.1, ?_, by rw [hr.1]; omega, fun m hm => ?_⟩
 ·rw [← hr.2.1]; omega
 ·rw [(hr.2.2 m (by rw [hr.2.1]; exact hm)).2.2]; omega
theorem C_impl_touchedBy (s : Sy) (i : Nat) (h : valid s) (hi : i < s.2.length) (Q : List AV → Prop) : mc.C f_impl_touchedBy [⟨L V3, s.1⟩, ⟨L TR, s.2⟩, ⟨I, (i : Int)⟩] Q = Q [⟨L I, tcL s.1.length (rl s i)⟩] := by
 refine Mc.Ends.c (mc.ends F_impl_touchedBy ?_)
 obtain ⟨h1, h2, h3, h4⟩ := rl_terms h hi
 have h5 := h.1
 obtain ⟨r, hr⟩ : ∃ r, rl s i = r := ⟨_, rfl⟩
 have hr' : s.2.getD i ([], [], []) = r := hr
 rw [hr] at h1 h2 h3 h4 ⊢
 have hlen := tcL_len (n := s.1.length) (r := r) h5.2 h2
 simp (contextual := true) (maxSteps := 1000000) (disch := omega) only [↓Sd, ↓So, ↓Sk, ↓den, ↓denA, Sa, Sb, Sc, Se, O1.d, O2.d, O3.d, cmI, arI, envOf, putN, ↓reduceIte, Nat.reduceLT, Nat.reduceSub, Nat.reduceAdd, Int.reduceAdd, Int.reduceEq, Int.reduceLT, Int.reduceLE, arr_pos, arr_neg, tr_impl_touchedBy, hr', C_impl_usedBy r.1 s.1.length (tms_ok h3)]
 refine mc.lp_for (List Int) (fun k o => [⟨L (L T4), r.2.2⟩, ⟨I, (r.2.2.length : Int)⟩, ⟨I, (k : Int)⟩, ⟨L V3, s.1⟩, ⟨L TR, s.2⟩, ⟨L I, o⟩]) (fun k o => o = tcA s.1.length r k) r.2.2.length 0 _ _ rfl (Nat.zero_le _) (by simp [tcA]) ?_ ?_
 ·rintro k o hk rfl
  have h6 := tcA_len (n := s.1.length) (r := r) (Nat.le_of_lt hk)
  have h7 : s.1.length * (k + 1) ≤ 5 * 6 := Nat.mul_le_mul h5.2 (by omega)
  have h8 := @usL_len (r.2.2.getD k []) s.1.length
  simp (contextual := true) (maxSteps := 1000000) (disch := omega) only [↓Sd, ↓So, ↓Sk, ↓den, ↓denA, Sa, Sb, Sc, Se, O1.d, O2.d, O3.d, cmI, arI, envOf, putN, ↓reduceIte, Nat.reduceLT, Nat.reduceSub, Nat.reduceAdd, Int.reduceAdd, Int.reduceEq, Int.reduceLT, Int.reduceLE, arr_pos, arr_neg, C_impl_usedBy (r.2.2.getD k []) s.1.length (tms_ok (h4 k hk))]
  exact (tcA_next hk).symm
 ·rintro o rfl
  have h6 := tcA_len (n := s.1.length) (r := r) (Nat.le_refl _)
  have h7 : s.1.length * (r.2.2.length + 1) ≤ 5 * 6 := Nat.mul_le_mul h5.2 (by omega)
  have e0 : ∀ l, hndZ 0 l = srtZ l := fun _ => rfl
  have e1 : hndZ 1 (srtZ (tcA s.1.length r r.2.2.length)) = tcL s.1.length r := rfl
  have e2 : (srtZ (tcA s.1.length r r.2.2.length)).length = (tcA s.1.length r r.2.2.length).length := srtZ_len
  simp (contextual := true) (maxSteps := 1000000) (disch := omega) only [↓Sd, ↓So, ↓Sk, ↓den, ↓denA, Sa, Sb, Sc, Se, O1.d, O2.d, O3.d, cmI, arI, envOf, putN, ↓reduceIte, Nat.reduceLT, Nat.reduceSub, Nat.reduceAdd, Int.reduceAdd, Int.reduceEq, Int.reduceLT, Int.reduceLE, arr_pos, arr_neg, e0, e1, e2, C_impl_clone_int (tcL s.1.length r) (by omega)]
theorem C_impl_meets (a b : List Int) (ha : a.length ≤ 1048576) (hb : b.length ≤ 1048576) (Q : List AV → Prop) : mc.C f_impl_meets [⟨L I, a⟩, ⟨L I, b⟩] Q = Q [⟨B, dB (∃ x ∈ a, x ∈ b)⟩] := by
 refine Mc.Ends.c (mc.ends F_impl_meets ?_)
 generalize hK : dB (∃ x ∈ a, x ∈ b) = K
 simp (contextual := true) (maxSteps := 1000000) (disch := omega) only [↓Sd, ↓So, ↓Sk, ↓den, ↓denA, Sa, Sb, Sc, Se, O1.d, O2.d, O3.d, cmI, arI, envOf, putN, ↓reduceIte, Nat.reduceLT, Nat.reduceSub, Nat.reduceAdd, Int.reduceAdd, Int.reduceEq, Int.reduceLT, Int.reduceLE, arr_pos, arr_neg, tr_impl_meets]
 refine lp_all (fun i => [⟨L I, a⟩, ⟨I, (a.length : Int)⟩, ⟨I, (i : Int)⟩, ⟨L I, b⟩]) (fun i => ¬ a.getD i 0 ∈ b) a.length _ rfl ?_ ?_
 ·intro i hi
  simp (contextual := true) (maxSteps := 1000000) (disch := omega) only [↓Sd, ↓So, ↓Sk, ↓den, ↓denA, Sa, Sb, Sc, Se, O1.d, O2.d, O3.d, cmI, arI, envOf, putN, ↓reduceIte, Nat.reduceLT, Nat.reduceSub, Nat.reduceAdd, Int.reduceAdd, Int.reduceEq, Int.reduceLT, Int.reduceLE, arr_pos, arr_neg, C_slices_Contains_int b (a.getD i 0) hb]
  refine ⟨fun h => ?_, fun h => fun g => h (dB_t g)⟩
  rw [← hK, dB_t ⟨_, getD_mem hi, dB_iff.1 h⟩]
  simp
 ·intro h
  simp (contextual := true) (maxSteps := 1000000) (disch := omega) only [↓Sd, ↓So, ↓Sk, ↓den, ↓denA, Sa, Sb, Sc, Se, O1.d, O2.d, O3.d, cmI, arI, envOf, putN, ↓reduceIte, Nat.reduceLT, Nat.reduceSub, Nat.reduceAdd, Int.reduceAdd, Int.reduceEq, Int.reduceLT, Int.reduceLE, arr_pos, arr_neg, ]
  rw [← hK, dB_f]
  ·rfl
  ·rintro ⟨x, h1, h2⟩
   obtain ⟨i, hi, rfl⟩ := List.getElem_of_mem h1
   exact h i hi (by rw [getD_lt hi]; exact h2)
theorem C_spec_l26Meet (a b : List Int) (ha : a.length ≤ 1048576) (hb : b.length ≤ 1048576) (Q : List AV → Prop) : mc.C f_spec_l26Meet [⟨L I, a⟩, ⟨L I, b⟩] Q = Q [⟨B, dB (∃ x ∈ a, x ∈ b)⟩] := by
 refine Mc.Ends.c (mc.ends F_spec_l26Meet ?_)
 generalize hK : dB (∃ x ∈ a, x ∈ b) = K
 simp (contextual := true) (maxSteps := 1000000) (disch := omega) only [↓Sd, ↓So, ↓Sk, ↓den, ↓denA, Sa, Sb, Sc, Se, O1.d, O2.d, O3.d, cmI, arI, envOf, putN, ↓reduceIte, Nat.reduceLT, Nat.reduceSub, Nat.reduceAdd, Int.reduceAdd, Int.reduceEq, Int.reduceLT, Int.reduceLE, arr_pos, arr_neg, tr_spec_l26Meet]
 refine lp_all (fun i => [⟨L I, a⟩, ⟨L I, b⟩, ⟨I, (i : Int)⟩]) (fun i => ¬ a.getD i 0 ∈ b) a.length _ rfl ?_ ?_
 ·intro i hi
  simp (contextual := true) (maxSteps := 1000000) (disch := omega) only [↓Sd, ↓So, ↓Sk, ↓den, ↓denA, Sa, Sb, Sc, Se, O1.d, O2.d, O3.d, cmI, arI, envOf, putN, ↓reduceIte, Nat.reduceLT, Nat.reduceSub, Nat.reduceAdd, Int.reduceAdd, Int.reduceEq, Int.reduceLT, Int.reduceLE, arr_pos, arr_neg, C_spec_l2Has b (a.getD i 0) hb]
  refine ⟨fun h => ?_, fun h => fun g => h (dB_t g)⟩
  rw [← hK, dB_t ⟨_, getD_mem hi, dB_iff.1 h⟩]
 ·intro h
  simp (contextual := true) (maxSteps := 1000000) (disch := omega) only [↓Sd, ↓So, ↓Sk, ↓den, ↓denA, Sa, Sb, Sc, Se, O1.d, O2.d, O3.d, cmI, arI, envOf, putN, ↓reduceIte, Nat.reduceLT, Nat.reduceSub, Nat.reduceAdd, Int.reduceAdd, Int.reduceEq, Int.reduceLT, Int.reduceLE, arr_pos, arr_neg, ]
  rw [← hK, dB_f]
  rintro ⟨x, h1, h2⟩
  obtain ⟨i, hi, rfl⟩ := List.getElem_of_mem h1
  exact h i hi (by rw [getD_lt hi]; exact h2)
def Mt2 (a b : List Int) : Prop := ∃ x ∈ a, x ∈ b
theorem Mt2.congr {a b c : List Int} (h : ∀ x, x ∈ b ↔ x ∈ c) : Mt2 a b ↔ Mt2 a c := ⟨fun ⟨x, h1, h2⟩ => ⟨x, h1, (h x).1 h2⟩, fun ⟨x, h1, h2⟩ => ⟨x, h1, (h x).2 h2⟩⟩
def Apr (s : Sy) (i j : Nat) : Prop := ¬ Mt2 (rl s i).2.1 (rl s j).2.1 ∧ ¬ Mt2 (rl s i).2.1 (tcL s.1.length (rl s j)) ∧ ¬ Mt2 (rl s j).2.1 (tcL s.1.length (rl s i))
noncomputable def wkB (s : Sy) (i k : Nat) : Bool := dB (k ≠ i ∧ Mt2 (rl s k).2.1 (tcL s.1.length (rl s i)))
noncomputable def wkL (s : Sy) (i : Nat) : List Int := upTo (wkB s i) s.2.length
theorem wkL_len {s : Sy} {i : Nat} (h : valid s) : (wkL s i).length ≤ 8 := by have h1 := h.2.1; have := @upTo_len (wkB s i) s.2.length; unfold wkL; omega
theorem C_impl_rulesApart (s : Sy) (i j : Nat) (h : valid s) (hi : i < s.2.length) (hj : j < s.2.length) (Q : List AV → Prop) : mc.C f_impl_rulesApart [⟨L V3, s.1⟩, ⟨L TR, s.2⟩, ⟨I, (i : Int)⟩, ⟨I, (j : Int)⟩] Q = Q [⟨B, dB (Apr s i j)⟩] := by
 refine Mc.Ends.c (mc.ends F_impl_rulesApart ?_)
 obtain ⟨a1, a2, -, -⟩ := rl_terms h hi
 obtain ⟨b1, b2, -, -⟩ := rl_terms h hj
 have h5 := h.1
 have c1 := tcL_len (n := s.1.length) (r := rl s i) h5.2 a2
 have c2 := tcL_len (n := s.1.length) (r := rl s j) h5.2 b2
 have ei : s.2.getD i ([], [], []) = rl s i := rfl
 have ej : s.2.getD j ([], [], []) = rl s j := rfl
 generalize hK : dB (Apr s i j) = K
 simp (contextual := true) (maxSteps := 1000000) (disch := omega) only [↓Sd, ↓So, ↓Sk, ↓den, ↓denA, Sa, Sb, Sc, Se, O1.d, O2.d, O3.d, cmI, arI, envOf, putN, ↓reduceIte, Nat.reduceLT, Nat.reduceSub, Nat.reduceAdd, Int.reduceAdd, Int.reduceEq, Int.reduceLT, Int.reduceLE, arr_pos, arr_neg, tr_impl_rulesApart, ei, ej, C_impl_meets (rl s i).2.1 (rl s j).2.1 (by omega) (by omega), C_impl_touchedBy s j h hj, C_impl_touchedBy s i h hi, C_impl_meets (rl s i).2.1 (tcL s.1.length (rl s j)) (by omega) (by omega), C_impl_meets (rl s j).2.1 (tcL s.1.length (rl s i)) (by omega) (by omega)]
 refine ⟨fun g1 => ⟨fun g2 => ?_, fun g2 => ?_⟩, fun g1 => ?_⟩
 ·have n1 : ¬ Mt2 (rl s i).2.1 (rl s j).2.1 := fun g => by
   have g' : ∃ x, x ∈ (rl s i).2.1 ∧ x ∈ (rl s j).2.1 := g
   rw [dB_t g'] at g1; cases g1
  have n2 : ¬ Mt2 (rl s i).2.1 (tcL s.1.length (rl s j)) := fun g => by
   have g' : ∃ x, x ∈ (rl s i).2.1 ∧ x ∈ tcL s.1.length (rl s j) := g
   rw [dB_t g'] at g2; cases g2
  by_cases e : Mt2 (rl s j).2.1 (tcL s.1.length (rl s i))
  ·rw [← hK, dB_f (fun g : Apr s i j => g.2.2 e), dB_t (show ∃ x, x ∈ (rl s j).2.1 ∧ x ∈ tcL s.1.length (rl s i) from e)]; rfl
  ·rw [← hK, dB_t (show Apr s i j from ⟨n1, n2, e⟩), dB_f (show ¬ ∃ x, x ∈ (rl s j).2.1 ∧ x ∈ tcL s.1.length (rl s i) from e)]; rfl
 ·rw [← hK, dB_f fun g => g2 (dB_f g.2.1)]
 ·rw [← hK, dB_f fun g => g1 (dB_f g.1)]
theorem C_impl_wakersOf (s : Sy) (i : Nat) (h : valid s) (hi : i < s.2.length) (Q : List AV → Prop) : mc.C f_impl_wakersOf [⟨L V3, s.1⟩, ⟨L TR, s.2⟩, ⟨I, (i : Int)⟩] Q = Q [⟨L I, wkL s i⟩] := by
 refine Mc.Ends.c (mc.ends F_impl_wakersOf ?_)
 obtain ⟨a1, a2, -, -⟩ := rl_terms h hi
 have h5 := h.1
 have h8 := h.2.1
 have c1 := tcL_len (n := s.1.length) (r := rl s i) h5.2 a2
 have hwl := @wkL_len s i h
 simp (contextual := true) (maxSteps := 1000000) (disch := omega) only [↓Sd, ↓So, ↓Sk, ↓den, ↓denA, Sa, Sb, Sc, Se, O1.d, O2.d, O3.d, cmI, arI, envOf, putN, ↓reduceIte, Nat.reduceLT, Nat.reduceSub, Nat.reduceAdd, Int.reduceAdd, Int.reduceEq, Int.reduceLT, Int.reduceLE, arr_pos, arr_neg, tr_impl_wakersOf, C_impl_touchedBy s i h hi]
 refine mc.lp_for (List Int) (fun k o => [⟨I, (i : Int)⟩, ⟨L TR, s.2⟩, ⟨I, (s.2.length : Int)⟩, ⟨I, (k : Int)⟩, ⟨L I, tcL s.1.length (rl s i)⟩, ⟨L I, o⟩]) (fun k o => o = upTo (wkB s i) k) s.2.length 0 [] _ rfl (Nat.zero_le _) rfl ?_ ?_
 ·rintro k o hk rfl
  obtain ⟨b1, b2, -, -⟩ := rl_terms h hk
  have ek : s.2.getD k ([], [], []) = rl s k := rfl
  have hul := @upTo_len (wkB s i) k
  simp (contextual := true) (maxSteps := 1000000) (disch := omega) only [↓Sd, ↓So, ↓Sk, ↓den, ↓denA, Sa, Sb, Sc, Se, O1.d, O2.d, O3.d, cmI, arI, envOf, putN, ↓reduceIte, Nat.reduceLT, Nat.reduceSub, Nat.reduceAdd, Int.reduceAdd, Int.reduceEq, Int.reduceLT, Int.reduceLE, arr_pos, arr_neg, ↓wpJoin, ek, C_impl_meets (rl s k).2.1 (tcL s.1.length (rl s i)) (by omega) (by omega)]
  refine ⟨fun g1 => ⟨fun g2 => (upTo_s (p := wkB s i) (dB_t ⟨by omega, dB_iff.1 g2⟩)).symm, fun g2 => (upTo_n (p := wkB s i) fun g => g2 (dB_t (dB_iff.1 g).2)).symm⟩, fun g1 => (upTo_n (p := wkB s i) fun g => (dB_iff.1 g).1 (by omega)).symm⟩
 ·rintro o rfl
  have e : upTo (wkB s i) s.2.length = wkL s i := rfl
  rw [e]
  simp (contextual := true) (maxSteps := 1000000) (disch := omega) only [↓Sd, ↓So, ↓Sk, ↓den, ↓denA, Sa, Sb, Sc, Se, O1.d, O2.d, O3.d, cmI, arI, envOf, putN, ↓reduceIte, Nat.reduceLT, Nat.reduceSub, Nat.reduceAdd, Int.reduceAdd, Int.reduceEq, Int.reduceLT, Int.reduceLE, arr_pos, arr_neg, C_impl_clone_int (wkL s i) (by omega)]
end Go.Proofs.YthapopegchnhlabGreat
