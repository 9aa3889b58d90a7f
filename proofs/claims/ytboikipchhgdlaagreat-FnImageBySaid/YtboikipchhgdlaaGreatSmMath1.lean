/- What the trees come to: plain mathematics; no condition. -/
import Derived.Test.YtboikipchhgdlaaGreatSmMath0
namespace Go.Proofs.YtboikipchhgdlaaGreat
open Go Go.Sm Go.Sm.Q
set_option linter.unusedSimpArgs false
set_option linter.unusedVariables false
theorem vb_bit {n w : Nat} : ∀ x ∈ vb n w, x = 0 ∨ x = 1 := by
 intro x hx
 simp only [vb, tab, List.mem_map, List.mem_range] at hx
 obtain ⟨i, _, rfl⟩ := hx
 omega
theorem C_spec_l6Value (n w : Nat) (hn : n ≤ 1000) (hw : w ≤ 12) (Q : List AV → Prop) : mc.C f_spec_l6Value [⟨I, (n : Int)⟩, ⟨I, (w : Int)⟩] Q = Q [⟨L I, vb n w⟩] := by
 refine Mc.Ends.c (mc.ends F_spec_l6Value ?_)
 simp (contextual := true) (maxSteps := 1000000) (disch := omega) only [↓Sd, ↓So, ↓Sk, ↓den, ↓denA, Sa, Sb, Sc, Se, O1.d, O2.d, O3.d, cmI, arI, envOf, putN, ↓reduceIte, Nat.reduceLT, Nat.reduceSub, Nat.reduceAdd, Int.reduceAdd, Int.reduceEq, Int.reduceLT, Int.reduceLE, arr_pos, arr_neg, tr_spec_l6Value]
 refine mc.lp_for (List Int) (fun i o => [⟨I, (n : Int)⟩, ⟨I, (w : Int) - 1 - (i : Int)⟩, ⟨L I, o⟩]) (fun i o => o = tab (fun i => ((n / 2 ^ (w - 1 - i) % 2 : Nat) : Int)) i) w 0 [] _ (by simp) (Nat.zero_le _) rfl ?_ ?_
 ·rintro i o hi rfl
  have e : (w : Int) - 1 - (i : Int) = ((w - 1 - i : Nat) : Int) := by omega
  have e2 : (w : Int) - 1 - ((i : Int) + 1) = ((w - 1 - i : Nat) : Int) - 1 := by omega
  simp (contextual := true) (maxSteps := 1000000) (disch := omega) only [↓Sd, ↓So, ↓Sk, ↓den, ↓denA, Sa, Sb, Sc, Se, O1.d, O2.d, O3.d, cmI, arI, envOf, putN, ↓reduceIte, Nat.reduceLT, Nat.reduceSub, Nat.reduceAdd, Int.reduceAdd, Int.reduceEq, Int.reduceLT, Int.reduceLE, arr_pos, arr_neg, e, e2, shr_nat (n := n) (show w - 1 - i ≤ 60 by omega), tab_len]
  exact tab_next
 ·rintro o rfl
  have e : (w : Int) - 1 - (w : Int) = -1 := by omega
  simp (contextual := true) (maxSteps := 1000000) (disch := omega) only [↓Sd, ↓So, ↓Sk, ↓den, ↓denA, Sa, Sb, Sc, Se, O1.d, O2.d, O3.d, cmI, arI, envOf, putN, ↓reduceIte, Nat.reduceLT, Nat.reduceSub, Nat.reduceAdd, Int.reduceAdd, Int.reduceEq, Int.reduceLT, Int.reduceLE, arr_pos, arr_neg, e]
  rfl
def sbN (l : List Vr) (st : List Int) : Nat → List Int
 | 0 => []
 | i + 1 => sbN l st i ++ vb (st.getD i 0 - (l.getD i (0, 0, 0)).1).toNat (bw l i).toNat
def sb (s : Sy) (st : List Int) : List Int := sbN s.1 st s.1.length
theorem bw_bd (l : List Vr) (i : Nat) : 0 ≤ bw l i ∧ bw l i ≤ 5 := bn_bd _
theorem sbN_len {l : List Vr} {st : List Int} : ∀ {i : Nat}, ((sbN l st i).length : Int) = sumN (bw l) i
 | 0 => rfl
 | i + 1 => by
  have h := bw_bd l i
  have ih := @sbN_len l st i
  simp only [sbN, sumN, List.length_append, vb_len]
  omega
theorem sb_len {s : Sy} {st : List Int} : ((sb s st).length : Int) = bc s.1 := sbN_len
theorem bc_bd {s : Sy} (h : valid s) : 0 ≤ bc s.1 ∧ bc s.1 ≤ 25 := by
 have h1 := sumN_bd (f := bw s.1) (bw_bd s.1) s.1.length
 have h2 := h.1.2
 unfold bc
 omega
theorem sbN_bit {l : List Vr} {st : List Int} : ∀ {i : Nat}, ∀ x ∈ sbN l st i, x = 0 ∨ x = 1
 | 0, x, h => by simp [sbN] at h
 | i + 1, x, h => by
  simp only [sbN, List.mem_append] at h
  exact h.elim (sbN_bit x) (vb_bit x)
theorem off_bd {s : Sy} {st : List Int} (h : valid s) (hst : inR s.1 st) {i : Nat} (hi : i < s.1.length) : ∃ m : Nat, st.getD i 0 - (s.1.getD i (0, 0, 0)).1 = m ∧ m < 20 ∧ (-10000 ≤ st.getD i 0 ∧ st.getD i 0 ≤ 10000) ∧ -10000 ≤ (s.1.getD i (0, 0, 0)).1 ∧ (s.1.getD i (0, 0, 0)).1 ≤ 10000 := by
 have h1 := hst.2 i hi
 have h2 := h.2.2.1 _ (getD_mem (d := (0, 0, 0)) hi)
 unfold vOk at h2
 exact ⟨(st.getD i 0 - (s.1.getD i (0, 0, 0)).1).toNat, by omega, by omega, by omega, by omega, by omega⟩
theorem C_spec_l6State (s : Sy) (st : List Int) (h : valid s) (hst : inR s.1 st) (Q : List AV → Prop) : mc.C f_spec_l6State [⟨L V3, s.1⟩, ⟨L TR, s.2⟩, ⟨L I, st⟩] Q = Q [⟨L I, sb s st⟩] := by
 have h5 := h.1.2
 have hl := hst.1
 refine Mc.Ends.c (mc.ends F_spec_l6State ?_)
 simp (contextual := true) (maxSteps := 1000000) (disch := omega) only [↓Sd, ↓So, ↓Sk, ↓den, ↓denA, Sa, Sb, Sc, Se, O1.d, O2.d, O3.d, cmI, arI, envOf, putN, ↓reduceIte, Nat.reduceLT, Nat.reduceSub, Nat.reduceAdd, Int.reduceAdd, Int.reduceEq, Int.reduceLT, Int.reduceLE, arr_pos, arr_neg, tr_spec_l6State, C_spec_l6Widths s h]
 refine mc.lp_for (List Int) (fun i o => [⟨L I, st⟩, ⟨I, (i : Int)⟩, ⟨L V3, s.1⟩, ⟨L TR, s.2⟩, ⟨L I, o⟩, ⟨L I, tab (bw s.1) s.1.length⟩]) (fun i o => o = sbN s.1 st i) s.1.length 0 [] _ rfl (Nat.zero_le _) rfl ?_ ?_
 ·rintro i o hi rfl
  obtain ⟨m, hm, hm2, hm3, hm4⟩ := off_bd h hst hi
  have hb := bw_bd s.1 i
  obtain ⟨w, hw⟩ : ∃ w : Nat, bw s.1 i = w := ⟨(bw s.1 i).toNat, by omega⟩
  have hlen := @sbN_len s.1 st i
  have hsum := sumN_bd (f := bw s.1) (bw_bd s.1) i
  have e : sbN s.1 st (i + 1) = sbN s.1 st i ++ vb m w := by simp only [sbN, hm, hw, Int.toNat_natCast]
  simp (contextual := true) (maxSteps := 1000000) (disch := omega) only [↓Sd, ↓So, ↓Sk, ↓den, ↓denA, Sa, Sb, Sc, Se, O1.d, O2.d, O3.d, cmI, arI, envOf, putN, ↓reduceIte, Nat.reduceLT, Nat.reduceSub, Nat.reduceAdd, Int.reduceAdd, Int.reduceEq, Int.reduceLT, Int.reduceLE, arr_pos, arr_neg, tab_len, tab_get hi, hm, hw, C_spec_l6Value m w (by omega) (by omega)]
  refine mc.lp_for (List Int) (fun j o => [⟨L I, st⟩, ⟨I, (i : Int)⟩, ⟨I, (j : Int)⟩, ⟨L V3, s.1⟩, ⟨L TR, s.2⟩, ⟨L I, o⟩, ⟨L I, tab (bw s.1) s.1.length⟩, ⟨L I, vb m w⟩]) (fun j o => o = sbN s.1 st i ++ (vb m w).take j) w 0 _ _ rfl (Nat.zero_le _) (by simp) ?_ ?_
  ·rintro j o hj rfl
   have hj' : j < (vb m w).length := by rw [vb_len]; exact hj
   have hol : (sbN s.1 st i).length + ((vb m w).take j).length ≤ 1000 := by rw [List.length_take, vb_len]; omega
   simp (contextual := true) (maxSteps := 1000000) (disch := omega) only [↓Sd, ↓So, ↓Sk, ↓den, ↓denA, Sa, Sb, Sc, Se, O1.d, O2.d, O3.d, cmI, arI, envOf, putN, ↓reduceIte, Nat.reduceLT, Nat.reduceSub, Nat.reduceAdd, Int.reduceAdd, Int.reduceEq, Int.reduceLT, Int.reduceLE, arr_pos, arr_neg, vb_len, List.length_append]
   rw [List.append_assoc, take_next hj']
  ·rintro o rfl
   simp (contextual := true) (maxSteps := 1000000) (disch := omega) only [↓Sd, ↓So, ↓Sk, ↓den, ↓denA, Sa, Sb, Sc, Se, O1.d, O2.d, O3.d, cmI, arI, envOf, putN, ↓reduceIte, Nat.reduceLT, Nat.reduceSub, Nat.reduceAdd, Int.reduceAdd, Int.reduceEq, Int.reduceLT, Int.reduceLE, arr_pos, arr_neg, vb_len]
   rw [e, List.take_of_length_le (by rw [vb_len]; exact Nat.le_refl _)]
 ·rintro o rfl
  simp (contextual := true) (maxSteps := 1000000) (disch := omega) only [↓Sd, ↓So, ↓Sk, ↓den, ↓denA, Sa, Sb, Sc, Se, O1.d, O2.d, O3.d, cmI, arI, envOf, putN, ↓reduceIte, Nat.reduceLT, Nat.reduceSub, Nat.reduceAdd, Int.reduceAdd, Int.reduceEq, Int.reduceLT, Int.reduceLE, arr_pos, arr_neg, ]
  rfl
def cHas (c b : List Int) : Prop := ∀ i, i < c.length → c.getD i 0 = 2 ∨ c.getD i 0 = b.getD i 0
noncomputable def inC (s : Sy) (c : List Int) (n : Nat) : Bool := dB (cHas c (sb s (stN s n)))
def blk (s : Sy) (F c : List Int) : Prop := inC s c (num s.1 (fst0 s.1)).toNat = false ∧ ∀ x ∈ F, inC s c x.toNat = false → ∀ y ∈ (steps s).getD x.toNat [], inC s c y.toNat = false
theorem upTo_pos {p : Nat → Bool} {n : Nat} : 0 < (upTo p n).length ↔ ∃ k, k < n ∧ p k = true := by
 constructor
 ·intro h
  obtain ⟨k, h1, _, h3⟩ := upTo_mem.1 (getD_mem (d := 0) h)
  exact ⟨k, h1, h3⟩
 ·rintro ⟨k, h1, h2⟩
  exact List.length_pos_of_mem (upTo_mem.2 ⟨k, h1, rfl, h2⟩)
def Lay (T : List (List Int)) (F : List Int) : Nat → Nat → Prop
 | 0, k => (k : Int) ∈ F
 | d + 1, k => Lay T F d k ∨ ∃ a, Lay T F d a ∧ (k : Int) ∈ T.getD a []
theorem least {P : Nat → Prop} (h : ∃ d, P d) : ∃ d, P d ∧ ∀ e, e < d → ¬ P e := by
 obtain ⟨d, hd⟩ := h
 induction d using Nat.strongRecOn with
 | ind d ih =>
  by_cases g : ∃ e, e < d ∧ P e
  ·obtain ⟨e, h1, h2⟩ := g; exact ih e h1 h2
  ·exact ⟨d, hd, fun e he hp => g ⟨e, he, hp⟩⟩
open Classical in
noncomputable def dst (T : List (List Int)) (F : List Int) (k : Nat) : Int := if h : ∃ d, Lay T F d k then ((Classical.choose (least h) : Nat) : Int) else -1
theorem Lay.up {T : List (List Int)} {F : List Int} {d e k : Nat} (h : Lay T F d k) (he : d ≤ e) : Lay T F e k := by
 induction e with
 | zero => have : d = 0 := by omega
           subst this; exact h
 | succ e ih =>
  by_cases g : d ≤ e
  ·exact .inl (ih g)
  ·have : d = e + 1 := by omega
   subst this; exact h
structure IsDst (T : List (List Int)) (F : List Int) (n : Nat) (f : Nat → Int) : Prop where
 ge : ∀ k, k < n → -1 ≤ f k
 zero : ∀ k, k < n → (f k = 0 ↔ (k : Int) ∈ F)
 pre : ∀ k, k < n → 0 < f k → ∃ a, a < n ∧ f a + 1 = f k ∧ (k : Int) ∈ T.getD a []
 nxt : ∀ a, a < n → 0 ≤ f a → ∀ k : Nat, (k : Int) ∈ T.getD a [] → 0 ≤ f k ∧ f k ≤ f a + 1
theorem IsDst.eq {T : List (List Int)} {F : List Int} {n : Nat} {f : Nat → Int} (ht : Tbl T n) (hF : ∀ x ∈ F, 0 ≤ x ∧ x < n) (h : IsDst T F n f) : ∀ k, k < n → f k = dst T F k := by
 have a1 : ∀ d k, k < n → f k = (d : Nat) → Lay T F d k := by
  intro d
  induction d with
  | zero => intro k hk h1; exact (h.zero k hk).1 h1
  | succ d ih =>
   intro k hk h1
   obtain ⟨a, b1, b2, b3⟩ := h.pre k hk (by omega)
   exact .inr ⟨a, ih a b1 (by omega), b3⟩
 have a2 : ∀ d k, Lay T F d k → k < n ∧ 0 ≤ f k ∧ f k ≤ (d : Nat) := by
  intro d
  induction d with
  | zero => intro k h1; have := hF _ h1; have hk : k < n := by omega
            have := (h.zero k hk).2 h1; exact ⟨hk, by omega, by omega⟩
  | succ d ih =>
   intro k h1
   rcases h1 with h1 | ⟨a, h1, h2⟩
   ·have := ih k h1; exact ⟨this.1, this.2.1, by omega⟩
   ·obtain ⟨b1, b2, b3⟩ := ih a h1
    have := ht.row _ h2
    have := h.nxt a b1 b2 k h2
    exact ⟨by omega, this.1, by omega⟩
 intro k hk
 unfold dst
 by_cases g : ∃ d, Lay T F d k
 ·rw [dif_pos g]
  obtain ⟨b1, b2⟩ := Classical.choose_spec (least g)
  generalize Classical.choose (least g) = d at b1 b2
  obtain ⟨-, c1, c2⟩ := a2 d k b1
  have c3 := a1 (f k).toNat k hk (by omega)
  have : ¬ (f k).toNat < d := fun hh => b2 _ hh c3
  omega
 ·rw [dif_neg g]
  have := h.ge k hk
  by_cases g2 : 0 ≤ f k
  ·exact absurd ⟨_, a1 (f k).toNat k hk (by omega)⟩ g
  ·omega
theorem Rch.trans {T : List (List Int)} {a b c : Nat} (h : Rch T [(a : Int)] b) (h2 : Rch T [(b : Int)] c) : Rch T [(a : Int)] c := by
 induction h2 with
 | base h3 => simp only [List.mem_singleton] at h3; have h3 := Int.ofNat_inj.1 h3; subst h3; exact h
 | step _ h3 ih => exact .step ih h3
def eqv (T : List (List Int)) (i k : Nat) : Prop := Rch T [(i : Int)] k ∧ Rch T [(k : Int)] i
noncomputable def cmp (T : List (List Int)) : Nat → Nat → Int
 | 0, _ => -1
 | i + 1, k => if 0 ≤ cmp T i k then cmp T i k else if dB (eqv T i k) = true then (i : Int) else -1
def IsTop (l : List Int) (M : Int) : Prop := M ∈ l ∧ ∀ x ∈ l, x ≤ M
theorem IsTop.eq {l : List Int} {M N : Int} (h : IsTop l M) (h2 : IsTop l N) : M = N := Int.le_antisymm (h2.2 _ h.1) (h.2 _ h2.1)
abbrev RD : Ty := P (L U) I
def Byt (b : List Int) : Prop := ∀ x ∈ b, 0 ≤ x ∧ x ≤ 255
def Rdy (b : List Int) : Prop := Byt b ∧ b.length ≤ 2000
theorem Byt.get {b : List Int} (h : Byt b) (i : Nat) : 0 ≤ b.getD i 0 ∧ b.getD i 0 ≤ 255 := by
 by_cases hi : i < b.length
 ·exact h _ (getD_mem hi)
 ·rw [List.getD_eq_getElem?_getD, List.getElem?_eq_none (by omega)]; simp
theorem xor_bd {x y : Int} (hx : 0 ≤ x ∧ x < 1099511627776) (hy : 0 ≤ y ∧ y < 1099511627776) : 0 ≤ IntKind.i64.wrap ((BitVec.ofInt IntKind.i64.bits x ^^^ BitVec.ofInt IntKind.i64.bits y).toNat : Int) := by
 have e : ∀ z : Int, 0 ≤ z ∧ z < 1099511627776 → (BitVec.ofInt IntKind.i64.bits z).toNat < 2 ^ 40 := by
  intro z hz
  rw [BitVec.toNat_ofInt]
  show Int.toNat (z % (2 : Int) ^ 64) < 2 ^ 40
  omega
 have h : (BitVec.ofInt IntKind.i64.bits x ^^^ BitVec.ofInt IntKind.i64.bits y).toNat < 2 ^ 40 := by
  rw [BitVec.toNat_xor]
  exact Nat.xor_lt_two_pow (e x hx) (e y hy)
 rw [wrap_id (by omega) (by omega)]
 omega
theorem D_pick (b : List Int) (p n : Int) (hb : Rdy b) (hp : 0 ≤ p ∧ p ≤ 1000000000) {Q : List AV → Prop} (h : ∀ v : Int, 0 ≤ v → (1 ≤ n → v < n) → Q [⟨I, v⟩, ⟨RD, (b, p + 1)⟩]) : mc.C f_spec_l40Rd_pick [⟨RD, (b, p)⟩, ⟨I, n⟩] Q := by
 refine mc.c_of F_spec_l40Rd_pick ?_
 have hl := hb.2
 simp (contextual := true) (maxSteps := 1000000) (disch := omega) only [↓Sd, ↓So, ↓Sk, ↓den, ↓denA, Sa, Sb, Sc, Se, O1.d, O2.d, O3.d, cmI, arI, envOf, putN, ↓reduceIte, Nat.reduceLT, Nat.reduceSub, Nat.reduceAdd, Int.reduceAdd, Int.reduceEq, Int.reduceLT, Int.reduceLE, arr_pos, arr_neg, tr_spec_l40Rd_pick]
 refine ⟨fun g => h 0 (by omega) (by omega), fun g => ⟨fun g2 => h 0 (by omega) (by omega), fun g2 => ?_⟩⟩
 have hn : 1 ≤ n := by omega
 have hlb : 0 < (b.length : Int) := by omega
 refine ⟨fun g3 => ?_, fun g3 => ?_⟩
 ·have h1 := hb.1.get p.toNat
  rw [wrap_id (by omega) (by omega), Int.tmod_eq_emod_of_nonneg h1.1]
  exact h _ (Int.emod_nonneg _ (by omega)) fun _ => Int.emod_lt_of_pos _ (by omega)
 ·have a1 := Int.emod_nonneg p (show (b.length : Int) ≠ 0 by omega)
  have a2 := Int.emod_lt_of_pos p hlb
  have a3 := Int.emod_nonneg (p * 7 + 3) (show (b.length : Int) ≠ 0 by omega)
  have a4 := Int.emod_lt_of_pos (p * 7 + 3) hlb
  have a5 := Int.ediv_nonneg hp.1 (Int.le_of_lt hlb)
  have a6 := Int.ediv_le_self (b.length : Int) hp.1
  have h1 := hb.1.get (p % (b.length : Int)).toNat
  have h2 := hb.1.get ((p * 7 + 3) % (b.length : Int)).toNat
  refine ⟨a1, a2, a3, a4, ?_⟩
  generalize b.getD (p % (b.length : Int)).toNat 0 = x1 at *
  generalize b.getD ((p * 7 + 3) % (b.length : Int)).toNat 0 = x2 at *
  generalize p / (b.length : Int) = x3 at *
  rw [wrap_id (x := x1) (by omega) (by omega), wrap_id (x := x2) (by omega) (by omega), wrap_id (x := x3) (by omega) (by omega), wrap_id (x := x1 * 131) (by omega) (by omega), wrap_id (x := x2 * 1117) (by omega) (by omega), wrap_id (x := x1 * 131 + x2 * 1117) (by omega) (by omega), wrap_id (x := x1 * 131 + x2 * 1117 + p * 29) (by omega) (by omega), wrap_id (x := x3 * 53) (by omega) (by omega), wrap_id (x := x1 * 131 + x2 * 1117 + p * 29 + x3 * 53) (by omega) (by omega)]
  obtain ⟨y, hy⟩ : ∃ y, x1 * 131 + x2 * 1117 + p * 29 + x3 * 53 = y := ⟨_, rfl⟩
  have hyb : 0 ≤ y ∧ y < 1099511627776 := by omega
  rw [hy, Int.tdiv_eq_ediv_of_nonneg hyb.1, wrap_id (x := y / 64) (by omega) (by omega)]
  have h4 := xor_bd hyb (y := y / 64) (by omega)
  rw [Int.tmod_eq_emod_of_nonneg h4]
  exact h _ (Int.emod_nonneg _ (by omega)) fun _ => Int.emod_lt_of_pos _ (by omega)
theorem D_pick1 (b : List Int) (p n : Int) (hb : Rdy b) (hp : 0 ≤ p ∧ p ≤ 1000000000) (hn : 1 ≤ n) {Q : List AV → Prop} (h : ∀ v : Int, 0 ≤ v → v < n → Q [⟨I, v⟩, ⟨RD, (b, p + 1)⟩]) : mc.C f_spec_l40Rd_pick [⟨RD, (b, p)⟩, ⟨I, n⟩] Q := D_pick b p n hb hp fun v h0 h1 => h v h0 (h1 hn)
theorem D_num (b : List Int) (p : Int) (l : List Int) (hb : Rdy b) (hp : 0 ≤ p ∧ p ≤ 1000000000) (hl : l ≠ []) (hl2 : l.length ≤ 1048576) {Q : List AV → Prop} (h : ∀ v : Int, v ∈ l → Q [⟨I, v⟩, ⟨RD, (b, p + 1)⟩]) : mc.C f_spec_l40Rd_num [⟨RD, (b, p)⟩, ⟨L I, l⟩] Q := by
 have hl1 : 0 < l.length := List.length_pos_iff.2 hl
 refine mc.c_of F_spec_l40Rd_num ?_
 simp (contextual := true) (maxSteps := 1000000) (disch := omega) only [↓Sd, ↓So, ↓Sk, ↓den, ↓denA, Sa, Sb, Sc, Se, O1.d, O2.d, O3.d, cmI, arI, envOf, putN, ↓reduceIte, Nat.reduceLT, Nat.reduceSub, Nat.reduceAdd, Int.reduceAdd, Int.reduceEq, Int.reduceLT, Int.reduceLE, arr_pos, arr_neg, tr_spec_l40Rd_num]
 refine D_pick1 b p _ hb hp (by omega) fun v h0 h1 => ?_
 simp (contextual := true) (maxSteps := 1000000) (disch := omega) only [↓Sd, ↓So, ↓Sk, ↓den, ↓denA, Sa, Sb, Sc, Se, O1.d, O2.d, O3.d, cmI, arI, envOf, putN, ↓reduceIte, Nat.reduceLT, Nat.reduceSub, Nat.reduceAdd, Int.reduceAdd, Int.reduceEq, Int.reduceLT, Int.reduceLE, arr_pos, arr_neg, ]
 exact h _ (getD_mem (by omega))
theorem D_open (b : List Int) (hb : Byt b) (hl : Lt63 b) {Q : List AV → Prop} (h : ∀ b', Rdy b' → Q [⟨RD, (b', 0)⟩]) : mc.C f_spec_l40Open [⟨L U, b⟩] Q := by
 unfold Lt63 at hl
 refine mc.c_of F_spec_l40Open ?_
 simp (contextual := true) (maxSteps := 1000000) (disch := omega) only [↓Sd, ↓So, ↓Sk, ↓den, ↓denA, Sa, Sb, Sc, Se, O1.d, O2.d, O3.d, cmI, arI, envOf, putN, ↓reduceIte, Nat.reduceLT, Nat.reduceSub, Nat.reduceAdd, Int.reduceAdd, Int.reduceEq, Int.reduceLT, Int.reduceLE, arr_pos, arr_neg, ↓wpJoin, tr_spec_l40Open]
 refine ⟨fun g => ?_, fun g => h b ⟨hb, by omega⟩⟩
 refine h _ ⟨fun x hx => hb x ?_, ?_⟩
 ·exact List.mem_of_mem_take hx
 ·rw [List.length_take]; omega
theorem D_l1Number (b : List Int) (p : Int) (hb : Rdy b) (hp : 0 ≤ p ∧ p ≤ 900000000) {Q : List AV → Prop} (h : ∀ v p' : Int, p ≤ p' ∧ p' ≤ p + 6 → Q [⟨I, v⟩, ⟨RD, (b, p')⟩]) : mc.C f_spec_l1Number [⟨RD, (b, p)⟩] Q := by
 refine mc.c_of F_spec_l1Number ?_
 simp (contextual := true) (maxSteps := 1000000) (disch := omega) only [↓Sd, ↓So, ↓Sk, ↓den, ↓denA, Sa, Sb, Sc, Se, O1.d, O2.d, O3.d, cmI, arI, envOf, putN, ↓reduceIte, Nat.reduceLT, Nat.reduceSub, Nat.reduceAdd, Int.reduceAdd, Int.reduceEq, Int.reduceLT, Int.reduceLE, arr_pos, arr_neg, tr_spec_l1Number]
 refine D_pick1 _ _ _ hb (by omega) (by omega) fun v1 v10 v11 => ?_; simp (contextual := true) (maxSteps := 1000000) (disch := omega) only [↓Sd, ↓So, ↓Sk, ↓den, ↓denA, Sa, Sb, Sc, Se, O1.d, O2.d, O3.d, cmI, arI, envOf, putN, ↓reduceIte, Nat.reduceLT, Nat.reduceSub, Nat.reduceAdd, Int.reduceAdd, Int.reduceEq, Int.reduceLT, Int.reduceLE, arr_pos, arr_neg, ]
 refine D_pick1 _ _ _ hb (by omega) (by omega) fun v2 v20 v21 => ?_; simp (contextual := true) (maxSteps := 1000000) (disch := omega) only [↓Sd, ↓So, ↓Sk, ↓den, ↓denA, Sa, Sb, Sc, Se, O1.d, O2.d, O3.d, cmI, arI, envOf, putN, ↓reduceIte, Nat.reduceLT, Nat.reduceSub, Nat.reduceAdd, Int.reduceAdd, Int.reduceEq, Int.reduceLT, Int.reduceLE, arr_pos, arr_neg, ]
 refine D_pick1 _ _ _ hb (by omega) (by omega) fun v3 v30 v31 => ?_; simp (contextual := true) (maxSteps := 1000000) (disch := omega) only [↓Sd, ↓So, ↓Sk, ↓den, ↓denA, Sa, Sb, Sc, Se, O1.d, O2.d, O3.d, cmI, arI, envOf, putN, ↓reduceIte, Nat.reduceLT, Nat.reduceSub, Nat.reduceAdd, Int.reduceAdd, Int.reduceEq, Int.reduceLT, Int.reduceLE, arr_pos, arr_neg, ]
 refine D_pick1 _ _ _ hb (by omega) (by omega) fun v4 v40 v41 => ?_; simp (contextual := true) (maxSteps := 1000000) (disch := omega) only [↓Sd, ↓So, ↓Sk, ↓den, ↓denA, Sa, Sb, Sc, Se, O1.d, O2.d, O3.d, cmI, arI, envOf, putN, ↓reduceIte, Nat.reduceLT, Nat.reduceSub, Nat.reduceAdd, Int.reduceAdd, Int.reduceEq, Int.reduceLT, Int.reduceLE, arr_pos, arr_neg, ]
 refine D_pick1 _ _ _ hb (by omega) (by omega) fun v5 v50 v51 => ?_; simp (contextual := true) (maxSteps := 1000000) (disch := omega) only [↓Sd, ↓So, ↓Sk, ↓den, ↓denA, Sa, Sb, Sc, Se, O1.d, O2.d, O3.d, cmI, arI, envOf, putN, ↓reduceIte, Nat.reduceLT, Nat.reduceSub, Nat.reduceAdd, Int.reduceAdd, Int.reduceEq, Int.reduceLT, Int.reduceLE, arr_pos, arr_neg, ]
 refine D_num _ _ _ hb (by omega) (by simp) (by simp) fun v v0 => ?_; simp (contextual := true) (maxSteps := 1000000) (disch := omega) only [↓Sd, ↓So, ↓Sk, ↓den, ↓denA, Sa, Sb, Sc, Se, O1.d, O2.d, O3.d, cmI, arI, envOf, putN, ↓reduceIte, Nat.reduceLT, Nat.reduceSub, Nat.reduceAdd, Int.reduceAdd, Int.reduceEq, Int.reduceLT, Int.reduceLE, arr_pos, arr_neg, ]
 exact h v _ (by omega)
theorem D_l1Pick (b : List Int) (p : Int) (ks : List Int) (kind : Int) (hb : Rdy b) (hp : 0 ≤ p ∧ p ≤ 900000000) (hk : 0 < ks.length) (hk2 : ks.length ≤ 1000) {Q : List AV → Prop} (h : ∀ v : Int, -1 ≤ v ∧ v < ks.length → Q [⟨I, v⟩, ⟨RD, (b, p + 1)⟩]) : mc.C f_spec_l1Pick [⟨RD, (b, p)⟩, ⟨L I, ks⟩, ⟨I, kind⟩] Q := by
 refine mc.c_of F_spec_l1Pick ?_
 simp (contextual := true) (maxSteps := 1000000) (disch := omega) only [↓Sd, ↓So, ↓Sk, ↓den, ↓denA, Sa, Sb, Sc, Se, O1.d, O2.d, O3.d, cmI, arI, envOf, putN, ↓reduceIte, Nat.reduceLT, Nat.reduceSub, Nat.reduceAdd, Int.reduceAdd, Int.reduceEq, Int.reduceLT, Int.reduceLE, arr_pos, arr_neg, tr_spec_l1Pick]
 refine D_pick1 _ _ _ hb (by omega) (by omega) fun a a0 a1 => ?_; simp (contextual := true) (maxSteps := 1000000) (disch := omega) only [↓Sd, ↓So, ↓Sk, ↓den, ↓denA, Sa, Sb, Sc, Se, O1.d, O2.d, O3.d, cmI, arI, envOf, putN, ↓reduceIte, Nat.reduceLT, Nat.reduceSub, Nat.reduceAdd, Int.reduceAdd, Int.reduceEq, Int.reduceLT, Int.reduceLE, arr_pos, arr_neg, ]
 refine mc.lp_for Unit (fun i _ => [⟨L I, ks⟩, ⟨I, kind⟩, ⟨I, a⟩, ⟨I, (i : Int)⟩, ⟨L U, b⟩, ⟨I, p + 1⟩]) (fun _ _ => True) ks.length 0 () _ rfl (Nat.zero_le _) trivial ?_ ?_
 ·rintro i - hi -
  have a1 := Int.emod_nonneg (a + (i : Int)) (show (ks.length : Int) ≠ 0 by omega)
  have a2 := Int.emod_lt_of_pos (a + (i : Int)) (show 0 < (ks.length : Int) by omega)
  simp (contextual := true) (maxSteps := 1000000) (disch := omega) only [↓Sd, ↓So, ↓Sk, ↓den, ↓denA, Sa, Sb, Sc, Se, O1.d, O2.d, O3.d, cmI, arI, envOf, putN, ↓reduceIte, Nat.reduceLT, Nat.reduceSub, Nat.reduceAdd, Int.reduceAdd, Int.reduceEq, Int.reduceLT, Int.reduceLE, arr_pos, arr_neg, ]
  exact fun _ => h _ (by omega)
 ·rintro - -
  simp (contextual := true) (maxSteps := 1000000) (disch := omega) only [↓Sd, ↓So, ↓Sk, ↓den, ↓denA, Sa, Sb, Sc, Se, O1.d, O2.d, O3.d, cmI, arI, envOf, putN, ↓reduceIte, Nat.reduceLT, Nat.reduceSub, Nat.reduceAdd, Int.reduceAdd, Int.reduceEq, Int.reduceLT, Int.reduceLE, arr_pos, arr_neg, ]
  exact h _ (by omega)
theorem C_spec_l2VarOf (n : Int) (Q : List AV → Prop) : mc.C f_spec_l2VarOf [⟨I, n⟩] Q = Q [⟨I, 1⟩, ⟨I, n⟩, ⟨I, 0⟩, ⟨I, 0⟩] := Mc.Ends.c (mc.ends F_spec_l2VarOf (by simp (contextual := true) (maxSteps := 1000000) (disch := omega) only [↓Sd, ↓So, ↓Sk, ↓den, ↓denA, Sa, Sb, Sc, Se, O1.d, O2.d, O3.d, cmI, arI, envOf, putN, ↓reduceIte, Nat.reduceLT, Nat.reduceSub, Nat.reduceAdd, Int.reduceAdd, Int.reduceEq, Int.reduceLT, Int.reduceLE, arr_pos, arr_neg, tr_spec_l2VarOf]))
theorem C_spec_l2Const (n : Int) (Q : List AV → Prop) : mc.C f_spec_l2Const [⟨I, n⟩] Q = Q [⟨I, 0⟩, ⟨I, n⟩, ⟨I, 0⟩, ⟨I, 0⟩] := Mc.Ends.c (mc.ends F_spec_l2Const (by simp (contextual := true) (maxSteps := 1000000) (disch := omega) only [↓Sd, ↓So, ↓Sk, ↓den, ↓denA, Sa, Sb, Sc, Se, O1.d, O2.d, O3.d, cmI, arI, envOf, putN, ↓reduceIte, Nat.reduceLT, Nat.reduceSub, Nat.reduceAdd, Int.reduceAdd, Int.reduceEq, Int.reduceLT, Int.reduceLE, arr_pos, arr_neg, tr_spec_l2Const]))
theorem D_l2Cond (b : List Int) (p : Int) (v : Vr) (at_ : Int) (hb : Rdy b) (hp : 0 ≤ p ∧ p ≤ 900000000) {Q : List AV → Prop} (h : ∀ (l : List Tm) (p' : Int), p ≤ p' ∧ p' ≤ p + 3 → l.length ≤ 4 → Q [⟨L T4, l⟩, ⟨RD, (b, p')⟩]) : mc.C f_spec_l2Cond [⟨RD, (b, p)⟩, ⟨I, v.1⟩, ⟨I, v.2.1⟩, ⟨I, v.2.2⟩, ⟨I, at_⟩] Q := by
 refine mc.c_of F_spec_l2Cond ?_
 simp (contextual := true) (maxSteps := 1000000) (disch := omega) only [↓Sd, ↓So, ↓Sk, ↓den, ↓denA, Sa, Sb, Sc, Se, O1.d, O2.d, O3.d, cmI, arI, envOf, putN, ↓reduceIte, Nat.reduceLT, Nat.reduceSub, Nat.reduceAdd, Int.reduceAdd, Int.reduceEq, Int.reduceLT, Int.reduceLE, arr_pos, arr_neg, tr_spec_l2Cond]
 refine D_pick _ _ _ hb (by omega) fun n _ _ => ?_
 simp (contextual := true) (maxSteps := 1000000) (disch := omega) only [↓Sd, ↓So, ↓Sk, ↓den, ↓denA, Sa, Sb, Sc, Se, O1.d, O2.d, O3.d, cmI, arI, envOf, putN, ↓reduceIte, Nat.reduceLT, Nat.reduceSub, Nat.reduceAdd, Int.reduceAdd, Int.reduceEq, Int.reduceLT, Int.reduceLE, arr_pos, arr_neg, ↓wpJoin, ]
 refine D_num _ _ _ hb (by omega) (by simp) (by simp) fun o o0 => ?_; simp (contextual := true) (maxSteps := 1000000) (disch := omega) only [↓Sd, ↓So, ↓Sk, ↓den, ↓denA, Sa, Sb, Sc, Se, O1.d, O2.d, O3.d, cmI, arI, envOf, putN, ↓reduceIte, Nat.reduceLT, Nat.reduceSub, Nat.reduceAdd, Int.reduceAdd, Int.reduceEq, Int.reduceLT, Int.reduceLE, arr_pos, arr_neg, ]
 simp (contextual := true) (maxSteps := 1000000) (disch := omega) only [↓Sd, ↓So, ↓Sk, ↓den, ↓denA, Sa, Sb, Sc, Se, O1.d, O2.d, O3.d, cmI, arI, envOf, putN, ↓reduceIte, Nat.reduceLT, Nat.reduceSub, Nat.reduceAdd, Int.reduceAdd, Int.reduceEq, Int.reduceLT, Int.reduceLE, arr_pos, arr_neg, ↓wpJoin, C_spec_l2VarOf, C_spec_l2Const]
 refine D_pick1 _ _ _ hb (by omega) (by omega) fun k k0 k1 => ?_; simp (contextual := true) (maxSteps := 1000000) (disch := omega) only [↓Sd, ↓So, ↓Sk, ↓den, ↓denA, Sa, Sb, Sc, Se, O1.d, O2.d, O3.d, cmI, arI, envOf, putN, ↓reduceIte, Nat.reduceLT, Nat.reduceSub, Nat.reduceAdd, Int.reduceAdd, Int.reduceEq, Int.reduceLT, Int.reduceLE, arr_pos, arr_neg, ]
 exact ⟨fun _ => h _ _ (by omega) (by simp), fun _ => h _ _ (by omega) (by simp)⟩
def mvT (t : Tm) (n : Int) : Tm := if 2 ≤ t.1 then (t.1, 0, IntKind.i64.wrap (t.2.2.1 + n), IntKind.i64.wrap (t.2.2.2 + n)) else t
theorem C_spec_l1Moved (t : Tm) (n : Int) (Q : List AV → Prop) : mc.C f_spec_l1Moved [⟨I, t.1⟩, ⟨I, t.2.1⟩, ⟨I, t.2.2.1⟩, ⟨I, t.2.2.2⟩, ⟨I, n⟩] Q = Q [⟨I, (mvT t n).1⟩, ⟨I, (mvT t n).2.1⟩, ⟨I, (mvT t n).2.2.1⟩, ⟨I, (mvT t n).2.2.2⟩] := by
 refine Mc.Ends.c (mc.ends F_spec_l1Moved ?_)
 unfold mvT
 by_cases g : 2 ≤ t.1
 ·rw [if_pos g]
  simp (contextual := true) (maxSteps := 1000000) (disch := omega) only [↓Sd, ↓So, ↓Sk, ↓den, ↓denA, Sa, Sb, Sc, Se, O1.d, O2.d, O3.d, cmI, arI, envOf, putN, ↓reduceIte, Nat.reduceLT, Nat.reduceSub, Nat.reduceAdd, Int.reduceAdd, Int.reduceEq, Int.reduceLT, Int.reduceLE, arr_pos, arr_neg, tr_spec_l1Moved]
 ·rw [if_neg g]
  simp (contextual := true) (maxSteps := 1000000) (disch := omega) only [↓Sd, ↓So, ↓Sk, ↓den, ↓denA, Sa, Sb, Sc, Se, O1.d, O2.d, O3.d, cmI, arI, envOf, putN, ↓reduceIte, Nat.reduceLT, Nat.reduceSub, Nat.reduceAdd, Int.reduceAdd, Int.reduceEq, Int.reduceLT, Int.reduceLE, arr_pos, arr_neg, tr_spec_l1Moved]
theorem C_spec_TermsValid (l : List Tm) (vars : Int) (hl : Few l) (Q : List AV → Prop) : mc.C f_spec_TermsValid [⟨L T4, l⟩, ⟨I, vars⟩] Q = Q [⟨B, decide (((kdsOf l vars).length : Int) > 0)⟩] := by
 refine Mc.Ends.c (mc.ends F_spec_TermsValid ?_)
 simp (contextual := true) (maxSteps := 1000000) (disch := omega) only [↓Sd, ↓So, ↓Sk, ↓den, ↓denA, Sa, Sb, Sc, Se, O1.d, O2.d, O3.d, cmI, arI, envOf, putN, ↓reduceIte, Nat.reduceLT, Nat.reduceSub, Nat.reduceAdd, Int.reduceAdd, Int.reduceEq, Int.reduceLT, Int.reduceLE, arr_pos, arr_neg, tr_spec_TermsValid, C_spec_KindsOf l vars hl]
theorem D_Joined (o : Int) (l m : List Tm) (vars : Int) (hl : l.length ≤ 1000) (hm : m.length ≤ 1000) {Q : List AV → Prop} (h : ∀ (r : List Tm), r.length ≤ l.length + m.length + 1 → Q [⟨L T4, r⟩]) : mc.C f_spec_Joined [⟨I, o⟩, ⟨L T4, l⟩, ⟨L T4, m⟩, ⟨I, vars⟩] Q := by
 have h1 : Few l := by unfold Few; omega
 have h2 : Few m := by unfold Few; omega
 refine mc.c_of F_spec_Joined ?_
 simp (contextual := true) (maxSteps := 1000000) (disch := omega) only [↓Sd, ↓So, ↓Sk, ↓den, ↓denA, Sa, Sb, Sc, Se, O1.d, O2.d, O3.d, cmI, arI, envOf, putN, ↓reduceIte, Nat.reduceLT, Nat.reduceSub, Nat.reduceAdd, Int.reduceAdd, Int.reduceEq, Int.reduceLT, Int.reduceLE, arr_pos, arr_neg, tr_spec_Joined, C_spec_TermsValid l vars h1, C_spec_TermsValid m vars h2]
 refine ⟨fun _ => h _ (by simp), fun _ => ⟨fun _ => h _ (by simp), fun _ => ?_⟩⟩
 refine mc.lp_for (List Tm) (fun i s => [⟨I, o⟩, ⟨L T4, l⟩, ⟨L T4, m⟩, ⟨I, vars⟩, ⟨I, (i : Int)⟩, ⟨L T4, s⟩]) (fun i s => s.length = i) l.length 0 [] _ rfl (Nat.zero_le _) rfl ?_ ?_
 ·rintro i s hi hs
  simp (contextual := true) (maxSteps := 1000000) (disch := omega) only [↓Sd, ↓So, ↓Sk, ↓den, ↓denA, Sa, Sb, Sc, Se, O1.d, O2.d, O3.d, cmI, arI, envOf, putN, ↓reduceIte, Nat.reduceLT, Nat.reduceSub, Nat.reduceAdd, Int.reduceAdd, Int.reduceEq, Int.reduceLT, Int.reduceLE, arr_pos, arr_neg, ]
  omega
 rintro s hs
 simp (contextual := true) (maxSteps := 1000000) (disch := omega) only [↓Sd, ↓So, ↓Sk, ↓den, ↓denA, Sa, Sb, Sc, Se, O1.d, O2.d, O3.d, cmI, arI, envOf, putN, ↓reduceIte, Nat.reduceLT, Nat.reduceSub, Nat.reduceAdd, Int.reduceAdd, Int.reduceEq, Int.reduceLT, Int.reduceLE, arr_pos, arr_neg, ↓wpJoin, ]
 refine mc.lp_for (List Tm) (fun i s => [⟨I, o⟩, ⟨L T4, l⟩, ⟨L T4, m⟩, ⟨I, vars⟩, ⟨I, (i : Int)⟩, ⟨L T4, s⟩]) (fun i s => s.length ≤ l.length + i) m.length 0 s _ rfl (Nat.zero_le _) (by omega) ?_ ?_
 ·rintro i s hi hs
  simp (contextual := true) (maxSteps := 1000000) (disch := omega) only [↓Sd, ↓So, ↓Sk, ↓den, ↓denA, Sa, Sb, Sc, Se, O1.d, O2.d, O3.d, cmI, arI, envOf, putN, ↓reduceIte, Nat.reduceLT, Nat.reduceSub, Nat.reduceAdd, Int.reduceAdd, Int.reduceEq, Int.reduceLT, Int.reduceLE, arr_pos, arr_neg, C_spec_l1One, C_spec_l1Moved]
  refine ⟨fun _ => by omega, fun g => ?_⟩
  have hf : Few (s ++ [((7 : Int), (0 : Int), (l.length : Int) - 1, (s.length : Int) - 1)]) := by unfold Few; simp only [List.length_append, List.length_singleton]; omega
  simp (contextual := true) (maxSteps := 1000000) (disch := omega) only [↓Sd, ↓So, ↓Sk, ↓den, ↓denA, Sa, Sb, Sc, Se, O1.d, O2.d, O3.d, cmI, arI, envOf, putN, ↓reduceIte, Nat.reduceLT, Nat.reduceSub, Nat.reduceAdd, Int.reduceAdd, Int.reduceEq, Int.reduceLT, Int.reduceLE, arr_pos, arr_neg, C_spec_TermsValid _ vars hf]
  exact ⟨fun _ => h _ (by simp), fun _ => h _ (by simp only [List.length_append, List.length_singleton]; omega)⟩
 ·rintro s hs
  simp (contextual := true) (maxSteps := 1000000) (disch := omega) only [↓Sd, ↓So, ↓Sk, ↓den, ↓denA, Sa, Sb, Sc, Se, O1.d, O2.d, O3.d, cmI, arI, envOf, putN, ↓reduceIte, Nat.reduceLT, Nat.reduceSub, Nat.reduceAdd, Int.reduceAdd, Int.reduceEq, Int.reduceLT, Int.reduceLE, arr_pos, arr_neg, ]
  refine ⟨fun _ => h _ (by simp), fun _ => ?_⟩
  have hf : Few (s ++ [(o, (0 : Int), (l.length : Int) - 1, (s.length : Int) - 1)]) := by unfold Few; simp only [List.length_append, List.length_singleton]; omega
  simp (contextual := true) (maxSteps := 1000000) (disch := omega) only [↓Sd, ↓So, ↓Sk, ↓den, ↓denA, Sa, Sb, Sc, Se, O1.d, O2.d, O3.d, cmI, arI, envOf, putN, ↓reduceIte, Nat.reduceLT, Nat.reduceSub, Nat.reduceAdd, Int.reduceAdd, Int.reduceEq, Int.reduceLT, Int.reduceLE, arr_pos, arr_neg, C_spec_TermsValid _ vars hf]
  exact ⟨fun _ => h _ (by simp), fun _ => h _ (by simp only [List.length_append, List.length_singleton]; omega)⟩
theorem D_l2When (b : List Int) (p : Int) (vs : List Vr) (hb : Rdy b) (hp : 0 ≤ p ∧ p ≤ 800000000) (hv : 1 ≤ vs.length) (hv2 : vs.length ≤ 1000) {Q : List AV → Prop} (h : ∀ (l : List Tm) (p' : Int), p ≤ p' ∧ p' ≤ p + 10 → l.length ≤ 9 → Q [⟨L T4, l⟩, ⟨RD, (b, p')⟩]) : mc.C f_spec_l2When [⟨RD, (b, p)⟩, ⟨L V3, vs⟩] Q := by
 refine mc.c_of F_spec_l2When ?_
 simp (contextual := true) (maxSteps := 1000000) (disch := omega) only [↓Sd, ↓So, ↓Sk, ↓den, ↓denA, Sa, Sb, Sc, Se, O1.d, O2.d, O3.d, cmI, arI, envOf, putN, ↓reduceIte, Nat.reduceLT, Nat.reduceSub, Nat.reduceAdd, Int.reduceAdd, Int.reduceEq, Int.reduceLT, Int.reduceLE, arr_pos, arr_neg, tr_spec_l2When]
 refine D_pick1 _ _ _ hb (by omega) (by omega) fun i i0 i1 => ?_; simp (contextual := true) (maxSteps := 1000000) (disch := omega) only [↓Sd, ↓So, ↓Sk, ↓den, ↓denA, Sa, Sb, Sc, Se, O1.d, O2.d, O3.d, cmI, arI, envOf, putN, ↓reduceIte, Nat.reduceLT, Nat.reduceSub, Nat.reduceAdd, Int.reduceAdd, Int.reduceEq, Int.reduceLT, Int.reduceLE, arr_pos, arr_neg, ]
 refine D_l2Cond _ _ (vs.getD i.toNat (0, 0, 0)) _ hb (by omega) fun l p1 hp1 hl => ?_
 simp (contextual := true) (maxSteps := 1000000) (disch := omega) only [↓Sd, ↓So, ↓Sk, ↓den, ↓denA, Sa, Sb, Sc, Se, O1.d, O2.d, O3.d, cmI, arI, envOf, putN, ↓reduceIte, Nat.reduceLT, Nat.reduceSub, Nat.reduceAdd, Int.reduceAdd, Int.reduceEq, Int.reduceLT, Int.reduceLE, arr_pos, arr_neg, ↓wpJoin, ]
 refine D_pick1 _ _ _ hb (by omega) (by omega) fun k k0 k1 => ?_; simp (contextual := true) (maxSteps := 1000000) (disch := omega) only [↓Sd, ↓So, ↓Sk, ↓den, ↓denA, Sa, Sb, Sc, Se, O1.d, O2.d, O3.d, cmI, arI, envOf, putN, ↓reduceIte, Nat.reduceLT, Nat.reduceSub, Nat.reduceAdd, Int.reduceAdd, Int.reduceEq, Int.reduceLT, Int.reduceLE, arr_pos, arr_neg, ]
 refine ⟨fun _ => ?_, fun _ => h _ _ (by omega) (by omega)⟩
 refine D_pick1 _ _ _ hb (by omega) (by omega) fun j j0 j1 => ?_; simp (contextual := true) (maxSteps := 1000000) (disch := omega) only [↓Sd, ↓So, ↓Sk, ↓den, ↓denA, Sa, Sb, Sc, Se, O1.d, O2.d, O3.d, cmI, arI, envOf, putN, ↓reduceIte, Nat.reduceLT, Nat.reduceSub, Nat.reduceAdd, Int.reduceAdd, Int.reduceEq, Int.reduceLT, Int.reduceLE, arr_pos, arr_neg, ]
 refine D_num _ _ _ hb (by omega) (by simp) (by simp) fun o o0 => ?_; simp (contextual := true) (maxSteps := 1000000) (disch := omega) only [↓Sd, ↓So, ↓Sk, ↓den, ↓denA, Sa, Sb, Sc, Se, O1.d, O2.d, O3.d, cmI, arI, envOf, putN, ↓reduceIte, Nat.reduceLT, Nat.reduceSub, Nat.reduceAdd, Int.reduceAdd, Int.reduceEq, Int.reduceLT, Int.reduceLE, arr_pos, arr_neg, ]
 refine D_l2Cond _ _ (vs.getD j.toNat (0, 0, 0)) _ hb (by omega) fun m p2 hp2 hm => ?_
 simp (contextual := true) (maxSteps := 1000000) (disch := omega) only [↓Sd, ↓So, ↓Sk, ↓den, ↓denA, Sa, Sb, Sc, Se, O1.d, O2.d, O3.d, cmI, arI, envOf, putN, ↓reduceIte, Nat.reduceLT, Nat.reduceSub, Nat.reduceAdd, Int.reduceAdd, Int.reduceEq, Int.reduceLT, Int.reduceLE, arr_pos, arr_neg, ]
 refine D_Joined _ _ _ _ (by omega) (by omega) fun r hr => ?_
 simp (contextual := true) (maxSteps := 1000000) (disch := omega) only [↓Sd, ↓So, ↓Sk, ↓den, ↓denA, Sa, Sb, Sc, Se, O1.d, O2.d, O3.d, cmI, arI, envOf, putN, ↓reduceIte, Nat.reduceLT, Nat.reduceSub, Nat.reduceAdd, Int.reduceAdd, Int.reduceEq, Int.reduceLT, Int.reduceLE, arr_pos, arr_neg, ↓wpJoin, ]
 exact h _ _ (by omega) (by omega)
theorem D_l1Terms (b : List Int) (p vars kind most : Int) (hb : Rdy b) (hp : 0 ≤ p ∧ p ≤ 800000000) (hv : 0 ≤ vars ∧ vars ≤ 5) (hm : 1 ≤ most ∧ most ≤ 12) {Q : List AV → Prop} (h : ∀ (l : List Tm) (p' : Int), p ≤ p' ∧ p' ≤ p + 400 → 1 ≤ l.length → l.length ≤ 16 → Q [⟨L T4, l⟩, ⟨RD, (b, p')⟩]) : mc.C f_spec_l1Terms [⟨RD, (b, p)⟩, ⟨I, vars⟩, ⟨I, kind⟩, ⟨I, most⟩] Q := by
 refine mc.c_of F_spec_l1Terms ?_
 simp (contextual := true) (maxSteps := 1000000) (disch := omega) only [↓Sd, ↓So, ↓Sk, ↓den, ↓denA, Sa, Sb, Sc, Se, O1.d, O2.d, O3.d, cmI, arI, envOf, putN, ↓reduceIte, Nat.reduceLT, Nat.reduceSub, Nat.reduceAdd, Int.reduceAdd, Int.reduceEq, Int.reduceLT, Int.reduceLE, arr_pos, arr_neg, tr_spec_l1Terms]
 refine D_pick1 _ _ _ hb (by omega) (by omega) fun n n0 n1 => ?_; simp (contextual := true) (maxSteps := 1000000) (disch := omega) only [↓Sd, ↓So, ↓Sk, ↓den, ↓denA, Sa, Sb, Sc, Se, O1.d, O2.d, O3.d, cmI, arI, envOf, putN, ↓reduceIte, Nat.reduceLT, Nat.reduceSub, Nat.reduceAdd, Int.reduceAdd, Int.reduceEq, Int.reduceLT, Int.reduceLE, arr_pos, arr_neg, ]
 obtain ⟨N, hN⟩ : ∃ N : Nat, n = N := ⟨n.toNat, by omega⟩
 subst hN
 refine mc.lp_inv (fun k us => ∃ (p1 : Int) (l : List Tm) (ks : List Int), us = [⟨I, vars⟩, ⟨I, kind⟩, ⟨I, (k : Int)⟩, ⟨L U, b⟩, ⟨I, p1⟩, ⟨L T4, l⟩, ⟨L I, ks⟩] ∧ l.length = ks.length ∧ l.length + k ≤ 2 + N ∧ p ≤ p1 ∧ p1 + 20 * k ≤ p + 1 + 20 * (2 + N)) (2 + N) _ ⟨p + 1, [], [], by simp, rfl, by simp, by omega, by omega⟩ ?_
 rintro k us ⟨p1, l, ks, rfl, i1, i2, i3, i4⟩
 cases k with
 | zero =>
  simp (contextual := true) (maxSteps := 1000000) (disch := omega) only [↓Sd, ↓So, ↓Sk, ↓den, ↓denA, Sa, Sb, Sc, Se, O1.d, O2.d, O3.d, cmI, arI, envOf, putN, ↓reduceIte, Nat.reduceLT, Nat.reduceSub, Nat.reduceAdd, Int.reduceAdd, Int.reduceEq, Int.reduceLT, Int.reduceLE, arr_pos, arr_neg, ]
  refine mc.wp_join (fun us => ∃ (l : List Tm) (ks : List Int), us = [⟨I, kind⟩, ⟨L U, b⟩, ⟨I, p1⟩, ⟨L T4, l⟩, ⟨L I, ks⟩] ∧ l.length = ks.length ∧ 1 ≤ l.length ∧ l.length ≤ 14) ?_ ?_
  ·simp (contextual := true) (maxSteps := 1000000) (disch := omega) only [↓Sd, ↓So, ↓Sk, ↓den, ↓denA, Sa, Sb, Sc, Se, O1.d, O2.d, O3.d, cmI, arI, envOf, putN, ↓reduceIte, Nat.reduceLT, Nat.reduceSub, Nat.reduceAdd, Int.reduceAdd, Int.reduceEq, Int.reduceLT, Int.reduceLE, arr_pos, arr_neg, ]
   refine ⟨fun g => ⟨_, _, ⟨rfl, rfl⟩, by simp [i1], by simp, ?_⟩, fun g => ⟨l, ks, ⟨rfl, rfl⟩, i1, by omega, by omega⟩⟩
   simp only [List.length_append, List.length_singleton]; omega
  ·rintro us ⟨l, ks, rfl, a1, a2, a3⟩
   refine mc.wp_join (fun us => ∃ (p2 : Int) (l : List Tm), us = [⟨L U, b⟩, ⟨I, p2⟩, ⟨L T4, l⟩] ∧ p ≤ p2 ∧ p2 ≤ p + 390 ∧ 1 ≤ l.length ∧ l.length ≤ 16) ?_ ?_
   ·have ln1 : ∀ x : Tm, 1 ≤ (l ++ [x]).length ∧ (l ++ [x]).length ≤ 16 := fun x => by simp only [List.length_append, List.length_singleton]; omega
    simp (contextual := true) (maxSteps := 1000000) (disch := omega) only [↓Sd, ↓So, ↓Sk, ↓den, ↓denA, Sa, Sb, Sc, Se, O1.d, O2.d, O3.d, cmI, arI, envOf, putN, ↓reduceIte, Nat.reduceLT, Nat.reduceSub, Nat.reduceAdd, Int.reduceAdd, Int.reduceEq, Int.reduceLT, Int.reduceLE, arr_pos, arr_neg, ]
    refine ⟨fun _ => ⟨fun _ => ?_, fun _ => ⟨_, _, ⟨rfl, rfl⟩, by omega, by omega, by omega, by omega⟩⟩, fun _ => ⟨fun _ => ⟨fun _ => ?_, fun _ => ⟨_, _, ⟨rfl, rfl⟩, by omega, by omega, by omega, by omega⟩⟩, fun _ => ⟨_, _, ⟨rfl, rfl⟩, by omega, by omega, by omega, by omega⟩⟩⟩
    ·refine D_num _ _ _ hb (by omega) (by simp) (by simp) fun o o0 => ?_; simp (contextual := true) (maxSteps := 1000000) (disch := omega) only [↓Sd, ↓So, ↓Sk, ↓den, ↓denA, Sa, Sb, Sc, Se, O1.d, O2.d, O3.d, cmI, arI, envOf, putN, ↓reduceIte, Nat.reduceLT, Nat.reduceSub, Nat.reduceAdd, Int.reduceAdd, Int.reduceEq, Int.reduceLT, Int.reduceLE, arr_pos, arr_neg, ]
     refine D_l1Pick _ _ _ _ hb (by omega) (by omega) (by omega) fun x hx => ?_
     simp (contextual := true) (maxSteps := 1000000) (disch := omega) only [↓Sd, ↓So, ↓Sk, ↓den, ↓denA, Sa, Sb, Sc, Se, O1.d, O2.d, O3.d, cmI, arI, envOf, putN, ↓reduceIte, Nat.reduceLT, Nat.reduceSub, Nat.reduceAdd, Int.reduceAdd, Int.reduceEq, Int.reduceLT, Int.reduceLE, arr_pos, arr_neg, ]
     exact ⟨_, _, ⟨rfl, rfl⟩, by omega, by omega, (ln1 _).1, (ln1 _).2⟩
    ·refine D_l1Pick _ _ _ _ hb (by omega) (by omega) (by omega) fun x hx => ?_
     simp (contextual := true) (maxSteps := 1000000) (disch := omega) only [↓Sd, ↓So, ↓Sk, ↓den, ↓denA, Sa, Sb, Sc, Se, O1.d, O2.d, O3.d, cmI, arI, envOf, putN, ↓reduceIte, Nat.reduceLT, Nat.reduceSub, Nat.reduceAdd, Int.reduceAdd, Int.reduceEq, Int.reduceLT, Int.reduceLE, arr_pos, arr_neg, ]
     refine D_num _ _ _ hb (by omega) (by simp) (by simp) fun o o0 => ?_; simp (contextual := true) (maxSteps := 1000000) (disch := omega) only [↓Sd, ↓So, ↓Sk, ↓den, ↓denA, Sa, Sb, Sc, Se, O1.d, O2.d, O3.d, cmI, arI, envOf, putN, ↓reduceIte, Nat.reduceLT, Nat.reduceSub, Nat.reduceAdd, Int.reduceAdd, Int.reduceEq, Int.reduceLT, Int.reduceLE, arr_pos, arr_neg, ]
     refine D_l1Pick _ _ _ _ hb (by omega) (by omega) (by omega) fun y hy => ?_
     simp (contextual := true) (maxSteps := 1000000) (disch := omega) only [↓Sd, ↓So, ↓Sk, ↓den, ↓denA, Sa, Sb, Sc, Se, O1.d, O2.d, O3.d, cmI, arI, envOf, putN, ↓reduceIte, Nat.reduceLT, Nat.reduceSub, Nat.reduceAdd, Int.reduceAdd, Int.reduceEq, Int.reduceLT, Int.reduceLE, arr_pos, arr_neg, ]
     exact ⟨_, _, ⟨rfl, rfl⟩, by omega, by omega, (ln1 _).1, (ln1 _).2⟩
   ·rintro us ⟨p2, l, rfl, c1, c2, c3, c4⟩
    simp (contextual := true) (maxSteps := 1000000) (disch := omega) only [↓Sd, ↓So, ↓Sk, ↓den, ↓denA, Sa, Sb, Sc, Se, O1.d, O2.d, O3.d, cmI, arI, envOf, putN, ↓reduceIte, Nat.reduceLT, Nat.reduceSub, Nat.reduceAdd, Int.reduceAdd, Int.reduceEq, Int.reduceLT, Int.reduceLE, arr_pos, arr_neg, ]
    exact h _ _ (by omega) (by omega) (by omega)
 | succ k =>
  simp (contextual := true) (maxSteps := 1000000) (disch := omega) only [↓Sd, ↓So, ↓Sk, ↓den, ↓denA, Sa, Sb, Sc, Se, O1.d, O2.d, O3.d, cmI, arI, envOf, putN, ↓reduceIte, Nat.reduceLT, Nat.reduceSub, Nat.reduceAdd, Int.reduceAdd, Int.reduceEq, Int.reduceLT, Int.reduceLE, arr_pos, arr_neg, ]
  refine mc.wp_join (fun us => ∃ (p2 : Int) (l : List Tm) (ks : List Int), us = [⟨I, vars⟩, ⟨I, kind⟩, ⟨I, (k : Int) + 1⟩, ⟨L U, b⟩, ⟨I, p2⟩, ⟨L T4, l⟩, ⟨L I, ks⟩] ∧ l.length = ks.length ∧ l.length + k ≤ 2 + N ∧ p ≤ p2 ∧ p2 + 20 * k ≤ p + 1 + 20 * (2 + N)) ?_ ?_
  ·simp (contextual := true) (maxSteps := 1000000) (disch := omega) only [↓Sd, ↓So, ↓Sk, ↓den, ↓denA, Sa, Sb, Sc, Se, O1.d, O2.d, O3.d, cmI, arI, envOf, putN, ↓reduceIte, Nat.reduceLT, Nat.reduceSub, Nat.reduceAdd, Int.reduceAdd, Int.reduceEq, Int.reduceLT, Int.reduceLE, arr_pos, arr_neg, ]
   refine D_num _ _ _ hb (by omega) (by simp) (by simp) fun o o0 => ?_; simp (contextual := true) (maxSteps := 1000000) (disch := omega) only [↓Sd, ↓So, ↓Sk, ↓den, ↓denA, Sa, Sb, Sc, Se, O1.d, O2.d, O3.d, cmI, arI, envOf, putN, ↓reduceIte, Nat.reduceLT, Nat.reduceSub, Nat.reduceAdd, Int.reduceAdd, Int.reduceEq, Int.reduceLT, Int.reduceLE, arr_pos, arr_neg, ]
   refine mc.wp_join (fun us => ∃ (p2 : Int) (t : Tm), us = [⟨I, vars⟩, ⟨I, kind⟩, ⟨I, (k : Int) + 1⟩, ⟨L U, b⟩, ⟨I, p2⟩, ⟨L T4, l⟩, ⟨L I, ks⟩, ⟨I, t.1⟩, ⟨I, t.2.1⟩, ⟨I, t.2.2.1⟩, ⟨I, t.2.2.2⟩] ∧ p ≤ p2 ∧ p2 ≤ p1 + 10) ?_ ?_
   ·simp (contextual := true) (maxSteps := 1000000) (disch := omega) only [↓Sd, ↓So, ↓Sk, ↓den, ↓denA, Sa, Sb, Sc, Se, O1.d, O2.d, O3.d, cmI, arI, envOf, putN, ↓reduceIte, Nat.reduceLT, Nat.reduceSub, Nat.reduceAdd, Int.reduceAdd, Int.reduceEq, Int.reduceLT, Int.reduceLE, arr_pos, arr_neg, ]
    refine ⟨fun g => ?_, fun g => ⟨fun g2 => ?_, fun g2 => ?_⟩⟩
    ·refine D_l1Number _ _ hb (by omega) fun x p2 hp2 => ?_
     simp (contextual := true) (maxSteps := 1000000) (disch := omega) only [↓Sd, ↓So, ↓Sk, ↓den, ↓denA, Sa, Sb, Sc, Se, O1.d, O2.d, O3.d, cmI, arI, envOf, putN, ↓reduceIte, Nat.reduceLT, Nat.reduceSub, Nat.reduceAdd, Int.reduceAdd, Int.reduceEq, Int.reduceLT, Int.reduceLE, arr_pos, arr_neg, ]
     refine ⟨fun _ => ⟨fun _ => ?_, fun _ => ⟨_, ((0 : Int), x, (0 : Int), (0 : Int)), ⟨rfl, rfl, rfl, rfl, rfl⟩, by omega, by omega⟩⟩, fun _ => ⟨_, ((0 : Int), x, (0 : Int), (0 : Int)), ⟨rfl, rfl, rfl, rfl, rfl⟩, by omega, by omega⟩⟩
     refine D_pick1 _ _ _ hb (by omega) (by omega) fun y y0 y1 => ?_; simp (contextual := true) (maxSteps := 1000000) (disch := omega) only [↓Sd, ↓So, ↓Sk, ↓den, ↓denA, Sa, Sb, Sc, Se, O1.d, O2.d, O3.d, cmI, arI, envOf, putN, ↓reduceIte, Nat.reduceLT, Nat.reduceSub, Nat.reduceAdd, Int.reduceAdd, Int.reduceEq, Int.reduceLT, Int.reduceLE, arr_pos, arr_neg, ]
     exact ⟨_, ((1 : Int), y, (0 : Int), (0 : Int)), ⟨rfl, rfl, rfl, rfl, rfl⟩, by omega, by omega⟩
    ·refine D_l1Number _ _ hb (by omega) fun x p2 hp2 => ?_
     simp (contextual := true) (maxSteps := 1000000) (disch := omega) only [↓Sd, ↓So, ↓Sk, ↓den, ↓denA, Sa, Sb, Sc, Se, O1.d, O2.d, O3.d, cmI, arI, envOf, putN, ↓reduceIte, Nat.reduceLT, Nat.reduceSub, Nat.reduceAdd, Int.reduceAdd, Int.reduceEq, Int.reduceLT, Int.reduceLE, arr_pos, arr_neg, ]
     refine ⟨fun _ => ⟨fun _ => ?_, fun _ => ⟨_, ((0 : Int), x, (0 : Int), (0 : Int)), ⟨rfl, rfl, rfl, rfl, rfl⟩, by omega, by omega⟩⟩, fun _ => ⟨_, ((0 : Int), x, (0 : Int), (0 : Int)), ⟨rfl, rfl, rfl, rfl, rfl⟩, by omega, by omega⟩⟩
     refine D_pick1 _ _ _ hb (by omega) (by omega) fun y y0 y1 => ?_; simp (contextual := true) (maxSteps := 1000000) (disch := omega) only [↓Sd, ↓So, ↓Sk, ↓den, ↓denA, Sa, Sb, Sc, Se, O1.d, O2.d, O3.d, cmI, arI, envOf, putN, ↓reduceIte, Nat.reduceLT, Nat.reduceSub, Nat.reduceAdd, Int.reduceAdd, Int.reduceEq, Int.reduceLT, Int.reduceLE, arr_pos, arr_neg, ]
     exact ⟨_, ((1 : Int), y, (0 : Int), (0 : Int)), ⟨rfl, rfl, rfl, rfl, rfl⟩, by omega, by omega⟩
    ·refine mc.wp_join (fun us => ∃ w : Int, us = [⟨I, vars⟩, ⟨I, kind⟩, ⟨I, (k : Int) + 1⟩, ⟨I, o⟩, ⟨I, w⟩, ⟨L U, b⟩, ⟨I, p1 + 1⟩, ⟨L T4, l⟩, ⟨L I, ks⟩, ⟨I, o⟩, ⟨I, (0 : Int)⟩, ⟨I, (0 : Int)⟩, ⟨I, (0 : Int)⟩]) ?_ ?_
     ·simp (contextual := true) (maxSteps := 1000000) (disch := omega) only [↓Sd, ↓So, ↓Sk, ↓den, ↓denA, Sa, Sb, Sc, Se, O1.d, O2.d, O3.d, cmI, arI, envOf, putN, ↓reduceIte, Nat.reduceLT, Nat.reduceSub, Nat.reduceAdd, Int.reduceAdd, Int.reduceEq, Int.reduceLT, Int.reduceLE, arr_pos, arr_neg, ]
      exact ⟨fun _ => ⟨2, rfl⟩, fun _ => ⟨1, rfl⟩⟩
     ·rintro us ⟨w, rfl⟩
      simp (contextual := true) (maxSteps := 1000000) (disch := omega) only [↓Sd, ↓So, ↓Sk, ↓den, ↓denA, Sa, Sb, Sc, Se, O1.d, O2.d, O3.d, cmI, arI, envOf, putN, ↓reduceIte, Nat.reduceLT, Nat.reduceSub, Nat.reduceAdd, Int.reduceAdd, Int.reduceEq, Int.reduceLT, Int.reduceLE, arr_pos, arr_neg, ]
      refine D_l1Pick _ _ _ _ hb (by omega) (by omega) (by omega) fun x hx => ?_
      simp (contextual := true) (maxSteps := 1000000) (disch := omega) only [↓Sd, ↓So, ↓Sk, ↓den, ↓denA, Sa, Sb, Sc, Se, O1.d, O2.d, O3.d, cmI, arI, envOf, putN, ↓reduceIte, Nat.reduceLT, Nat.reduceSub, Nat.reduceAdd, Int.reduceAdd, Int.reduceEq, Int.reduceLT, Int.reduceLE, arr_pos, arr_neg, ]
      refine D_l1Pick _ _ _ _ hb (by omega) (by omega) (by omega) fun y hy => ?_
      simp (contextual := true) (maxSteps := 1000000) (disch := omega) only [↓Sd, ↓So, ↓Sk, ↓den, ↓denA, Sa, Sb, Sc, Se, O1.d, O2.d, O3.d, cmI, arI, envOf, putN, ↓reduceIte, Nat.reduceLT, Nat.reduceSub, Nat.reduceAdd, Int.reduceAdd, Int.reduceEq, Int.reduceLT, Int.reduceLE, arr_pos, arr_neg, C_spec_l1One]
      exact ⟨fun _ => ⟨_, ((7 : Int), (0 : Int), x, x), ⟨rfl, rfl, rfl, rfl, rfl⟩, by omega, by omega⟩, fun _ => ⟨_, (o, (0 : Int), x, y), ⟨rfl, rfl, rfl, rfl, rfl⟩, by omega, by omega⟩⟩
   ·rintro us ⟨p2, t, rfl, c1, c2⟩
    simp (contextual := true) (maxSteps := 1000000) (disch := omega) only [↓Sd, ↓So, ↓Sk, ↓den, ↓denA, Sa, Sb, Sc, Se, O1.d, O2.d, O3.d, cmI, arI, envOf, putN, ↓reduceIte, Nat.reduceLT, Nat.reduceSub, Nat.reduceAdd, Int.reduceAdd, Int.reduceEq, Int.reduceLT, Int.reduceLE, arr_pos, arr_neg, C_spec_l1Kind t ks vars hv (by omega)]
    refine ⟨fun _ => ⟨_, _, _, ⟨rfl, rfl, rfl⟩, ?_, ?_, by omega, by omega⟩, fun _ => ⟨_, _, _, ⟨rfl, rfl, rfl⟩, i1, by omega, by omega, by omega⟩⟩
    ·simp only [List.length_append, List.length_singleton]; omega
    ·simp only [List.length_append, List.length_singleton]; omega
  ·rintro us ⟨p2, l, ks, rfl, a1, a2, a3, a4⟩
   simp (contextual := true) (maxSteps := 1000000) (disch := omega) only [↓Sd, ↓So, ↓Sk, ↓den, ↓denA, Sa, Sb, Sc, Se, O1.d, O2.d, O3.d, cmI, arI, envOf, putN, ↓reduceIte, Nat.reduceLT, Nat.reduceSub, Nat.reduceAdd, Int.reduceAdd, Int.reduceEq, Int.reduceLT, Int.reduceLE, arr_pos, arr_neg, ]
   exact ⟨k, by omega, p2, l, ks, ⟨rfl, rfl, rfl, rfl⟩, a1, a2, a3, a4⟩
theorem D_l2Value (b : List Int) (p : Int) (vs : List Vr) (k : Int) (i : Nat) (hk : k = i) (hb : Rdy b) (hp : 0 ≤ p ∧ p ≤ 700000000) (hv : vs.length ≤ 5) (hi : i < vs.length) {Q : List AV → Prop} (h : ∀ (l : List Tm) (p' : Int), p ≤ p' ∧ p' ≤ p + 500 → l.length ≤ 16 → Q [⟨L T4, l⟩, ⟨RD, (b, p')⟩]) : mc.C f_spec_l2Value [⟨RD, (b, p)⟩, ⟨L V3, vs⟩, ⟨I, k⟩] Q := by
 subst hk
 refine mc.c_of F_spec_l2Value ?_
 simp (contextual := true) (maxSteps := 1000000) (disch := omega) only [↓Sd, ↓So, ↓Sk, ↓den, ↓denA, Sa, Sb, Sc, Se, O1.d, O2.d, O3.d, cmI, arI, envOf, putN, ↓reduceIte, Nat.reduceLT, Nat.reduceSub, Nat.reduceAdd, Int.reduceAdd, Int.reduceEq, Int.reduceLT, Int.reduceLE, arr_pos, arr_neg, tr_spec_l2Value]
 refine D_pick1 _ _ _ hb (by omega) (by omega) fun k k0 k1 => ?_; simp (contextual := true) (maxSteps := 1000000) (disch := omega) only [↓Sd, ↓So, ↓Sk, ↓den, ↓denA, Sa, Sb, Sc, Se, O1.d, O2.d, O3.d, cmI, arI, envOf, putN, ↓reduceIte, Nat.reduceLT, Nat.reduceSub, Nat.reduceAdd, Int.reduceAdd, Int.reduceEq, Int.reduceLT, Int.reduceLE, arr_pos, arr_neg, ]
 refine ⟨fun _ => ?_, fun _ => ⟨fun _ => ?_, fun _ => ⟨fun _ => ?_, fun _ => ?_⟩⟩⟩
 ·simp (contextual := true) (maxSteps := 1000000) (disch := omega) only [↓Sd, ↓So, ↓Sk, ↓den, ↓denA, Sa, Sb, Sc, Se, O1.d, O2.d, O3.d, cmI, arI, envOf, putN, ↓reduceIte, Nat.reduceLT, Nat.reduceSub, Nat.reduceAdd, Int.reduceAdd, Int.reduceEq, Int.reduceLT, Int.reduceLE, arr_pos, arr_neg, C_spec_l2VarOf, C_spec_l2Const]
  refine D_num _ _ _ hb (by omega) (by simp) (by simp) fun o o0 => ?_; simp (contextual := true) (maxSteps := 1000000) (disch := omega) only [↓Sd, ↓So, ↓Sk, ↓den, ↓denA, Sa, Sb, Sc, Se, O1.d, O2.d, O3.d, cmI, arI, envOf, putN, ↓reduceIte, Nat.reduceLT, Nat.reduceSub, Nat.reduceAdd, Int.reduceAdd, Int.reduceEq, Int.reduceLT, Int.reduceLE, arr_pos, arr_neg, ]
  exact h _ _ (by omega) (by simp)
 ·refine D_pick _ _ _ hb (by omega) fun n _ _ => ?_
  simp (contextual := true) (maxSteps := 1000000) (disch := omega) only [↓Sd, ↓So, ↓Sk, ↓den, ↓denA, Sa, Sb, Sc, Se, O1.d, O2.d, O3.d, cmI, arI, envOf, putN, ↓reduceIte, Nat.reduceLT, Nat.reduceSub, Nat.reduceAdd, Int.reduceAdd, Int.reduceEq, Int.reduceLT, Int.reduceLE, arr_pos, arr_neg, ↓wpJoin, C_spec_l2Const]
  exact h _ _ (by omega) (by simp)
 ·refine D_pick1 _ _ _ hb (by omega) (by omega) fun n n0 n1 => ?_; simp (contextual := true) (maxSteps := 1000000) (disch := omega) only [↓Sd, ↓So, ↓Sk, ↓den, ↓denA, Sa, Sb, Sc, Se, O1.d, O2.d, O3.d, cmI, arI, envOf, putN, ↓reduceIte, Nat.reduceLT, Nat.reduceSub, Nat.reduceAdd, Int.reduceAdd, Int.reduceEq, Int.reduceLT, Int.reduceLE, arr_pos, arr_neg, ]
  simp (contextual := true) (maxSteps := 1000000) (disch := omega) only [↓Sd, ↓So, ↓Sk, ↓den, ↓denA, Sa, Sb, Sc, Se, O1.d, O2.d, O3.d, cmI, arI, envOf, putN, ↓reduceIte, Nat.reduceLT, Nat.reduceSub, Nat.reduceAdd, Int.reduceAdd, Int.reduceEq, Int.reduceLT, Int.reduceLE, arr_pos, arr_neg, C_spec_l2VarOf]
  exact h _ _ (by omega) (by simp)
 ·refine D_l1Terms _ _ _ _ _ hb (by omega) (by omega) (by omega) fun l p2 h1 h2 h3 => ?_
  simp (contextual := true) (maxSteps := 1000000) (disch := omega) only [↓Sd, ↓So, ↓Sk, ↓den, ↓denA, Sa, Sb, Sc, Se, O1.d, O2.d, O3.d, cmI, arI, envOf, putN, ↓reduceIte, Nat.reduceLT, Nat.reduceSub, Nat.reduceAdd, Int.reduceAdd, Int.reduceEq, Int.reduceLT, Int.reduceLE, arr_pos, arr_neg, ]
  exact h _ _ (by omega) (by omega)
def SmRu (r : Ru) : Prop := r.1.length ≤ 100 ∧ r.2.1.length ≤ 100 ∧ r.2.2.length ≤ 100 ∧ ∀ x ∈ r.2.2, x.length ≤ 100
def SmR5 (r : Ru) : Prop := r.1.length ≤ 50 ∧ r.2.1.length ≤ 50 ∧ r.2.2.length ≤ 50 ∧ ∀ x ∈ r.2.2, x.length ≤ 50
theorem SmR5.sm {r : Ru} (h : SmR5 r) : SmRu r := ⟨by have := h.1; omega, by have := h.2.1; omega, by have := h.2.2.1; omega, fun x hx => by have := h.2.2.2 x hx; omega⟩
def SmSy (s : Sy) : Prop := s.1.length ≤ 3 ∧ s.2.length ≤ 9 ∧ ∀ r ∈ s.2, SmRu r
theorem SmSy.few {s : Sy} (h : SmSy s) : FewSy s := by
 refine ⟨by have := h.1; unfold Few; omega, by have := h.2.1; unfold Few; omega, fun r hr => ?_⟩
 have h1 := h.2.2 r hr
 exact ⟨by have := h1.1; unfold Few; omega, by have := h1.2.1; unfold Few; omega, by have := h1.2.2.1; unfold Few; omega, fun x hx => by have := h1.2.2.2 x hx; unfold Few; omega⟩
theorem D_l2Rules (b : List Int) (p : Int) (vs : List Vr) (many : Nat) (hb : Rdy b) (hp : 0 ≤ p ∧ p ≤ 600000000) (hv1 : 1 ≤ vs.length) (hv : vs.length ≤ 3) (hm : many ≤ 9) {Q : List AV → Prop} (h : ∀ (l : List Ru) (p' : Int), p ≤ p' ∧ p' ≤ p + 20000 → l.length ≤ many → (∀ r ∈ l, SmR5 r) → Q [⟨L TR, l⟩, ⟨RD, (b, p')⟩]) : mc.C f_spec_l2Rules [⟨RD, (b, p)⟩, ⟨L V3, vs⟩, ⟨I, (many : Int)⟩] Q := by
 refine mc.c_of F_spec_l2Rules ?_
 simp (contextual := true) (maxSteps := 1000000) (disch := omega) only [↓Sd, ↓So, ↓Sk, ↓den, ↓denA, Sa, Sb, Sc, Se, O1.d, O2.d, O3.d, cmI, arI, envOf, putN, ↓reduceIte, Nat.reduceLT, Nat.reduceSub, Nat.reduceAdd, Int.reduceAdd, Int.reduceEq, Int.reduceLT, Int.reduceLE, arr_pos, arr_neg, tr_spec_l2Rules]
 refine mc.lp_for (Int × List Ru) (fun i s => [⟨L V3, vs⟩, ⟨I, (many : Int)⟩, ⟨I, (i : Int)⟩, ⟨L U, b⟩, ⟨I, s.1⟩, ⟨L TR, s.2⟩]) (fun i s => p ≤ s.1 ∧ s.1 ≤ p + 2000 * i ∧ s.2.length = i ∧ ∀ r ∈ s.2, SmR5 r) many 0 (p, []) _ rfl (Nat.zero_le _) ⟨by simp, by simp, rfl, by simp⟩ ?_ ?_
 ·rintro i ⟨p1, l⟩ hi ⟨a1, a2, a3, a4⟩
  simp only at a1 a2 a3 a4
  simp (contextual := true) (maxSteps := 1000000) (disch := omega) only [↓Sd, ↓So, ↓Sk, ↓den, ↓denA, Sa, Sb, Sc, Se, O1.d, O2.d, O3.d, cmI, arI, envOf, putN, ↓reduceIte, Nat.reduceLT, Nat.reduceSub, Nat.reduceAdd, Int.reduceAdd, Int.reduceEq, Int.reduceLT, Int.reduceLE, arr_pos, arr_neg, ]
  refine D_l2When _ _ _ hb (by omega) hv1 (by omega) fun w p2 hp2 hw => ?_
  simp (contextual := true) (maxSteps := 1000000) (disch := omega) only [↓Sd, ↓So, ↓Sk, ↓den, ↓denA, Sa, Sb, Sc, Se, O1.d, O2.d, O3.d, cmI, arI, envOf, putN, ↓reduceIte, Nat.reduceLT, Nat.reduceSub, Nat.reduceAdd, Int.reduceAdd, Int.reduceEq, Int.reduceLT, Int.reduceLE, arr_pos, arr_neg, ]
  refine mc.lp_for (Int × List Int × List (List Tm)) (fun j s => [⟨L V3, vs⟩, ⟨I, (many : Int)⟩, ⟨I, (i : Int)⟩, ⟨I, (j : Int)⟩, ⟨L U, b⟩, ⟨I, s.1⟩, ⟨L TR, l⟩, ⟨L T4, w⟩, ⟨L I, s.2.1⟩, ⟨L (L T4), s.2.2⟩]) (fun j s => p2 ≤ s.1 ∧ s.1 ≤ p2 + 510 * j ∧ s.2.1.length ≤ j ∧ s.2.2.length ≤ j ∧ ∀ x ∈ s.2.2, x.length ≤ 16) vs.length 0 (p2, [], []) _ rfl (Nat.zero_le _) ⟨by simp, by simp, by simp, by simp, by simp⟩ ?_ ?_
  ·rintro j ⟨p3, ss, ts⟩ hj ⟨c1, c2, c3, c4, c5⟩
   simp only at c1 c2 c3 c4 c5
   have app : ∀ (x : List Tm), x.length ≤ 16 → ∀ y ∈ ts ++ [x], y.length ≤ 16 := fun x hx y hy => (List.mem_append.1 hy).elim (c5 y) fun hy => by rw [List.mem_singleton.1 hy]; exact hx
   have l1 : ∀ x, (ss ++ [x]).length = ss.length + 1 := fun x => by simp
   have l2 : ∀ x, (ts ++ [x]).length = ts.length + 1 := fun x => by simp
   simp (contextual := true) (maxSteps := 1000000) (disch := omega) only [↓Sd, ↓So, ↓Sk, ↓den, ↓denA, Sa, Sb, Sc, Se, O1.d, O2.d, O3.d, cmI, arI, envOf, putN, ↓reduceIte, Nat.reduceLT, Nat.reduceSub, Nat.reduceAdd, Int.reduceAdd, Int.reduceEq, Int.reduceLT, Int.reduceLE, arr_pos, arr_neg, ↓wpJoin, ]
   refine D_pick1 _ _ _ hb (by omega) (by omega) fun a a0 a1 => ?_; simp (contextual := true) (maxSteps := 1000000) (disch := omega) only [↓Sd, ↓So, ↓Sk, ↓den, ↓denA, Sa, Sb, Sc, Se, O1.d, O2.d, O3.d, cmI, arI, envOf, putN, ↓reduceIte, Nat.reduceLT, Nat.reduceSub, Nat.reduceAdd, Int.reduceAdd, Int.reduceEq, Int.reduceLT, Int.reduceLE, arr_pos, arr_neg, ]
   refine ⟨fun _ => ?_, fun _ => ⟨fun _ => ⟨fun _ => ?_, fun _ => ?_⟩, fun _ => ?_⟩⟩
   ·refine D_l2Value _ _ _ _ j (by omega) hb (by omega) (by omega) hj fun x p4 hp4 hx => ?_
    simp (contextual := true) (maxSteps := 1000000) (disch := omega) only [↓Sd, ↓So, ↓Sk, ↓den, ↓denA, Sa, Sb, Sc, Se, O1.d, O2.d, O3.d, cmI, arI, envOf, putN, ↓reduceIte, Nat.reduceLT, Nat.reduceSub, Nat.reduceAdd, Int.reduceAdd, Int.reduceEq, Int.reduceLT, Int.reduceLE, arr_pos, arr_neg, ↓wpJoin, ]
    exact ⟨(_, _, _), ⟨rfl, rfl, rfl⟩, by dsimp only; omega, by dsimp only; omega, by dsimp only; rw [l1]; omega, by dsimp only; rw [l2]; omega, app x hx⟩
   ·refine D_pick1 _ _ _ hb (by omega) (by omega) fun c c0 c1 => ?_; simp (contextual := true) (maxSteps := 1000000) (disch := omega) only [↓Sd, ↓So, ↓Sk, ↓den, ↓denA, Sa, Sb, Sc, Se, O1.d, O2.d, O3.d, cmI, arI, envOf, putN, ↓reduceIte, Nat.reduceLT, Nat.reduceSub, Nat.reduceAdd, Int.reduceAdd, Int.reduceEq, Int.reduceLT, Int.reduceLE, arr_pos, arr_neg, ]
    refine ⟨fun _ => ?_, fun _ => ?_⟩
    ·refine D_l2Value _ _ _ _ j (by omega) hb (by omega) (by omega) hj fun x p4 hp4 hx => ?_
     simp (contextual := true) (maxSteps := 1000000) (disch := omega) only [↓Sd, ↓So, ↓Sk, ↓den, ↓denA, Sa, Sb, Sc, Se, O1.d, O2.d, O3.d, cmI, arI, envOf, putN, ↓reduceIte, Nat.reduceLT, Nat.reduceSub, Nat.reduceAdd, Int.reduceAdd, Int.reduceEq, Int.reduceLT, Int.reduceLE, arr_pos, arr_neg, ↓wpJoin, ]
     exact ⟨(_, _, _), ⟨rfl, rfl, rfl⟩, by dsimp only; omega, by dsimp only; omega, by dsimp only; rw [l1]; omega, by dsimp only; rw [l2]; omega, app x hx⟩
    ·exact ⟨(_, _, _), ⟨rfl, rfl, rfl⟩, by dsimp only; omega, by dsimp only; omega, by dsimp only; omega, by dsimp only; omega, c5⟩
   ·exact ⟨(_, _, _), ⟨rfl, rfl, rfl⟩, by dsimp only; omega, by dsimp only; omega, by dsimp only; omega, by dsimp only; omega, c5⟩
   ·exact ⟨(_, _, _), ⟨rfl, rfl, rfl⟩, by dsimp only; omega, by dsimp only; omega, by dsimp only; omega, by dsimp only; omega, c5⟩
  ·rintro ⟨p3, ss, ts⟩ ⟨c1, c2, c3, c4, c5⟩
   simp only at c1 c2 c3 c4 c5
   simp (contextual := true) (maxSteps := 1000000) (disch := omega) only [↓Sd, ↓So, ↓Sk, ↓den, ↓denA, Sa, Sb, Sc, Se, O1.d, O2.d, O3.d, cmI, arI, envOf, putN, ↓reduceIte, Nat.reduceLT, Nat.reduceSub, Nat.reduceAdd, Int.reduceAdd, Int.reduceEq, Int.reduceLT, Int.reduceLE, arr_pos, arr_neg, ]
   refine ⟨(_, _), ⟨rfl, rfl⟩, by dsimp only; omega, by dsimp only; omega, by dsimp only; simp [a3], fun r hr => ?_⟩
   rcases List.mem_append.1 hr with hr | hr
   ·exact a4 r hr
   ·rw [List.mem_singleton.1 hr]
    exact ⟨by dsimp only; omega, by dsimp only; omega, by dsimp only; omega, fun x hx => by have := c5 x hx; omega⟩
 ·rintro ⟨p1, l⟩ ⟨a1, a2, a3, a4⟩
  simp only at a1 a2 a3 a4
  simp (contextual := true) (maxSteps := 1000000) (disch := omega) only [↓Sd, ↓So, ↓Sk, ↓den, ↓denA, Sa, Sb, Sc, Se, O1.d, O2.d, O3.d, cmI, arI, envOf, putN, ↓reduceIte, Nat.reduceLT, Nat.reduceSub, Nat.reduceAdd, Int.reduceAdd, Int.reduceEq, Int.reduceLT, Int.reduceLE, arr_pos, arr_neg, ]
  exact h _ _ (by omega) (by omega) a4
theorem D_l2System (b : List Int) (p most : Int) (hb : Rdy b) (hp : 0 ≤ p ∧ p ≤ 500000000) {Q : List AV → Prop} (h : ∀ (s : Sy) (p' : Int), p ≤ p' ∧ p' ≤ p + 30000 → SmSy s → 1 ≤ s.1.length → s.2.length ≤ 4 → (∀ r ∈ s.2, SmR5 r) → Q [⟨L V3, s.1⟩, ⟨L TR, s.2⟩, ⟨RD, (b, p')⟩]) : mc.C f_spec_l2System [⟨RD, (b, p)⟩, ⟨I, most⟩] Q := by
 refine mc.c_of F_spec_l2System ?_
 simp (contextual := true) (maxSteps := 1000000) (disch := omega) only [↓Sd, ↓So, ↓Sk, ↓den, ↓denA, Sa, Sb, Sc, Se, O1.d, O2.d, O3.d, cmI, arI, envOf, putN, ↓reduceIte, Nat.reduceLT, Nat.reduceSub, Nat.reduceAdd, Int.reduceAdd, Int.reduceEq, Int.reduceLT, Int.reduceLE, arr_pos, arr_neg, tr_spec_l2System]
 refine D_pick1 _ _ _ hb (by omega) (by omega) fun n n0 n1 => ?_; simp (contextual := true) (maxSteps := 1000000) (disch := omega) only [↓Sd, ↓So, ↓Sk, ↓den, ↓denA, Sa, Sb, Sc, Se, O1.d, O2.d, O3.d, cmI, arI, envOf, putN, ↓reduceIte, Nat.reduceLT, Nat.reduceSub, Nat.reduceAdd, Int.reduceAdd, Int.reduceEq, Int.reduceLT, Int.reduceLE, arr_pos, arr_neg, ]
 obtain ⟨N, hN⟩ : ∃ N : Nat, n = N := ⟨n.toNat, by omega⟩
 subst hN
 refine mc.lp_inv (fun k us => ∃ (p1 m : Int) (l : List Vr), us = [⟨I, most⟩, ⟨I, m⟩, ⟨I, (k : Int)⟩, ⟨L U, b⟩, ⟨I, p1⟩, ⟨L V3, l⟩] ∧ l.length + k ≤ 1 + N ∧ p ≤ p1 ∧ p1 + 3 * k ≤ p + 1 + 3 * (1 + N)) (1 + N) _ ⟨p + 1, 1, [], by simp, by simp, by omega, by omega⟩ ?_
 rintro k us ⟨p1, m, l, rfl, i1, i2, i3⟩
 cases k with
 | zero =>
  simp (contextual := true) (maxSteps := 1000000) (disch := omega) only [↓Sd, ↓So, ↓Sk, ↓den, ↓denA, Sa, Sb, Sc, Se, O1.d, O2.d, O3.d, cmI, arI, envOf, putN, ↓reduceIte, Nat.reduceLT, Nat.reduceSub, Nat.reduceAdd, Int.reduceAdd, Int.reduceEq, Int.reduceLT, Int.reduceLE, arr_pos, arr_neg, ]
  refine mc.wp_join (fun us => ∃ (l : List Vr), us = [⟨L U, b⟩, ⟨I, p1⟩, ⟨L V3, l⟩] ∧ 1 ≤ l.length ∧ l.length ≤ 3) ?_ ?_
  ·simp (contextual := true) (maxSteps := 1000000) (disch := omega) only [↓Sd, ↓So, ↓Sk, ↓den, ↓denA, Sa, Sb, Sc, Se, O1.d, O2.d, O3.d, cmI, arI, envOf, putN, ↓reduceIte, Nat.reduceLT, Nat.reduceSub, Nat.reduceAdd, Int.reduceAdd, Int.reduceEq, Int.reduceLT, Int.reduceLE, arr_pos, arr_neg, ]
   exact ⟨fun _ => by omega, fun _ => by omega⟩
  ·rintro us ⟨l, rfl, a1, a2⟩
   simp (contextual := true) (maxSteps := 1000000) (disch := omega) only [↓Sd, ↓So, ↓Sk, ↓den, ↓denA, Sa, Sb, Sc, Se, O1.d, O2.d, O3.d, cmI, arI, envOf, putN, ↓reduceIte, Nat.reduceLT, Nat.reduceSub, Nat.reduceAdd, Int.reduceAdd, Int.reduceEq, Int.reduceLT, Int.reduceLE, arr_pos, arr_neg, ]
   refine D_num _ _ _ hb (by omega) (by simp) (by simp) fun x x0 => ?_; simp (contextual := true) (maxSteps := 1000000) (disch := omega) only [↓Sd, ↓So, ↓Sk, ↓den, ↓denA, Sa, Sb, Sc, Se, O1.d, O2.d, O3.d, cmI, arI, envOf, putN, ↓reduceIte, Nat.reduceLT, Nat.reduceSub, Nat.reduceAdd, Int.reduceAdd, Int.reduceEq, Int.reduceLT, Int.reduceLE, arr_pos, arr_neg, ]
   have hx : 0 ≤ x ∧ x ≤ 4 := by simp only [List.mem_append, List.mem_singleton] at x0; omega
   obtain ⟨y, hy⟩ : ∃ y : Nat, x = y := ⟨x.toNat, by omega⟩
   subst hy
   refine D_l2Rules _ _ _ _ hb (by omega) a1 a2 (by omega) fun rs p2 hp2 h1 h2 => ?_
   simp (contextual := true) (maxSteps := 1000000) (disch := omega) only [↓Sd, ↓So, ↓Sk, ↓den, ↓denA, Sa, Sb, Sc, Se, O1.d, O2.d, O3.d, cmI, arI, envOf, putN, ↓reduceIte, Nat.reduceLT, Nat.reduceSub, Nat.reduceAdd, Int.reduceAdd, Int.reduceEq, Int.reduceLT, Int.reduceLE, arr_pos, arr_neg, ↓wpJoin, ]
   exact h (l, rs) _ (by omega) ⟨a2, by dsimp only; omega, fun r hr => (h2 r hr).sm⟩ a1 (by dsimp only; omega) h2
 | succ k =>
  simp (contextual := true) (maxSteps := 1000000) (disch := omega) only [↓Sd, ↓So, ↓Sk, ↓den, ↓denA, Sa, Sb, Sc, Se, O1.d, O2.d, O3.d, cmI, arI, envOf, putN, ↓reduceIte, Nat.reduceLT, Nat.reduceSub, Nat.reduceAdd, Int.reduceAdd, Int.reduceEq, Int.reduceLT, Int.reduceLE, arr_pos, arr_neg, ]
  refine mc.wp_join (fun us => ∃ (p2 m : Int) (l : List Vr), us = [⟨I, most⟩, ⟨I, m⟩, ⟨I, (k : Int) + 1⟩, ⟨L U, b⟩, ⟨I, p2⟩, ⟨L V3, l⟩] ∧ l.length + k ≤ 1 + N ∧ p ≤ p2 ∧ p2 + 3 * k ≤ p + 1 + 3 * (1 + N)) ?_ ?_
  ·simp (contextual := true) (maxSteps := 1000000) (disch := omega) only [↓Sd, ↓So, ↓Sk, ↓den, ↓denA, Sa, Sb, Sc, Se, O1.d, O2.d, O3.d, cmI, arI, envOf, putN, ↓reduceIte, Nat.reduceLT, Nat.reduceSub, Nat.reduceAdd, Int.reduceAdd, Int.reduceEq, Int.reduceLT, Int.reduceLE, arr_pos, arr_neg, ]
   refine D_num _ _ _ hb (by omega) (by simp) (by simp) fun x x0 => ?_; simp (contextual := true) (maxSteps := 1000000) (disch := omega) only [↓Sd, ↓So, ↓Sk, ↓den, ↓denA, Sa, Sb, Sc, Se, O1.d, O2.d, O3.d, cmI, arI, envOf, putN, ↓reduceIte, Nat.reduceLT, Nat.reduceSub, Nat.reduceAdd, Int.reduceAdd, Int.reduceEq, Int.reduceLT, Int.reduceLE, arr_pos, arr_neg, ]
   have hx : 2 ≤ x ∧ x ≤ 5 := by simp only [List.mem_append, List.mem_singleton] at x0; omega
   refine ⟨fun _ => ?_, fun _ => ⟨_, _, _, ⟨rfl, rfl, rfl⟩, by omega, by omega, by omega⟩⟩
   refine D_num _ _ _ hb (by omega) (by simp) (by simp) fun lo lo0 => ?_; simp (contextual := true) (maxSteps := 1000000) (disch := omega) only [↓Sd, ↓So, ↓Sk, ↓den, ↓denA, Sa, Sb, Sc, Se, O1.d, O2.d, O3.d, cmI, arI, envOf, putN, ↓reduceIte, Nat.reduceLT, Nat.reduceSub, Nat.reduceAdd, Int.reduceAdd, Int.reduceEq, Int.reduceLT, Int.reduceLE, arr_pos, arr_neg, ]
   refine D_pick1 _ _ _ hb (by omega) (by omega) fun d d0 d1 => ?_; simp (contextual := true) (maxSteps := 1000000) (disch := omega) only [↓Sd, ↓So, ↓Sk, ↓den, ↓denA, Sa, Sb, Sc, Se, O1.d, O2.d, O3.d, cmI, arI, envOf, putN, ↓reduceIte, Nat.reduceLT, Nat.reduceSub, Nat.reduceAdd, Int.reduceAdd, Int.reduceEq, Int.reduceLT, Int.reduceLE, arr_pos, arr_neg, ]
   simp (contextual := true) (maxSteps := 1000000) (disch := omega) only [↓Sd, ↓So, ↓Sk, ↓den, ↓denA, Sa, Sb, Sc, Se, O1.d, O2.d, O3.d, cmI, arI, envOf, putN, ↓reduceIte, Nat.reduceLT, Nat.reduceSub, Nat.reduceAdd, Int.reduceAdd, Int.reduceEq, Int.reduceLT, Int.reduceLE, arr_pos, arr_neg, ↓wpJoin, ]
   exact ⟨_, _, _, ⟨rfl, rfl, rfl⟩, by simp only [List.length_append, List.length_singleton]; omega, by omega, by omega⟩
  ·rintro us ⟨p2, m, l, rfl, a1, a2, a3⟩
   simp (contextual := true) (maxSteps := 1000000) (disch := omega) only [↓Sd, ↓So, ↓Sk, ↓den, ↓denA, Sa, Sb, Sc, Se, O1.d, O2.d, O3.d, cmI, arI, envOf, putN, ↓reduceIte, Nat.reduceLT, Nat.reduceSub, Nat.reduceAdd, Int.reduceAdd, Int.reduceEq, Int.reduceLT, Int.reduceLE, arr_pos, arr_neg, ]
   exact ⟨k, by omega, p2, m, l, ⟨rfl, rfl, rfl, rfl⟩, a1, a2, a3⟩
theorem D_l2Any (b : List Int) (p most : Int) (hb : Rdy b) (hp : 0 ≤ p ∧ p ≤ 400000000) {Q : List AV → Prop} (h : ∀ (s : Sy) (p' : Int), p ≤ p' ∧ p' ≤ p + 31000 → SmSy s → Q [⟨L V3, s.1⟩, ⟨L TR, s.2⟩, ⟨RD, (b, p')⟩]) : mc.C f_spec_l2Any [⟨RD, (b, p)⟩, ⟨I, most⟩] Q := by
 refine mc.c_of F_spec_l2Any ?_
 simp (contextual := true) (maxSteps := 1000000) (disch := omega) only [↓Sd, ↓So, ↓Sk, ↓den, ↓denA, Sa, Sb, Sc, Se, O1.d, O2.d, O3.d, cmI, arI, envOf, putN, ↓reduceIte, Nat.reduceLT, Nat.reduceSub, Nat.reduceAdd, Int.reduceAdd, Int.reduceEq, Int.reduceLT, Int.reduceLE, arr_pos, arr_neg, tr_spec_l2Any]
 refine D_l2System _ _ _ hb (by omega) fun s p1 hp1 hs h1 h2 h5 => ?_
 simp (contextual := true) (maxSteps := 1000000) (disch := omega) only [↓Sd, ↓So, ↓Sk, ↓den, ↓denA, Sa, Sb, Sc, Se, O1.d, O2.d, O3.d, cmI, arI, envOf, putN, ↓reduceIte, Nat.reduceLT, Nat.reduceSub, Nat.reduceAdd, Int.reduceAdd, Int.reduceEq, Int.reduceLT, Int.reduceLE, arr_pos, arr_neg, ↓wpJoin, C_spec_l2Const]
 refine D_pick1 _ _ _ hb (by omega) (by omega) fun a a0 a1 => ?_; simp (contextual := true) (maxSteps := 1000000) (disch := omega) only [↓Sd, ↓So, ↓Sk, ↓den, ↓denA, Sa, Sb, Sc, Se, O1.d, O2.d, O3.d, cmI, arI, envOf, putN, ↓reduceIte, Nat.reduceLT, Nat.reduceSub, Nat.reduceAdd, Int.reduceAdd, Int.reduceEq, Int.reduceLT, Int.reduceLE, arr_pos, arr_neg, ]
 refine ⟨fun _ => ?_, fun _ => h _ _ (by omega) hs⟩
 have hV : ∀ (l : List Vr) (p' : Int), l.length ≤ 3 → p ≤ p' ∧ p' ≤ p + 31000 → Q [⟨L V3, l⟩, ⟨L TR, s.2⟩, ⟨RD, (b, p')⟩] := fun l p' hl hp' => h (l, s.2) p' hp' ⟨hl, hs.2.1, hs.2.2⟩
 have hR : ∀ (r : Ru) (p' : Int), SmRu r → p ≤ p' ∧ p' ≤ p + 31000 → Q [⟨L V3, s.1⟩, ⟨L TR, s.2.set 0 r⟩, ⟨RD, (b, p')⟩] := fun r p' hr hp' => h (s.1, s.2.set 0 r) p' hp' ⟨hs.1, by rw [List.length_set]; exact hs.2.1, fun x hx => (List.mem_or_eq_of_mem_set hx).elim (hs.2.2 x) fun e => by rw [e]; exact hr⟩
 have hS1 : (s.1.set 0 (s.1.getD 0 (0, 0, 0))).length ≤ 3 := by rw [List.length_set]; exact hs.1
 have hsl : ∀ x : Vr, (s.1.set 0 x).length ≤ 3 := fun x => by rw [List.length_set]; exact hs.1
 have hb0 : SmR5 (s.2.getD 0 ([], [], [])) := by
  by_cases g : 0 < s.2.length
  ·exact h5 _ (getD_mem g)
  ·rw [List.getD_eq_getElem?_getD, List.getElem?_eq_none (by omega)]; exact ⟨by simp, by simp, by simp, by simp⟩
 refine D_pick1 _ _ _ hb (by omega) (by omega) fun c c0 c1 => ?_; simp (contextual := true) (maxSteps := 1000000) (disch := omega) only [↓Sd, ↓So, ↓Sk, ↓den, ↓denA, Sa, Sb, Sc, Se, O1.d, O2.d, O3.d, cmI, arI, envOf, putN, ↓reduceIte, Nat.reduceLT, Nat.reduceSub, Nat.reduceAdd, Int.reduceAdd, Int.reduceEq, Int.reduceLT, Int.reduceLE, arr_pos, arr_neg, ]
 have q1 := hb0.2.1
 have q2 := hb0.2.2.1
 simp (contextual := true) (maxSteps := 1000000) (disch := omega) only [↓Sd, ↓So, ↓Sk, ↓den, ↓denA, Sa, Sb, Sc, Se, O1.d, O2.d, O3.d, cmI, arI, envOf, putN, ↓reduceIte, Nat.reduceLT, Nat.reduceSub, Nat.reduceAdd, Int.reduceAdd, Int.reduceEq, Int.reduceLT, Int.reduceLE, arr_pos, arr_neg, ↓wpJoin, C_spec_l2Const]
 repeat' first | apply And.intro | intro _
 all_goals first
  | exact hV _ _ (hsl _) (by omega)
  | exact hV _ _ (by simp) (by omega)
  | exact hV _ _ hs.1 (by omega)
  | exact hR _ _ ⟨by simp, hb0.sm.2.1, hb0.sm.2.2.1, hb0.sm.2.2.2⟩ (by omega)
  | exact hR _ _ ⟨hb0.sm.1, by simp only [List.length_append, List.length_singleton]; omega, hb0.sm.2.2.1, hb0.sm.2.2.2⟩ (by omega)
  | exact hR _ _ ⟨hb0.sm.1, hb0.sm.2.1, by simp only [List.length_append, List.length_singleton]; omega, fun x hx => (List.mem_append.1 hx).elim (hb0.sm.2.2.2 x) fun hx => by rw [List.mem_singleton.1 hx]; simp⟩ (by omega)
  | skip
 refine D_num _ _ _ hb (by omega) (by simp) (by simp) fun x x0 => ?_; simp (contextual := true) (maxSteps := 1000000) (disch := omega) only [↓Sd, ↓So, ↓Sk, ↓den, ↓denA, Sa, Sb, Sc, Se, O1.d, O2.d, O3.d, cmI, arI, envOf, putN, ↓reduceIte, Nat.reduceLT, Nat.reduceSub, Nat.reduceAdd, Int.reduceAdd, Int.reduceEq, Int.reduceLT, Int.reduceLE, arr_pos, arr_neg, ]
 simp (contextual := true) (maxSteps := 1000000) (disch := omega) only [↓Sd, ↓So, ↓Sk, ↓den, ↓denA, Sa, Sb, Sc, Se, O1.d, O2.d, O3.d, cmI, arI, envOf, putN, ↓reduceIte, Nat.reduceLT, Nat.reduceSub, Nat.reduceAdd, Int.reduceAdd, Int.reduceEq, Int.reduceLT, Int.reduceLE, arr_pos, arr_neg, ↓wpJoin, ]
 exact hV _ _ (hsl _) (by omega)
theorem D_l10System (b : List Int) (p : Int) (hb : Rdy b) (hp : 0 ≤ p ∧ p ≤ 300000000) {Q : List AV → Prop} (h : ∀ (s : Sy) (p' : Int), p ≤ p' ∧ p' ≤ p + 70000 → SmSy s → Q [⟨L V3, s.1⟩, ⟨L TR, s.2⟩, ⟨RD, (b, p')⟩]) : mc.C f_spec_l10System [⟨RD, (b, p)⟩] Q := by
 refine mc.c_of F_spec_l10System ?_
 simp (contextual := true) (maxSteps := 1000000) (disch := omega) only [↓Sd, ↓So, ↓Sk, ↓den, ↓denA, Sa, Sb, Sc, Se, O1.d, O2.d, O3.d, cmI, arI, envOf, putN, ↓reduceIte, Nat.reduceLT, Nat.reduceSub, Nat.reduceAdd, Int.reduceAdd, Int.reduceEq, Int.reduceLT, Int.reduceLE, arr_pos, arr_neg, tr_spec_l10System]
 refine D_l2Any _ _ _ hb (by omega) fun s p1 hp1 hs => ?_
 simp (contextual := true) (maxSteps := 1000000) (disch := omega) only [↓Sd, ↓So, ↓Sk, ↓den, ↓denA, Sa, Sb, Sc, Se, O1.d, O2.d, O3.d, cmI, arI, envOf, putN, ↓reduceIte, Nat.reduceLT, Nat.reduceSub, Nat.reduceAdd, Int.reduceAdd, Int.reduceEq, Int.reduceLT, Int.reduceLE, arr_pos, arr_neg, ↓wpJoin, ]
 refine D_pick1 _ _ _ hb (by omega) (by omega) fun a a0 a1 => ?_; simp (contextual := true) (maxSteps := 1000000) (disch := omega) only [↓Sd, ↓So, ↓Sk, ↓den, ↓denA, Sa, Sb, Sc, Se, O1.d, O2.d, O3.d, cmI, arI, envOf, putN, ↓reduceIte, Nat.reduceLT, Nat.reduceSub, Nat.reduceAdd, Int.reduceAdd, Int.reduceEq, Int.reduceLT, Int.reduceLE, arr_pos, arr_neg, ]
 refine ⟨fun _ => ?_, fun _ => h _ _ (by omega) hs⟩
 refine D_l2System _ _ _ hb (by omega) fun s p1 hp1 hs h1 h2 h5 => ?_
 simp (contextual := true) (maxSteps := 1000000) (disch := omega) only [↓Sd, ↓So, ↓Sk, ↓den, ↓denA, Sa, Sb, Sc, Se, O1.d, O2.d, O3.d, cmI, arI, envOf, putN, ↓reduceIte, Nat.reduceLT, Nat.reduceSub, Nat.reduceAdd, Int.reduceAdd, Int.reduceEq, Int.reduceLT, Int.reduceLE, arr_pos, arr_neg, ]
 exact h _ _ (by omega) hs
theorem C_laws_wcInts (a b : List Int) (ha : a.length ≤ 1048576) (hb : b.length ≤ 1048576) (Q : List AV → Prop) : mc.C f_laws_wcInts [⟨L I, a⟩, ⟨L I, b⟩] Q = Q [⟨B, decide (a = b)⟩] := by
 refine Mc.Ends.c (mc.ends F_laws_wcInts ?_)
 generalize hK : decide (a = b) = K
 simp (contextual := true) (maxSteps := 1000000) (disch := omega) only [↓Sd, ↓So, ↓Sk, ↓den, ↓denA, Sa, Sb, Sc, Se, O1.d, O2.d, O3.d, cmI, arI, envOf, putN, ↓reduceIte, Nat.reduceLT, Nat.reduceSub, Nat.reduceAdd, Int.reduceAdd, Int.reduceEq, Int.reduceLT, Int.reduceLE, arr_pos, arr_neg, tr_laws_wcInts]
 refine ⟨fun g => ?_, fun g => ?_⟩
 ·rw [← hK, decide_eq_false]; intro h; rw [h] at g; exact absurd rfl g
 ·have hl : a.length = b.length := by omega
  refine lp_all (fun i => [⟨L I, b⟩, ⟨L I, a⟩, ⟨I, (a.length : Int)⟩, ⟨I, (i : Int)⟩]) (fun i => a.getD i 0 = b.getD i 0) a.length _ ?_ ?_ ?_
  ·rw [hl]; rfl
  ·intro i hi
   simp (contextual := true) (maxSteps := 1000000) (disch := omega) only [↓Sd, ↓So, ↓Sk, ↓den, ↓denA, Sa, Sb, Sc, Se, O1.d, O2.d, O3.d, cmI, arI, envOf, putN, ↓reduceIte, Nat.reduceLT, Nat.reduceSub, Nat.reduceAdd, Int.reduceAdd, Int.reduceEq, Int.reduceLT, Int.reduceLE, arr_pos, arr_neg, ]
   intro h
   rw [← hK, decide_eq_false]
   intro h2; rw [h2] at h; exact h rfl
  ·intro h
   simp (contextual := true) (maxSteps := 1000000) (disch := omega) only [↓Sd, ↓So, ↓Sk, ↓den, ↓denA, Sa, Sb, Sc, Se, O1.d, O2.d, O3.d, cmI, arI, envOf, putN, ↓reduceIte, Nat.reduceLT, Nat.reduceSub, Nat.reduceAdd, Int.reduceAdd, Int.reduceEq, Int.reduceLT, Int.reduceLE, arr_pos, arr_neg, ]
   rw [← hK, decide_eq_true]
   refine List.ext_getElem hl fun i h1 h2 => ?_
   have := h i h1
   rwa [getD_lt h1, getD_lt h2] at this
theorem D_l4Some (b : List Int) (p : Int) (s : Sy) (hb : Rdy b) (hp : 0 ≤ p ∧ p ≤ 700000000) (hs : FewSy s) {Q : List AV → Prop} (h : ∀ (l : List Int) (p' : Int), p ≤ p' ∧ p' ≤ p + 500 → l.length ≤ 401 → Q [⟨L I, l⟩, ⟨RD, (b, p')⟩]) : mc.C f_spec_l4Some [⟨RD, (b, p)⟩, ⟨L V3, s.1⟩, ⟨L TR, s.2⟩] Q := by
 refine mc.c_of F_spec_l4Some ?_
 simp (contextual := true) (maxSteps := 1000000) (disch := omega) only [↓Sd, ↓So, ↓Sk, ↓den, ↓denA, Sa, Sb, Sc, Se, O1.d, O2.d, O3.d, cmI, arI, envOf, putN, ↓reduceIte, Nat.reduceLT, Nat.reduceSub, Nat.reduceAdd, Int.reduceAdd, Int.reduceEq, Int.reduceLT, Int.reduceLE, arr_pos, arr_neg, tr_spec_l4Some, C_spec_SizeOf s hs]
 obtain ⟨N, hN, hN2⟩ : ∃ N : Nat, (if valid s then sz s.1 else 0) = N ∧ N ≤ 400 := by
  by_cases g : valid s
  ·have := szn_eq g; exact ⟨szn s.1, by rw [if_pos g]; omega, by omega⟩
  ·exact ⟨0, by rw [if_neg g]; rfl, by omega⟩
 rw [hN]
 refine D_num _ _ _ hb (by omega) (by simp) (by simp) fun k k0 => ?_; simp (contextual := true) (maxSteps := 1000000) (disch := omega) only [↓Sd, ↓So, ↓Sk, ↓den, ↓denA, Sa, Sb, Sc, Se, O1.d, O2.d, O3.d, cmI, arI, envOf, putN, ↓reduceIte, Nat.reduceLT, Nat.reduceSub, Nat.reduceAdd, Int.reduceAdd, Int.reduceEq, Int.reduceLT, Int.reduceLE, arr_pos, arr_neg, ]
 have hk : 1 ≤ k := by simp only [List.mem_append, List.mem_singleton] at k0; omega
 refine mc.lp_for (Int × List Int) (fun i s => [⟨I, (N : Int)⟩, ⟨I, k⟩, ⟨I, (i : Int)⟩, ⟨L U, b⟩, ⟨I, s.1⟩, ⟨L I, s.2⟩]) (fun i s => p ≤ s.1 ∧ s.1 ≤ p + 1 + i ∧ s.2.length ≤ i) N 0 (p + 1, []) _ rfl (Nat.zero_le _) ⟨by dsimp only; omega, by dsimp only; omega, by simp⟩ ?_ ?_
 ·rintro i ⟨p1, l⟩ hi ⟨a1, a2, a3⟩
  simp only at a1 a2 a3
  simp (contextual := true) (maxSteps := 1000000) (disch := omega) only [↓Sd, ↓So, ↓Sk, ↓den, ↓denA, Sa, Sb, Sc, Se, O1.d, O2.d, O3.d, cmI, arI, envOf, putN, ↓reduceIte, Nat.reduceLT, Nat.reduceSub, Nat.reduceAdd, Int.reduceAdd, Int.reduceEq, Int.reduceLT, Int.reduceLE, arr_pos, arr_neg, ↓wpJoin, ]
  refine D_pick1 _ _ _ hb (by omega) (by omega) fun a a0 a1 => ?_; simp (contextual := true) (maxSteps := 1000000) (disch := omega) only [↓Sd, ↓So, ↓Sk, ↓den, ↓denA, Sa, Sb, Sc, Se, O1.d, O2.d, O3.d, cmI, arI, envOf, putN, ↓reduceIte, Nat.reduceLT, Nat.reduceSub, Nat.reduceAdd, Int.reduceAdd, Int.reduceEq, Int.reduceLT, Int.reduceLE, arr_pos, arr_neg, ]
  exact ⟨fun _ => ⟨(_, _), ⟨rfl, rfl⟩, by dsimp only; omega, by dsimp only; omega, by simp only [List.length_append, List.length_singleton]; omega⟩, fun _ => ⟨(_, _), ⟨rfl, rfl⟩, by dsimp only; omega, by dsimp only; omega, by dsimp only; omega⟩⟩
 ·rintro ⟨p1, l⟩ ⟨a1, a2, a3⟩
  simp only at a1 a2 a3
  simp (contextual := true) (maxSteps := 1000000) (disch := omega) only [↓Sd, ↓So, ↓Sk, ↓den, ↓denA, Sa, Sb, Sc, Se, O1.d, O2.d, O3.d, cmI, arI, envOf, putN, ↓reduceIte, Nat.reduceLT, Nat.reduceSub, Nat.reduceAdd, Int.reduceAdd, Int.reduceEq, Int.reduceLT, Int.reduceLE, arr_pos, arr_neg, ↓wpJoin, ]
  refine D_pick1 _ _ _ hb (by omega) (by omega) fun a a0 a1 => ?_; simp (contextual := true) (maxSteps := 1000000) (disch := omega) only [↓Sd, ↓So, ↓Sk, ↓den, ↓denA, Sa, Sb, Sc, Se, O1.d, O2.d, O3.d, cmI, arI, envOf, putN, ↓reduceIte, Nat.reduceLT, Nat.reduceSub, Nat.reduceAdd, Int.reduceAdd, Int.reduceEq, Int.reduceLT, Int.reduceLE, arr_pos, arr_neg, ]
  refine ⟨fun _ => ?_, fun _ => h _ _ (by omega) (by omega)⟩
  refine D_num _ _ _ hb (by omega) (by simp) (by simp) fun x x0 => ?_; simp (contextual := true) (maxSteps := 1000000) (disch := omega) only [↓Sd, ↓So, ↓Sk, ↓den, ↓denA, Sa, Sb, Sc, Se, O1.d, O2.d, O3.d, cmI, arI, envOf, putN, ↓reduceIte, Nat.reduceLT, Nat.reduceSub, Nat.reduceAdd, Int.reduceAdd, Int.reduceEq, Int.reduceLT, Int.reduceLE, arr_pos, arr_neg, ]
  exact h _ _ (by omega) (by simp only [List.length_append, List.length_singleton]; omega)
def hw1 (s : Sy) (l : List Tm) (X : List Int) (x : Int) : Prop := holdsN s l x.toNat = true → ∀ y ∈ (steps s).getD x.toNat [], y ∈ X → holdsN s l y.toNat = true
def hw (s : Sy) (l : List Tm) (X : List Int) : Prop := ∀ x ∈ X, hw1 s l X x
theorem dg_num {l : List Vr} {st : List Int} (hv : ∀ v ∈ l, vOk v) (hst : inR l st) : ∀ {j : Nat}, j ≤ l.length → dg (l.drop (l.length - j)) (num l st) = (numN l st (l.length - j), st.drop (l.length - j))
 | 0, _ => by
  have h1 : l.drop (l.length - 0) = [] := by simp
  have h2 : st.drop (l.length - 0) = [] := by rw [← hst.1]; simp
  rw [h1, h2]; rfl
 | j + 1, hj => by
  have ih := dg_num hv hst (j := j) (by omega)
  obtain ⟨k, hk⟩ : ∃ k, l.length - (j + 1) = k := ⟨_, rfl⟩
  have hk1 : l.length - j = k + 1 := by omega
  have hkl : k < l.length := by omega
  rw [hk1] at ih
  rw [hk, dg_next hkl, ih]
  have h1 := hst.2 k hkl
  have h3 := wd_ok (hv _ (getD_mem (d := (0, 0, 0)) hkl))
  have h6 : wd (l.getD k (0, 0, 0)) = (l.getD k (0, 0, 0)).2.1 - (l.getD k (0, 0, 0)).1 + 1 := rfl
  have hst1 := hst.1
  rw [drop_cons (l := st) (d := 0) (show k < st.length by omega)]
  simp only [numN]
  generalize wd (l.getD k (0, 0, 0)) = w at *
  generalize (l.getD k (0, 0, 0)) = v at *
  generalize st.getD k 0 = x at *
  generalize numN l st k = a at *
  have e : a * w + x - v.1 = (x - v.1) + a * w := by omega
  have e1 : (x - v.1 + a * w) / w = a := by rw [Int.add_mul_ediv_right _ _ (by omega), Int.ediv_eq_zero_of_lt (by omega) (by omega)]; omega
  have e2 : (x - v.1 + a * w) % w = x - v.1 := by rw [Int.add_mul_emod_self_right, Int.emod_eq_of_lt (by omega) (by omega)]
  rw [e, e1, e2]
  congr 2
  omega
theorem stAt_num {l : List Vr} {st : List Int} (hv : ∀ v ∈ l, vOk v) (hst : inR l st) : stAt l (num l st) = st := by
 have := dg_num hv hst (Nat.le_refl _)
 rw [Nat.sub_self, List.drop_zero, List.drop_zero] at this
 rw [stAt, this]
def fst1 (p : Nat → Bool) : Nat → Int
 | 0 => -1
 | n + 1 => if 0 ≤ fst1 p n then fst1 p n else if p n = true then (n : Int) else -1
def rbt (s : Sy) (a b : List Int) : Int := fst1 (fun r => decide (useM s.1 (s.2.getD r ([], [], [])) a ≠ [] ∧ useM s.1 (s.2.getD r ([], [], [])) a = b)) s.2.length
def IsPrd (T : List (List Int)) (f : Nat → Int) (n k a : Nat) : Prop := a < n ∧ f a + 1 = f k ∧ (k : Int) ∈ T.getD a [] ∧ ∀ b, b < a → ¬ (f b + 1 = f k ∧ (k : Int) ∈ T.getD b [])
def Chain (T : List (List Int)) (f : Nat → Int) (n k D : Nat) (ch : Nat → Nat) : Prop := ch D = k ∧ (∀ e, e < D → IsPrd T f n (ch (e + 1)) (ch e)) ∧ ∀ e, e ≤ D → ch e < n ∧ f (ch e) = e
theorem Chain.few {T : List (List Int)} {f : Nat → Int} {n k D : Nat} {ch : Nat → Nat} (h : Chain T f n k D ch) : D < n := by
 have key : ∀ e, e ≤ D → e < (upTo (fun k => decide (0 ≤ f k ∧ f k ≤ (e : Int))) n).length := by
  intro e
  induction e with
  | zero =>
   intro _
   have h1 := h.2.2 0 (by omega)
   exact upTo_pos.2 ⟨ch 0, h1.1, decide_eq_true (by omega)⟩
  | succ e ih =>
   intro he
   have h1 := ih (by omega)
   have h2 := h.2.2 (e + 1) he
   have h3 := upTo_mono (p := fun k => decide (0 ≤ f k ∧ f k ≤ (e : Int))) (q := fun k => decide (0 ≤ f k ∧ f k ≤ ((e + 1 : Nat) : Int))) (n := n) fun k _ hk => decide_eq_true (by have := of_decide_eq_true hk; omega)
   by_cases g : (upTo (fun k => decide (0 ≤ f k ∧ f k ≤ ((e + 1 : Nat) : Int))) n).length ≤ (upTo (fun k => decide (0 ≤ f k ∧ f k ≤ (e : Int))) n).length
   ·have h4 := h3.2 g (ch (e + 1)) h2.1 (decide_eq_true (by omega))
    have h5 := of_decide_eq_true h4
    omega
   ·omega
 have h1 := key D (Nat.le_refl _)
 have h2 := @upTo_len (fun k => decide (0 ≤ f k ∧ f k ≤ (D : Int))) n
 omega
structure IsRun (s : Sy) (D : Nat) (f : Nat → List Int) : Prop where
 few : D < 500
 first : f 0 = fst0 s.1
 inr : ∀ e, e ≤ D → inR s.1 (f e)
 rule : ∀ e, e < D → 0 ≤ rbt s (f e) (f (e + 1))
theorem IsRun.len {s : Sy} {D : Nat} {f : Nat → List Int} (hv : valid s) (h : IsRun s D f) {e : Nat} (he : e ≤ D) : (f e).length ≤ 1048576 := by
 have := (h.inr e he).1
 have := hv.1.2
 omega
def SmSS (l : List (List Int)) : Prop := l.length ≤ 4000 ∧ ∀ x ∈ l, x.length ≤ 4000
theorem SmSS.row {l : List (List Int)} (h : SmSS l) (i : Nat) : (l.getD i []).length ≤ 4000 := by
 by_cases hi : i < l.length
 ·exact h.2 _ (getD_mem hi)
 ·rw [List.getD_eq_getElem?_getD, List.getElem?_eq_none (by omega)]; simp
theorem dg_drop {l : List Vr} {n : Int} : ∀ {k : Nat}, k ≤ l.length → (dg l n).2.drop k = (dg (l.drop k) n).2
 | 0, _ => rfl
 | k + 1, hk => by
  have ih := dg_drop (l := l) (n := n) (k := k) (by omega)
  rw [dg_next (n := n) (show k < l.length by omega)] at ih
  rw [← List.drop_drop, ih]
  rfl
theorem stAt_get {l : List Vr} {n : Int} {k : Nat} (hk : k < l.length) : (stAt l n).getD k 0 = (l.getD k (0, 0, 0)).1 + (dg (l.drop (k + 1)) n).1 % wd (l.getD k (0, 0, 0)) := by
 have h := dg_drop (l := l) (n := n) (k := k) (by omega)
 rw [dg_next (n := n) hk] at h
 have hl : k < (stAt l n).length := by rw [stAt, dg_len]; exact hk
 rw [← stAt, drop_cons (d := 0) hl] at h
 exact (List.cons.inj h).1
theorem num_dg {l : List Vr} {n : Int} : ∀ {k : Nat}, k ≤ l.length → (dg (l.drop k) n).1 = (dg l n).1 * sz (l.take k) + numN l (stAt l n) k
 | 0, _ => by simp [numN, sz]
 | k + 1, hk => by
  have ih := num_dg (l := l) (n := n) (k := k) (by omega)
  rw [dg_next (n := n) (show k < l.length by omega)] at ih
  simp only at ih
  have h2 := stAt_get (l := l) (n := n) (k := k) (by omega)
  have h3 := Int.mul_ediv_add_emod (dg (l.drop (k + 1)) n).1 (wd (l.getD k (0, 0, 0)))
  rw [sz_next (d := (0, 0, 0)) (show k < l.length by omega)]
  simp only [numN]
  rw [h2]
  rw [ih, Int.mul_add, Int.mul_comm _ ((dg l n).1 * sz (l.take k)), Int.mul_comm _ (numN l (stAt l n) k), Int.mul_assoc] at h3
  omega
theorem num_stAt {l : List Vr} {n : Int} (hv : ∀ v ∈ l, vOk v) (hn : 0 ≤ n ∧ n < sz l) (hs : sz l ≤ 400) : num l (stAt l n) = n := by
 have h1 := num_dg (l := l) (n := n) (Nat.le_refl _)
 rw [List.take_length, List.drop_length] at h1
 have h2 := num_bd hv (stAt_in (n := n) hv (by omega))
 have h3 := (dg_bd (n := n) hv (by omega)).1
 have h4 : n = (dg l n).1 * sz l + num l (stAt l n) := h1
 have h5 : (dg l n).1 = 0 := by
  refine Classical.byContradiction fun g => ?_
  have h6 : 1 * sz l ≤ (dg l n).1 * sz l := Int.mul_le_mul_of_nonneg_right (by omega) (by omega)
  omega
 rw [h5] at h4
 omega
theorem num_stN {s : Sy} (h : valid s) {k : Nat} (hk : k < szn s.1) : num s.1 (stN s k) = k := by
 have := szn_eq h
 exact num_stAt h.2.2.1 (by omega) h.2.2.2.2
def FewSS (F : List (List Tm)) : Prop := Few F ∧ ∀ x ∈ F, Few x
theorem FewSS.row {F : List (List Tm)} (h : FewSS F) (i : Nat) : Few (F.getD i []) := by
 by_cases hi : i < F.length
 ·exact h.2 _ (getD_mem hi)
 ·rw [List.getD_eq_getElem?_getD, List.getElem?_eq_none (by omega)]; simp [Few]
theorem SmSS.few {l : List (List Int)} (h : SmSS l) : l.length ≤ 1048576 ∧ ∀ x ∈ l, x.length ≤ 1048576 := ⟨by have := h.1; omega, fun x hx => by have := h.2 x hx; omega⟩
def bits (s : Sy) (X : List Int) : List (List Int) := X.map fun x => sb s (stN s x.toNat)
theorem vb_inj {a b w : Nat} (ha : a < 2 ^ w) (hb : b < 2 ^ w) (h : vb a w = vb b w) : a = b := by
 refine Nat.eq_of_testBit_eq fun j => ?_
 by_cases hj : j < w
 ·have h1 := congrArg (fun l => l.getD (w - 1 - j) 0) h
  simp only [vb, tab_get (show w - 1 - j < w by omega), show w - 1 - (w - 1 - j) = j by omega] at h1
  rw [Nat.testBit_eq_decide_div_mod_eq, Nat.testBit_eq_decide_div_mod_eq]
  have : a / 2 ^ j % 2 = b / 2 ^ j % 2 := by omega
  rw [this]
 ·have hp : 2 ^ w ≤ 2 ^ j := Nat.pow_le_pow_right (by omega) (by omega)
  rw [Nat.testBit_lt_two_pow (by omega), Nat.testBit_lt_two_pow (by omega)]
theorem bn_lt {w : Int} (h : 1 ≤ w ∧ w ≤ 20) : w.toNat ≤ 2 ^ (bn w).toNat := by
 unfold bn
 split
 ·simp; omega
 split
 ·simp; omega
 split
 ·simp; omega
 split
 ·simp; omega
 split
 ·simp; omega
 ·simp; omega
theorem sbN_inj {s : Sy} (h : valid s) {a b : List Int} (ha : inR s.1 a) (hb : inR s.1 b) : ∀ {i : Nat}, i ≤ s.1.length → sbN s.1 a i = sbN s.1 b i → ∀ j, j < i → a.getD j 0 = b.getD j 0
 | 0, _, _, j, hj => absurd hj (Nat.not_lt_zero _)
 | i + 1, hi, he, j, hj => by
  simp only [sbN] at he
  have hl : (sbN s.1 a i).length = (sbN s.1 b i).length := by
   have h1 := @sbN_len s.1 a i
   have h2 := @sbN_len s.1 b i
   omega
  obtain ⟨h1, h2⟩ := List.append_inj he hl
  rcases Nat.lt_succ_iff_lt_or_eq.1 hj with hj | rfl
  ·exact sbN_inj h ha hb (by omega) h1 j hj
  ·have hv := h.2.2.1 _ (getD_mem (d := (0, 0, 0)) hi)
   have a1 := ha.2 j hi
   have b1 := hb.2 j hi
   unfold bw at h2
   generalize s.1.getD j (0, 0, 0) = v at hv a1 b1 h2
   unfold vOk at hv
   have hw : 1 ≤ wd v ∧ wd v ≤ 20 := by unfold wd; omega
   have hw2 := bn_lt hw
   have hwe : wd v = v.2.1 - v.1 + 1 := rfl
   have := vb_inj (by omega) (by omega) h2
   omega
theorem sb_inj {s : Sy} (h : valid s) {a b : List Int} (ha : inR s.1 a) (hb : inR s.1 b) (he : sb s a = sb s b) : a = b := by
 have h1 := sbN_inj h ha hb (Nat.le_refl _) he
 have la := ha.1
 have lb := hb.1
 refine List.ext_getElem (by omega) fun i h2 h3 => ?_
 have := h1 i (by omega)
 rwa [getD_lt h2, getD_lt h3] at this
def lastP (p : List Int) : Nat := (p.getD (p.length - 1) 0).toNat
theorem lastP_app {p : List Int} {x : Int} : lastP (p ++ [x]) = x.toNat := by simp [lastP]
def Lpq (T : List (List Int)) (g : Nat → Bool) : List Int → List Int → Prop
 | p, [] => g (lastP p) = false
 | p, x :: q => g (lastP p) = true ∧ x ∈ T.getD (lastP p) [] ∧ ¬ x ∈ p ∧ Lpq T g (p ++ [x]) q
theorem Lpq.mono {T : List (List Int)} {g : Nat → Bool} : ∀ {q p p' : List Int}, Lpq T g p q → (∀ y ∈ p', y ∈ p) → lastP p' = lastP p → Lpq T g p' q
 | [], p, p', h, h1, h2 => by
  have h : g (lastP p) = false := h
  show g (lastP p') = false
  rw [h2]; exact h
 | x :: q, p, p', h, h1, h2 => by
  obtain ⟨h3, h4, h5, h6⟩ := h
  refine ⟨by rw [h2]; exact h3, by rw [h2]; exact h4, fun h => h5 (h1 x h), h6.mono (fun y hy => ?_) (by rw [lastP_app, lastP_app])⟩
  rcases List.mem_append.1 hy with hy | hy
  ·exact List.mem_append_left _ (h1 y hy)
  ·exact List.mem_append_right _ hy
structure Tj where
 c : Nat
 o : Nat → Nat
 lw : Nat → Nat
 st : List Nat
 out : Nat → Int
structure TInv (U : List (List Int)) (n : Nat) (p : Nat → Bool) (s : Tj) (G : List Nat) : Prop where
 lt : ∀ k, s.o k ≠ 0 → k < n ∧ p k = true
 cnt : ∀ k, s.o k ≤ s.c
 stv : ∀ k, k ∈ s.st ↔ s.o k ≠ 0 ∧ s.out k < 0
 ord : s.st.Pairwise (fun a b => s.o a < s.o b)
 outs : ∀ k, s.out k < 0 → s.out k = -1
 outv : ∀ k, 0 ≤ s.out k → s.o k ≠ 0
 clsd : ∀ k y : Nat, 0 ≤ s.out k → (y : Int) ∈ U.getD k [] → 0 ≤ s.out y
 outc : ∀ k, 0 ≤ s.out k → s.out k = cmp U n k
 blk : ∀ k y : Nat, s.o k ≠ 0 → k ∉ G → (y : Int) ∈ U.getD k [] → s.o y ≠ 0
 gst : ∀ g ∈ G, g ∈ s.st
 low : ∀ y ∈ s.st, ∃ g ∈ G, s.o g ≤ s.o y ∧ Rch U [(y : Int)] g
 acc : ∀ g ∈ G, ∀ y ∈ s.st, s.o g ≤ s.o y → Rch U [(g : Int)] y
 cc : s.c + cntF (fun k => decide (s.o k ≠ 0)) n ≤ n
 len : s.st.length ≤ s.c
structure TExt (s s' : Tj) : Prop where
 c : s.c ≤ s'.c
 old : ∀ k, s.o k ≠ 0 → s'.o k = s.o k ∧ s'.lw k = s.lw k ∧ s'.out k = s.out k
 new : ∀ k, s.o k = 0 → s'.o k ≠ 0 → s.c < s'.o k
theorem TExt.trans  {a b c : Tj} (h : TExt a b) (h2 : TExt b c) : TExt a c := by
 refine ⟨Nat.le_trans h.c h2.c, fun k hk => ?_, fun k hk hc => ?_⟩
 ·obtain ⟨e1, e2, e3⟩ := h.old k hk
  obtain ⟨f1, f2, f3⟩ := h2.old k (by rw [e1]; exact hk)
  exact ⟨f1.trans e1, f2.trans e2, f3.trans e3⟩
 ·by_cases hb : b.o k = 0
  ·exact Nat.lt_of_le_of_lt h.c (h2.new k hb hc)
  ·rw [(h2.old k hb).1]; exact h.new k hk hb
def Tj.push (s : Tj) (v : Nat) : Tj := ⟨s.c + 1, fun k => if k = v then s.c + 1 else s.o k, fun k => if k = v then s.c + 1 else s.lw k, s.st ++ [v], s.out⟩
def IsBot (l : List Int) (M : Int) : Prop := M ∈ l ∧ ∀ x ∈ l, M ≤ x
theorem IsBot.eq {l : List Int} {M N : Int} (h : IsBot l M) (h2 : IsBot l N) : M = N := Int.le_antisymm (h.2 _ h2.1) (h2.2 _ h.1)
theorem TInv.few {U : List (List Int)} {n : Nat} {p : Nat → Bool} {s : Tj} {G : List Nat} (h : TInv U n p s G) : s.c ≤ n ∧ s.st.length ≤ n := by
 have h1 := h.cc
 have h2 := h.len
 omega
def dvr (F : List (Int × Int × Int)) (V : Nat) (n : Int) : Int := if n < 2 then (V : Int) else (F.getD (n - 2).toNat (0, 0, 0)).1
def fkOk (F : List (Int × Int × Int)) (V i : Nat) (f : Int × Int × Int) : Prop :=
 (0 ≤ f.1 ∧ f.1 < (V : Int)) ∧ (0 ≤ f.2.1 ∧ f.2.1 ≤ (i : Int) + 1) ∧ (0 ≤ f.2.2 ∧ f.2.2 ≤ (i : Int) + 1) ∧ f.1 < dvr F V f.2.1 ∧ f.1 < dvr F V f.2.2 ∧ f.2.1 ≠ f.2.2
structure Dia (F : List (Int × Int × Int)) (V : Nat) : Prop where
 ok : ∀ i, i < F.length → fkOk F V i (F.getD i (0, 0, 0))
 nd : F.Nodup
inductive Cn (F : List (Int × Int × Int)) (V : Nat) : Int → Nat → Int → Prop
 | leaf {n : Int} {v : Nat} {c : Int} : n = 0 ∨ n = 1 → v ≤ V → c = n * 2 ^ (V - v) → Cn F V n v c
 | fork {n : Int} {v : Nat} {c : Int} {i w : Nat} {lo hi a b : Int} : n = (i : Int) + 2 → i < F.length → F.getD i (0, 0, 0) = ((w : Int), lo, hi) → v ≤ w → w < V → Cn F V lo (w + 1) a → Cn F V hi (w + 1) b → c = (a + b) * 2 ^ (w - v) → Cn F V n v c
theorem getD_app {α : Type} {F G : List α} {i : Nat} {d : α} (h : i < F.length) : (F ++ G).getD i d = F.getD i d := by
 rw [List.getD_eq_getElem?_getD, List.getElem?_append_left h, ← List.getD_eq_getElem?_getD]
theorem getD_app1 {α : Type} {F : List α} {f d : α} : (F ++ [f]).getD F.length d = f := by
 simp [List.getD_eq_getElem?_getD]
theorem dvr_app {F G : List (Int × Int × Int)} {V : Nat} {n : Int} (h : n ≤ (F.length : Int) + 1) : dvr (F ++ G) V n = dvr F V n := by
 unfold dvr
 split
 ·rfl
 ·rw [getD_app (by omega)]
theorem fkOk_app {F G : List (Int × Int × Int)} {V i : Nat} {f : Int × Int × Int} (h : fkOk F V i f) (hi : i ≤ F.length) : fkOk (F ++ G) V i f := by
 obtain ⟨h1, h2, h3, h4, h5, h6⟩ := h
 exact ⟨h1, h2, h3, by rw [dvr_app (by omega)]; exact h4, by rw [dvr_app (by omega)]; exact h5, h6⟩
theorem Dia.push {F : List (Int × Int × Int)} {V : Nat} {f : Int × Int × Int} (h : Dia F V) (hf : fkOk F V F.length f) (hn : f ∉ F) : Dia (F ++ [f]) V := by
 refine ⟨fun i hi => ?_, ?_⟩
 ·rw [List.length_append, List.length_singleton] at hi
  by_cases he : i = F.length
  ·rw [he, getD_app1]; exact fkOk_app hf (Nat.le_refl _)
  ·rw [getD_app (by omega)]; exact fkOk_app (h.ok i (by omega)) (by omega)
 ·rw [List.nodup_append]
  exact ⟨h.nd, by simp, fun a ha b hb g => hn (by rw [List.mem_singleton.1 hb] at g; rw [← g]; exact ha)⟩
theorem Cn.mono {F G : List (Int × Int × Int)} {V : Nat} {n : Int} {v : Nat} {c : Int} (h : Cn F V n v c) : Cn (F ++ G) V n v c := by
 induction h with
 | leaf h1 h2 h3 => exact .leaf h1 h2 h3
 | fork h1 h2 h3 h4 h5 _ _ h8 ih1 ih2 => exact .fork h1 (by rw [List.length_append]; omega) (by rw [getD_app h2]; exact h3) h4 h5 ih1 ih2 h8
theorem two_pow_pos (k : Nat) : (1 : Int) ≤ 2 ^ k := Int.pow_pos (by omega)
theorem Cn.bd {F : List (Int × Int × Int)} {V : Nat} {n : Int} {v : Nat} {c : Int} (h : Cn F V n v c) : (0 ≤ c ∧ c ≤ 2 ^ (V - v)) ∧ v ≤ V ∧ 0 ≤ n ∧ n ≤ (F.length : Int) + 1 := by
 induction h with
 | @leaf n v c h1 h2 h3 =>
  have := two_pow_pos (V - v)
  refine ⟨?_, h2, by omega, by omega⟩
  rcases h1 with rfl | rfl <;> omega
 | @fork n v c i w lo hi a b h1 h2 h3 h4 h5 _ _ h8 ih1 ih2 =>
  refine ⟨?_, by omega, by omega, by omega⟩
  obtain ⟨⟨a1, a2⟩, -⟩ := ih1
  obtain ⟨⟨b1, b2⟩, -⟩ := ih2
  have e : (2 : Int) ^ (V - v) = 2 ^ (V - (w + 1)) * 2 * 2 ^ (w - v) := by
   rw [← Int.pow_succ, ← Int.pow_add]; congr 1; omega
  have hp := two_pow_pos (w - v)
  rw [h8, e]
  exact ⟨Int.mul_nonneg (by omega) (by omega), Int.mul_le_mul_of_nonneg_right (by omega) (by omega)⟩
theorem Cn.up {F : List (Int × Int × Int)} {V : Nat} {n : Int} {v : Nat} {c : Int} (h : Cn F V n (v + 1) c) : Cn F V n v (c + c) := by
 have key : ∀ {u : Nat} {c : Int}, Cn F V n u c → u = v + 1 → Cn F V n v (c + c) := by
  intro u c h hu
  cases h with
  | leaf h1 h2 h3 =>
   refine .leaf h1 (by omega) ?_
   rw [h3, show V - v = (V - u) + 1 by omega, Int.pow_succ, ← Int.mul_assoc]; omega
  | @fork _ _ _ i w lo hi a b h1 h2 h3 h4 h5 h6 h7 h8 =>
   refine .fork h1 h2 h3 (by omega) h5 h6 h7 ?_
   rw [h8, show w - v = (w - u) + 1 by omega, Int.pow_succ, ← Int.mul_assoc]; omega
 exact key h rfl
theorem Cn.eq {F : List (Int × Int × Int)} {V : Nat} {n : Int} {v : Nat} {c : Int} (h : Cn F V n v c) : ∀ {d : Int}, Cn F V n v d → c = d := by
 induction h with
 | leaf h1 h2 h3 =>
  intro d hd
  cases hd with
  | leaf g1 g2 g3 => rw [h3, g3]
  | fork g1 g2 => omega
 | fork h1 h2 h3 h4 h5 _ _ h8 ih1 ih2 =>
  intro d hd
  cases hd with
  | leaf g1 g2 g3 => omega
  | @fork _ _ _ i w lo hi a b g1 g2 g3 g4 g5 g6 g7 g8 =>
   rename_i j x lo' hi' a' b' _ _
   have hij : j = i := by omega
   subst hij
   rw [h3] at g3
   simp only [Prod.mk.injEq] at g3
   obtain ⟨e1, e2, e3⟩ := g3
   have : x = w := by omega
   subst this
   subst e2; subst e3
   rw [h8, g8, ih1 g6, ih2 g7]
def bigC (F : List (Int × Int × Int)) (V : Nat) : Nat := (F.filter fun f => decide (f.1 + 3 ≤ (V : Int))).length
theorem bigC_push {F : List (Int × Int × Int)} {V : Nat} {f : Int × Int × Int} : bigC (F ++ [f]) V = bigC F V + if f.1 + 3 ≤ (V : Int) then 1 else 0 := by
 unfold bigC
 rw [List.filter_append, List.length_append]
 congr 1
 by_cases h : f.1 + 3 ≤ (V : Int)
 ·rw [if_pos h]; simp [h]
 ·rw [if_neg h]; simp [h]
def plc (F : List (Int × Int × Int)) (n : Int) : Nat := if n < 2 then n.toNat else if (F.getD (n - 2).toNat (0, 0, 0)).2.1 = 0 then 2 else 3
theorem Dia.last {F : List (Int × Int × Int)} {V : Nat} (h : Dia F V) {i : Nat} (hi : i < F.length) (hv : (F.getD i (0, 0, 0)).1 + 1 = (V : Int)) :
  F.getD i (0, 0, 0) = ((V : Int) - 1, 0, 1) ∨ F.getD i (0, 0, 0) = ((V : Int) - 1, 1, 0) := by
 have h1 := h.ok i hi
 have hle : ∀ n : Int, 0 ≤ n → n ≤ (i : Int) + 1 → (F.getD i (0, 0, 0)).1 < dvr F V n → n < 2 := by
  intro n g0 g1 g2
  refine Classical.byContradiction fun g => ?_
  unfold dvr at g2
  rw [if_neg g] at g2
  have := (h.ok (n - 2).toNat (by omega)).1
  omega
 generalize F.getD i (0, 0, 0) = f at h1 hv hle
 obtain ⟨x, lo, hi⟩ := f
 obtain ⟨h1, h2, h3, h4, h5, h6⟩ := h1
 dsimp only at *
 have := hle lo h2.1 h2.2 h4
 have := hle hi h3.1 h3.2 h5
 rcases (by omega : lo = 0 ∧ hi = 1 ∨ lo = 1 ∧ hi = 0) with ⟨rfl, rfl⟩ | ⟨rfl, rfl⟩
 ·left; rw [show x = (V : Int) - 1 by omega]
 ·right; rw [show x = (V : Int) - 1 by omega]
theorem getD_inj {F : List (Int × Int × Int)} (h : F.Nodup) {i j : Nat} (hi : i < F.length) (hj : j < F.length) (he : F.getD i (0, 0, 0) = F.getD j (0, 0, 0)) : i = j := by
 rw [getD_lt hi, getD_lt hj] at he
 exact (List.getElem_inj h).1 he
def nearE (F : List (Int × Int × Int)) (V : Nat) (n : Int) : Prop := (0 ≤ n ∧ n ≤ (F.length : Int) + 1) ∧ (V : Int) - 1 ≤ dvr F V n
theorem plc_lt {F : List (Int × Int × Int)} {V : Nat} {n : Int} (h : nearE F V n) : plc F n < 4 := by
 unfold plc
 have := h.1
 split
 ·omega
 ·split <;> omega
theorem plc_inj {F : List (Int × Int × Int)} {V : Nat} (hD : Dia F V) {n m : Int} (hn : nearE F V n) (hm : nearE F V m) (he : plc F n = plc F m) : n = m := by
 obtain ⟨n1, n2⟩ := hn
 obtain ⟨m1, m2⟩ := hm
 have hlast : ∀ k : Int, 2 ≤ k → k ≤ (F.length : Int) + 1 → (V : Int) - 1 ≤ dvr F V k → F.getD (k - 2).toNat (0, 0, 0) = ((V : Int) - 1, 0, 1) ∨ F.getD (k - 2).toNat (0, 0, 0) = ((V : Int) - 1, 1, 0) := fun k k1 k2 k3 => by
  refine hD.last (by omega) ?_
  unfold dvr at k3
  rw [if_neg (by omega)] at k3
  have := (hD.ok (k - 2).toNat (by omega)).1
  omega
 unfold plc at he
 by_cases a : n < 2
 ·rw [if_pos a] at he
  by_cases b : m < 2
  ·rw [if_pos b] at he; omega
  ·rw [if_neg b] at he
   split at he <;> omega
 ·rw [if_neg a] at he
  by_cases b : m < 2
  ·rw [if_pos b] at he
   split at he <;> omega
  ·rw [if_neg b] at he
   have e : F.getD (n - 2).toNat (0, 0, 0) = F.getD (m - 2).toNat (0, 0, 0) := by
    rcases hlast n (by omega) n1.2 n2 with g1 | g1 <;> rcases hlast m (by omega) m1.2 m2 with g2 | g2 <;> rw [g1, g2] at he ⊢ <;> simp at he
   have := getD_inj hD.nd (by omega) (by omega) e
   omega
end Go.Proofs.YtboikipchhgdlaaGreat
namespace Go.Proofs.YtboikipchhgdlaaGreat
open Go Go.Sm Go.Sm.Q
set_option linter.unusedSimpArgs false
set_option linter.unusedVariables false
theorem Dia.len {F : List (Int × Int × Int)} {V : Nat} (h : Dia F V) : F.length ≤ bigC F V + 32 := by
 rw [List.length_eq_countP_add_countP (fun f : Int × Int × Int => decide (f.1 + 3 ≤ (V : Int))), List.countP_eq_length_filter, List.countP_eq_length_filter]
 refine Nat.add_le_add_left ?_ _
 generalize hL : F.filter (fun a => decide ¬(fun f : Int × Int × Int => decide (f.1 + 3 ≤ (V : Int))) a = true) = L
 have hnd : L.Nodup := by rw [← hL]; exact List.filter_sublist.nodup h.nd
 have hmem : ∀ f ∈ L, f ∈ F ∧ (V : Int) ≤ f.1 + 2 ∧ f.1 < (V : Int) ∧ nearE F V f.2.1 ∧ nearE F V f.2.2 := by
  intro f hf
  rw [← hL, List.mem_filter] at hf
  obtain ⟨h1, h2⟩ := hf
  simp only [decide_eq_true_eq] at h2
  obtain ⟨i, hi, rfl⟩ := List.mem_iff_getElem.1 h1
  have h3 := h.ok i hi
  rw [getD_lt hi] at h3
  obtain ⟨a1, a2, a3, a4, a5, -⟩ := h3
  exact ⟨h1, by omega, by omega, ⟨by omega, by omega⟩, ⟨by omega, by omega⟩⟩
 let g : Int × Int × Int → Nat := fun f => (f.1 + 2 - (V : Int)).toNat * 16 + plc F f.2.1 * 4 + plc F f.2.2
 have hg : (L.map g).Nodup := by
  refine List.pairwise_map.2 (List.Pairwise.imp_of_mem (fun {a b} ha hb hab he => hab ?_) hnd)
  obtain ⟨-, a1, a2, a3, a4⟩ := hmem a ha
  obtain ⟨-, b1, b2, b3, b4⟩ := hmem b hb
  have p1 := plc_lt a3
  have p2 := plc_lt a4
  have p3 := plc_lt b3
  have p4 := plc_lt b4
  replace he : (a.1 + 2 - (V : Int)).toNat * 16 + plc F a.2.1 * 4 + plc F a.2.2 = (b.1 + 2 - (V : Int)).toNat * 16 + plc F b.2.1 * 4 + plc F b.2.2 := he
  have e1 := plc_inj h a3 b3 (by omega)
  have e2 := plc_inj h a4 b4 (by omega)
  obtain ⟨x, y, z⟩ := a
  obtain ⟨x', y', z'⟩ := b
  dsimp only at *
  rw [e1, e2, show x = x' by omega]
 have hs : L.map g ⊆ List.range 32 := by
  intro k hk
  obtain ⟨f, hf, rfl⟩ := List.mem_map.1 hk
  obtain ⟨-, a1, a2, a3, a4⟩ := hmem f hf
  have p1 := plc_lt a3
  have p2 := plc_lt a4
  refine List.mem_range.2 ?_
  show (f.1 + 2 - (V : Int)).toNat * 16 + plc F f.2.1 * 4 + plc F f.2.2 < 32
  omega
 have := hg.length_le_of_subset hs
 rw [List.length_map, List.length_range] at this
 exact this
def smL : List Int → Int
 | [] => 0
 | a :: l => a + smL l
theorem smL_app {l m : List Int} : smL (l ++ m) = smL l + smL m := by
 induction l with
 | nil => simp [smL]
 | cons a l ih => simp only [List.cons_append, smL, ih]; omega
theorem smL_set {l : List Int} {j : Nat} (hj : j < l.length) (h0 : l.getD j 0 = 0) {x : Int} : smL (l.set j x) = smL l + x := by
 induction l generalizing j with
 | nil => simp at hj
 | cons a l ih =>
  cases j with
  | zero => simp at h0; simp only [List.set_cons_zero, smL]; omega
  | succ j =>
   simp only [List.set_cons_succ, smL]
   rw [ih (by simpa using hj) (by simpa using h0)]; omega
theorem smL_zero {n : Nat} : smL (List.replicate n 0) = 0 := by
 induction n with
 | zero => rfl
 | succ n ih => simp only [List.replicate_succ, smL, ih]; rfl
theorem shl_eq {x : Int} {k : Nat} (hk : k ≤ 12) (hx : 0 ≤ x ∧ x ≤ 1048576) : shI true .i64 x (k : Int) = x * 2 ^ k := by
 have h : min (k : Int).toNat IntKind.i64.bits = k := by simp [IntKind.bits]; omega
 unfold shI
 rw [h]
 simp only [if_true]
 have h1 : (2 : Int) ^ k ≤ 4096 := by
  have h5 : 2 ^ k ≤ 2 ^ 12 := Nat.pow_le_pow_right (by omega) hk
  have e : ((2 ^ k : Nat) : Int) = (2 : Int) ^ k := by simp
  rw [← e]; omega
 have h2 := two_pow_pos k
 have h3 : x * 2 ^ k ≤ 1048576 * 4096 := Int.mul_le_mul hx.2 h1 (by omega) (by omega)
 have h4 : 0 ≤ x * 2 ^ k := Int.mul_nonneg hx.1 (by omega)
 exact wrap_id (by omega) (by omega)
theorem C_spec_l8Add (V : Nat) (F : List (Int × Int × Int)) (v lo hi : Int) (h : F.length < 2000) (hlo : 0 ≤ lo) (hhi : 0 ≤ hi) {Q : List AV → Prop} (h1 : lo = hi → Q [⟨I, (V : Int)⟩, ⟨L V3, F⟩, ⟨I, lo⟩])
  (h2 : lo ≠ hi → ∀ i, i < F.length → F.getD i (0, 0, 0) = (v, lo, hi) → Q [⟨I, (V : Int)⟩, ⟨L V3, F⟩, ⟨I, (i : Int) + 2⟩])
  (h3 : lo ≠ hi → (v, lo, hi) ∉ F → Q [⟨I, (V : Int)⟩, ⟨L V3, F ++ [(v, lo, hi)]⟩, ⟨I, (F.length : Int) + 2⟩]) :
  mc.C f_spec_l8Add [⟨I, (V : Int)⟩, ⟨L V3, F⟩, ⟨I, v⟩, ⟨I, lo⟩, ⟨I, hi⟩] Q := by
 refine mc.c_of F_spec_l8Add ?_
 by_cases he : lo = hi
 ·simp (contextual := true) (maxSteps := 1000000) (disch := omega) only [↓Sd, ↓So, ↓Sk, ↓den, ↓denA, Sa, Sb, Sc, Se, O1.d, O2.d, O3.d, cmI, arI, envOf, putN, ↓reduceIte, Nat.reduceLT, Nat.reduceSub, Nat.reduceAdd, Int.reduceAdd, Int.reduceEq, Int.reduceLT, Int.reduceLE, arr_pos, arr_neg, tr_spec_l8Add, he]
  rw [← he]; exact h1 he
 ·simp (contextual := true) (maxSteps := 1000000) (disch := omega) only [↓Sd, ↓So, ↓Sk, ↓den, ↓denA, Sa, Sb, Sc, Se, O1.d, O2.d, O3.d, cmI, arI, envOf, putN, ↓reduceIte, Nat.reduceLT, Nat.reduceSub, Nat.reduceAdd, Int.reduceAdd, Int.reduceEq, Int.reduceLT, Int.reduceLE, arr_pos, arr_neg, tr_spec_l8Add, he]
  refine lp_all (fun i => [⟨I, (i : Int)⟩, ⟨I, (V : Int)⟩, ⟨L V3, F⟩, ⟨I, 0⟩, ⟨I, v⟩, ⟨I, lo⟩, ⟨I, hi⟩]) (fun i => F.getD i (0, 0, 0) ≠ (v, lo, hi)) F.length _ rfl ?_ ?_
  ·intro i hi2
   by_cases hf : F.getD i (0, 0, 0) = (v, lo, hi)
   ·simp (contextual := true) (maxSteps := 1000000) (disch := omega) only [↓Sd, ↓So, ↓Sk, ↓den, ↓denA, Sa, Sb, Sc, Se, O1.d, O2.d, O3.d, cmI, arI, envOf, putN, ↓reduceIte, Nat.reduceLT, Nat.reduceSub, Nat.reduceAdd, Int.reduceAdd, Int.reduceEq, Int.reduceLT, Int.reduceLE, arr_pos, arr_neg, hf]
    exact ⟨fun _ => h2 he i hi2 hf, fun g => absurd (by simp) g⟩
   ·generalize hfe : F.getD i (0, 0, 0) = f at hf
    have hne : ¬ (f.1 = v ∧ f.2.1 = lo ∧ f.2.2 = hi) := fun g => hf (by obtain ⟨x, y, z⟩ := f; dsimp only at g; rw [g.1, g.2.1, g.2.2])
    simp (contextual := true) (maxSteps := 1000000) (disch := omega) only [↓Sd, ↓So, ↓Sk, ↓den, ↓denA, Sa, Sb, Sc, Se, O1.d, O2.d, O3.d, cmI, arI, envOf, putN, ↓reduceIte, Nat.reduceLT, Nat.reduceSub, Nat.reduceAdd, Int.reduceAdd, Int.reduceEq, Int.reduceLT, Int.reduceLE, arr_pos, arr_neg, hfe]
    exact ⟨fun g => by simp only [Bool.and_eq_true, beq_iff_eq] at g; exact absurd ⟨g.1, g.2.1, g.2.2⟩ hne, fun _ => hf⟩
  ·intro hall
   simp (contextual := true) (maxSteps := 1000000) (disch := omega) only [↓Sd, ↓So, ↓Sk, ↓den, ↓denA, Sa, Sb, Sc, Se, O1.d, O2.d, O3.d, cmI, arI, envOf, putN, ↓reduceIte, Nat.reduceLT, Nat.reduceSub, Nat.reduceAdd, Int.reduceAdd, Int.reduceEq, Int.reduceLT, Int.reduceLE, arr_pos, arr_neg, ↓wpJoin, ]
   rw [show (F.length : Int) + 1 + 1 = (F.length : Int) + 2 by omega]
   refine h3 he fun hm => ?_
   obtain ⟨i, hi2, e⟩ := List.mem_iff_getElem.1 hm
   exact hall i hi2 (by rw [getD_lt hi2]; exact e)
theorem C_spec_l8Rows (V : Nat) (hV : V ≤ 12) : ∀ (k v : Nat) (F : List (Int × Int × Int)) (l : List Int), v + k = V → l.length = 2 ^ k → (∀ x ∈ l, x = 0 ∨ x = 1) → Dia F V → bigC F V + (2 ^ (k - 2) - 1) ≤ 1023 → ∀ {Q : List AV → Prop},
  (∀ (G : List (Int × Int × Int)) (n : Int), Dia (F ++ G) V → bigC (F ++ G) V ≤ bigC F V + (2 ^ (k - 2) - 1) → (v : Int) ≤ dvr (F ++ G) V n → Cn (F ++ G) V n v (smL l) → Q [⟨I, (V : Int)⟩, ⟨L V3, F ++ G⟩, ⟨I, n⟩]) →
  mc.C f_spec_l8Rows [⟨I, (V : Int)⟩, ⟨L V3, F⟩, ⟨L I, l⟩, ⟨I, (v : Int)⟩] Q := by
 intro k
 induction k with
 | zero =>
  intro v F l hv hl hb hD hc Q hQ
  refine mc.c_of F_spec_l8Rows ?_
  obtain ⟨x, rfl⟩ : ∃ x, l = [x] := by
   rcases l with _ | ⟨x, _ | ⟨y, l⟩⟩
   ·simp at hl
   ·exact ⟨x, rfl⟩
   ·simp at hl
  have hx := hb x (List.mem_singleton_self x)
  have hvV : v = V := by omega
  subst hvV
  simp (contextual := true) (maxSteps := 1000000) (disch := omega) only [↓Sd, ↓So, ↓Sk, ↓den, ↓denA, Sa, Sb, Sc, Se, O1.d, O2.d, O3.d, cmI, arI, envOf, putN, ↓reduceIte, Nat.reduceLT, Nat.reduceSub, Nat.reduceAdd, Int.reduceAdd, Int.reduceEq, Int.reduceLT, Int.reduceLE, arr_pos, arr_neg, ↓wpJoin, tr_spec_l8Rows]
  have := hQ [] x (by rw [List.append_nil]; exact hD) (by rw [List.append_nil]; omega) (by unfold dvr; rw [if_pos (by omega)]; omega) (by rw [List.append_nil]; exact .leaf (by omega) (Nat.le_refl _) (by simp [smL]))
  rw [List.append_nil] at this
  exact this
 | succ k ih =>
  intro v F l hv hl hb hD hc Q hQ
  refine mc.c_of F_spec_l8Rows ?_
  have hkl : k ≤ 11 := by omega
  have hpk : 2 ^ k ≤ 2 ^ 11 := Nat.pow_le_pow_right (by omega) hkl
  have hp0 : 1 ≤ 2 ^ k := Nat.one_le_two_pow
  have hl2 : l.length = 2 ^ k + 2 ^ k := by rw [hl, Nat.pow_succ]; omega
  obtain ⟨H, hH⟩ : ∃ H, 2 ^ k = H := ⟨_, rfl⟩
  rw [hH] at hl2 hpk hp0
  have hhalf : (l.length : Int) / 2 = (H : Int) := by rw [hl2]; omega
  obtain ⟨vx, hvx⟩ : ∃ vx, v + 1 = vx := ⟨_, rfl⟩
  have hv1 : (v : Int) + 1 = (vx : Int) := by omega
  have hr2 : 2 ^ (k + 1 - 2) - 1 ≥ (2 ^ (k - 2) - 1) + (2 ^ (k - 2) - 1) + (if 2 ≤ k then 1 else 0) := by
   by_cases g : 2 ≤ k
   ·rw [if_pos g, show k + 1 - 2 = (k - 2) + 1 by omega, Nat.pow_succ]
    have : 1 ≤ 2 ^ (k - 2) := Nat.one_le_two_pow
    omega
   ·rw [if_neg g, show k - 2 = 0 by omega]; simp
  have hsm : smL l = smL (l.take H) + smL (l.drop H) := by rw [← smL_app, List.take_append_drop]
  have ht : (l.take H).length = 2 ^ k := by rw [List.length_take, hH]; omega
  have hd : (l.drop H).length = 2 ^ k := by rw [List.length_drop, hH]; omega
  simp (contextual := true) (maxSteps := 1000000) (disch := omega) only [↓Sd, ↓So, ↓Sk, ↓den, ↓denA, Sa, Sb, Sc, Se, O1.d, O2.d, O3.d, cmI, arI, envOf, putN, ↓reduceIte, Nat.reduceLT, Nat.reduceSub, Nat.reduceAdd, Int.reduceAdd, Int.reduceEq, Int.reduceLT, Int.reduceLE, arr_pos, arr_neg, tr_spec_l8Rows, hhalf, Int.toNat_natCast, hv1]
  refine ih vx F (l.take H) (by omega) ht (fun x hx => hb x (List.mem_of_mem_take hx)) hD (by omega) fun G lo hD1 hc1 hd1 hC1 => ?_
  rw [← hvx] at hd1 hC1
  have lo1 := hC1.bd.2.2
  simp (contextual := true) (maxSteps := 1000000) (disch := omega) only [↓Sd, ↓So, ↓Sk, ↓den, ↓denA, Sa, Sb, Sc, Se, O1.d, O2.d, O3.d, cmI, arI, envOf, putN, ↓reduceIte, Nat.reduceLT, Nat.reduceSub, Nat.reduceAdd, Int.reduceAdd, Int.reduceEq, Int.reduceLT, Int.reduceLE, arr_pos, arr_neg, ↓wpJoin, hv1, hhalf, Int.toNat_natCast]
  refine ih vx (F ++ G) (l.drop H) (by omega) hd (fun x hx => hb x (List.mem_of_mem_drop hx)) hD1 (by omega) fun G2 hi hD2 hc2 hd2 hC2 => ?_
  rw [← hvx] at hd2 hC2
  have hi1 := hC2.bd.2.2
  rw [List.append_assoc] at hD2 hc2 hd2 hC2 hi1 ⊢
  have hC1' := hC1.mono (G := G2)
  have hd1' : ((v + 1 : Nat) : Int) ≤ dvr (F ++ (G ++ G2)) V lo := by rw [← List.append_assoc, dvr_app lo1.2]; exact hd1
  rw [List.append_assoc] at hC1'
  have lo2 := hC1'.bd.2.2
  have hlen := hD2.len
  simp (contextual := true) (maxSteps := 1000000) (disch := omega) only [↓Sd, ↓So, ↓Sk, ↓den, ↓denA, Sa, Sb, Sc, Se, O1.d, O2.d, O3.d, cmI, arI, envOf, putN, ↓reduceIte, Nat.reduceLT, Nat.reduceSub, Nat.reduceAdd, Int.reduceAdd, Int.reduceEq, Int.reduceLT, Int.reduceLE, arr_pos, arr_neg, ↓wpJoin, ]
  refine C_spec_l8Add V (F ++ (G ++ G2)) (v : Int) lo hi (by omega) (by omega) (by omega) (fun e => ?_) (fun e i hi2 hf => ?_) (fun e hn => ?_)
  ·simp (contextual := true) (maxSteps := 1000000) (disch := omega) only [↓Sd, ↓So, ↓Sk, ↓den, ↓denA, Sa, Sb, Sc, Se, O1.d, O2.d, O3.d, cmI, arI, envOf, putN, ↓reduceIte, Nat.reduceLT, Nat.reduceSub, Nat.reduceAdd, Int.reduceAdd, Int.reduceEq, Int.reduceLT, Int.reduceLE, arr_pos, arr_neg, ]
   subst e
   have : smL l = smL (l.take H) + smL (l.take H) := by rw [hsm, hC2.eq hC1']
   exact hQ (G ++ G2) lo hD2 (by omega) (by omega) (by rw [this]; exact hC1'.up)
  ·simp (contextual := true) (maxSteps := 1000000) (disch := omega) only [↓Sd, ↓So, ↓Sk, ↓den, ↓denA, Sa, Sb, Sc, Se, O1.d, O2.d, O3.d, cmI, arI, envOf, putN, ↓reduceIte, Nat.reduceLT, Nat.reduceSub, Nat.reduceAdd, Int.reduceAdd, Int.reduceEq, Int.reduceLT, Int.reduceLE, arr_pos, arr_neg, ]
   refine hQ (G ++ G2) _ hD2 (by omega) ?_ (.fork rfl hi2 hf (Nat.le_refl _) (by omega) hC1' hC2 (by rw [hsm, Nat.sub_self]; omega))
   unfold dvr
   rw [if_neg (by omega), show ((i : Int) + 2 - 2).toNat = i by omega, hf]
   exact Int.le_refl _
  ·simp (contextual := true) (maxSteps := 1000000) (disch := omega) only [↓Sd, ↓So, ↓Sk, ↓den, ↓denA, Sa, Sb, Sc, Se, O1.d, O2.d, O3.d, cmI, arI, envOf, putN, ↓reduceIte, Nat.reduceLT, Nat.reduceSub, Nat.reduceAdd, Int.reduceAdd, Int.reduceEq, Int.reduceLT, Int.reduceLE, arr_pos, arr_neg, ]
   have hfk : fkOk (F ++ (G ++ G2)) V (F ++ (G ++ G2)).length ((v : Int), lo, hi) := ⟨by dsimp only; omega, by dsimp only; omega, by dsimp only; omega, by dsimp only; omega, by dsimp only; omega, e⟩
   have hD3 := hD2.push hfk hn
   have hbp := bigC_push (F := F ++ (G ++ G2)) (V := V) (f := ((v : Int), lo, hi))
   have e3 : F ++ (G ++ G2) ++ [((v : Int), lo, hi)] = F ++ (G ++ G2 ++ [((v : Int), lo, hi)]) := by rw [List.append_assoc]
   have hlast : (F ++ (G ++ G2) ++ [((v : Int), lo, hi)]).getD (F ++ (G ++ G2)).length (0, 0, 0) = ((v : Int), lo, hi) := getD_app1
   have hlt : (F ++ (G ++ G2)).length < (F ++ (G ++ G2) ++ [((v : Int), lo, hi)]).length := by rw [List.length_append (bs := [_]), List.length_singleton]; omega
   have hCn : Cn (F ++ (G ++ G2) ++ [((v : Int), lo, hi)]) V (((F ++ (G ++ G2)).length : Int) + 2) v (smL l) := .fork rfl hlt hlast (Nat.le_refl _) (by omega) hC1'.mono hC2.mono (by rw [hsm, Nat.sub_self]; omega)
   have hdv : (v : Int) ≤ dvr (F ++ (G ++ G2) ++ [((v : Int), lo, hi)]) V (((F ++ (G ++ G2)).length : Int) + 2) := by
    unfold dvr
    rw [if_neg (by omega), show (((F ++ (G ++ G2)).length : Int) + 2 - 2).toNat = (F ++ (G ++ G2)).length by omega, hlast]
    exact Int.le_refl _
   have hcc : bigC (F ++ (G ++ G2) ++ [((v : Int), lo, hi)]) V ≤ bigC F V + (2 ^ (k + 1 - 2) - 1) := by
    rw [hbp]
    dsimp only
    split at hr2 <;> split <;> omega
   have e4 : ((F ++ (G ++ G2)).length : Int) = (F.length : Int) + ((G.length : Int) + (G2.length : Int)) := by rw [List.length_append, List.length_append]; omega
   rw [e4] at hdv hCn
   rw [e3] at hD3 hCn hdv hcc ⊢
   exact hQ _ _ hD3 hcc hdv hCn
theorem C_spec_l8Var (V : Nat) (F : List (Int × Int × Int)) (n : Int) (hF : F.length ≤ 2000) (hn : 0 ≤ n ∧ n ≤ (F.length : Int) + 1) (Q : List AV → Prop) : mc.C f_spec_l8Var [⟨I, (V : Int)⟩, ⟨L V3, F⟩, ⟨I, n⟩] Q = Q [⟨I, dvr F V n⟩] := by
 refine Mc.Ends.c (mc.ends F_spec_l8Var ?_)
 by_cases h : n < 2
 ·simp (contextual := true) (maxSteps := 1000000) (disch := omega) only [↓Sd, ↓So, ↓Sk, ↓den, ↓denA, Sa, Sb, Sc, Se, O1.d, O2.d, O3.d, cmI, arI, envOf, putN, ↓reduceIte, Nat.reduceLT, Nat.reduceSub, Nat.reduceAdd, Int.reduceAdd, Int.reduceEq, Int.reduceLT, Int.reduceLE, arr_pos, arr_neg, tr_spec_l8Var, h, dvr]
 ·simp (contextual := true) (maxSteps := 1000000) (disch := omega) only [↓Sd, ↓So, ↓Sk, ↓den, ↓denA, Sa, Sb, Sc, Se, O1.d, O2.d, O3.d, cmI, arI, envOf, putN, ↓reduceIte, Nat.reduceLT, Nat.reduceSub, Nat.reduceAdd, Int.reduceAdd, Int.reduceEq, Int.reduceLT, Int.reduceLE, arr_pos, arr_neg, tr_spec_l8Var, h, dvr]
theorem C_spec_DiagramValid (V : Nat) (F : List (Int × Int × Int)) (hV : V ≤ 12) (hF : F.length ≤ 2000) (hD : Dia F V) (Q : List AV → Prop) : mc.C f_spec_DiagramValid [⟨I, (V : Int)⟩, ⟨L V3, F⟩] Q = Q [⟨B, true⟩] := by
 have hV1 : (0 : Int) ≤ (V : Int) ∧ (V : Int) ≤ 12 := by omega
 refine Mc.Ends.c (mc.ends F_spec_DiagramValid ?_)
 simp (contextual := true) (maxSteps := 1000000) (disch := omega) only [↓Sd, ↓So, ↓Sk, ↓den, ↓denA, Sa, Sb, Sc, Se, O1.d, O2.d, O3.d, cmI, arI, envOf, putN, ↓reduceIte, Nat.reduceLT, Nat.reduceSub, Nat.reduceAdd, Int.reduceAdd, Int.reduceEq, Int.reduceLT, Int.reduceLE, arr_pos, arr_neg, tr_spec_DiagramValid, C_spec_l1In, decide_eq_true hV1]
 refine mc.lp_for Unit (fun i _ => [⟨I, (i : Int)⟩, ⟨I, (V : Int)⟩, ⟨L V3, F⟩]) (fun _ _ => True) F.length 0 () _ rfl (Nat.zero_le _) trivial ?_ ?_
 ·rintro i _ hi -
  have hf := hD.ok i hi
  generalize hfe : F.getD i (0, 0, 0) = f at hf
  obtain ⟨x, lo, hi'⟩ := f
  obtain ⟨f1, f2, f3, f4, f5, f6⟩ := hf
  dsimp only at f1 f2 f3 f4 f5 f6
  have g1 : (0 : Int) ≤ x ∧ x ≤ (V : Int) - 1 := by omega
  simp (contextual := true) (maxSteps := 1000000) (disch := omega) only [↓Sd, ↓So, ↓Sk, ↓den, ↓denA, Sa, Sb, Sc, Se, O1.d, O2.d, O3.d, cmI, arI, envOf, putN, ↓reduceIte, Nat.reduceLT, Nat.reduceSub, Nat.reduceAdd, Int.reduceAdd, Int.reduceEq, Int.reduceLT, Int.reduceLE, arr_pos, arr_neg, hfe]
  refine mc.c_of F_spec_l8Fork ?_
  simp (contextual := true) (maxSteps := 1000000) (disch := omega) only [↓Sd, ↓So, ↓Sk, ↓den, ↓denA, Sa, Sb, Sc, Se, O1.d, O2.d, O3.d, cmI, arI, envOf, putN, ↓reduceIte, Nat.reduceLT, Nat.reduceSub, Nat.reduceAdd, Int.reduceAdd, Int.reduceEq, Int.reduceLT, Int.reduceLE, arr_pos, arr_neg, tr_spec_l8Fork, hfe, C_spec_l1In, decide_eq_true g1, decide_eq_true f2, decide_eq_true f3, C_spec_l8Var V F lo hF (by omega), C_spec_l8Var V F hi' hF (by omega), f4, f5, f6]
  refine mc.lp_for Unit (fun k _ => [⟨I, (i : Int)⟩, ⟨I, (k : Int)⟩, ⟨I, (V : Int)⟩, ⟨L V3, F⟩, ⟨I, x⟩, ⟨I, lo⟩, ⟨I, hi'⟩]) (fun _ _ => True) i 0 () _ rfl (Nat.zero_le _) trivial ?_ ?_
  ·rintro k _ hk -
   have hne : F.getD k (0, 0, 0) ≠ (x, lo, hi') := fun g => by
    have := getD_inj hD.nd (show k < F.length by omega) hi (g.trans hfe.symm)
    omega
   generalize hge : F.getD k (0, 0, 0) = g at hne
   have hne2 : ¬ (g.1 = x ∧ g.2.1 = lo ∧ g.2.2 = hi') := fun e => hne (by obtain ⟨a, b, c⟩ := g; dsimp only at e; rw [e.1, e.2.1, e.2.2])
   simp (contextual := true) (maxSteps := 1000000) (disch := omega) only [↓Sd, ↓So, ↓Sk, ↓den, ↓denA, Sa, Sb, Sc, Se, O1.d, O2.d, O3.d, cmI, arI, envOf, putN, ↓reduceIte, Nat.reduceLT, Nat.reduceSub, Nat.reduceAdd, Int.reduceAdd, Int.reduceEq, Int.reduceLT, Int.reduceLE, arr_pos, arr_neg, hge]
   intro g2
   simp only [Bool.and_eq_true, beq_iff_eq] at g2
   exact absurd ⟨g2.1, g2.2.1, g2.2.2⟩ hne2
  ·rintro _ -
   simp (contextual := true) (maxSteps := 1000000) (disch := omega) only [↓Sd, ↓So, ↓Sk, ↓den, ↓denA, Sa, Sb, Sc, Se, O1.d, O2.d, O3.d, cmI, arI, envOf, putN, ↓reduceIte, Nat.reduceLT, Nat.reduceSub, Nat.reduceAdd, Int.reduceAdd, Int.reduceEq, Int.reduceLT, Int.reduceLE, arr_pos, arr_neg, ]
 ·rintro _ -
  simp (contextual := true) (maxSteps := 1000000) (disch := omega) only [↓Sd, ↓So, ↓Sk, ↓den, ↓denA, Sa, Sb, Sc, Se, O1.d, O2.d, O3.d, cmI, arI, envOf, putN, ↓reduceIte, Nat.reduceLT, Nat.reduceSub, Nat.reduceAdd, Int.reduceAdd, Int.reduceEq, Int.reduceLT, Int.reduceLE, arr_pos, arr_neg, ]
theorem C_spec_l8Count (V : Nat) (F : List (Int × Int × Int)) (hV : V ≤ 12) (hF : F.length ≤ 2000) {n : Int} {v : Nat} {c : Int} (h : Cn F V n v c) : ∀ (Q : List AV → Prop), mc.C f_spec_l8Count [⟨I, (V : Int)⟩, ⟨L V3, F⟩, ⟨I, n⟩, ⟨I, (v : Int)⟩] Q = Q [⟨I, c⟩] := by
 induction h with
 | @leaf n v c h1 h2 h3 =>
  intro Q
  refine Mc.Ends.c (mc.ends F_spec_l8Count ?_)
  have e : (V : Int) - (v : Int) = ((V - v : Nat) : Int) := by omega
  simp (contextual := true) (maxSteps := 1000000) (disch := omega) only [↓Sd, ↓So, ↓Sk, ↓den, ↓denA, Sa, Sb, Sc, Se, O1.d, O2.d, O3.d, cmI, arI, envOf, putN, ↓reduceIte, Nat.reduceLT, Nat.reduceSub, Nat.reduceAdd, Int.reduceAdd, Int.reduceEq, Int.reduceLT, Int.reduceLE, arr_pos, arr_neg, tr_spec_l8Count, e, shl_eq (x := n) (show V - v ≤ 12 by omega) (by omega)]
  rw [h3]
 | @fork n v c i w lo hi a b h1 h2 h3 h4 h5 h6 h7 h8 ih1 ih2 =>
  intro Q
  refine Mc.Ends.c (mc.ends F_spec_l8Count ?_)
  have e : (w : Int) - (v : Int) = ((w - v : Nat) : Int) := by omega
  have e2 : n - 2 = (i : Int) := by omega
  have a1 := h6.bd.1
  have b1 := h7.bd.1
  have hp : (2 : Int) ^ (V - (w + 1)) ≤ 4096 := by
   have h5 : 2 ^ (V - (w + 1)) ≤ 2 ^ 12 := Nat.pow_le_pow_right (by omega) (by omega)
   have e : ((2 ^ (V - (w + 1)) : Nat) : Int) = (2 : Int) ^ (V - (w + 1)) := by simp
   rw [← e]; omega
  obtain ⟨wx, hwx⟩ : ∃ wx, w + 1 = wx := ⟨_, rfl⟩
  have w1 : (w : Int) + 1 = (wx : Int) := by omega
  rw [hwx] at ih1 ih2
  simp (contextual := true) (maxSteps := 1000000) (disch := omega) only [↓Sd, ↓So, ↓Sk, ↓den, ↓denA, Sa, Sb, Sc, Se, O1.d, O2.d, O3.d, cmI, arI, envOf, putN, ↓reduceIte, Nat.reduceLT, Nat.reduceSub, Nat.reduceAdd, Int.reduceAdd, Int.reduceEq, Int.reduceLT, Int.reduceLE, arr_pos, arr_neg, tr_spec_l8Count, e2, h3, w1, ih1, ih2, e, shl_eq (x := a + b) (show w - v ≤ 12 by omega) (by omega)]
  rw [h8]
theorem C_spec_DiagramCount (V : Nat) (F : List (Int × Int × Int)) (hV : V ≤ 12) (hF : F.length ≤ 2000) (hD : Dia F V) {n c : Int} (h : Cn F V n 0 c) (Q : List AV → Prop) : mc.C f_spec_DiagramCount [⟨I, (V : Int)⟩, ⟨L V3, F⟩, ⟨I, n⟩] Q = Q [⟨I, c⟩] := by
 have hb := h.bd.2.2
 refine Mc.Ends.c (mc.ends F_spec_DiagramCount ?_)
 simp (contextual := true) (maxSteps := 1000000) (disch := omega) only [↓Sd, ↓So, ↓Sk, ↓den, ↓denA, Sa, Sb, Sc, Se, O1.d, O2.d, O3.d, cmI, arI, envOf, putN, ↓reduceIte, Nat.reduceLT, Nat.reduceSub, Nat.reduceAdd, Int.reduceAdd, Int.reduceEq, Int.reduceLT, Int.reduceLE, arr_pos, arr_neg, tr_spec_DiagramCount, C_spec_DiagramValid V F hV hF hD]
 refine mc.c_of F_spec_l8Place ?_
 simp (contextual := true) (maxSteps := 1000000) (disch := omega) only [↓Sd, ↓So, ↓Sk, ↓den, ↓denA, Sa, Sb, Sc, Se, O1.d, O2.d, O3.d, cmI, arI, envOf, putN, ↓reduceIte, Nat.reduceLT, Nat.reduceSub, Nat.reduceAdd, Int.reduceAdd, Int.reduceEq, Int.reduceLT, Int.reduceLE, arr_pos, arr_neg, tr_spec_l8Place, C_spec_l1In, decide_eq_true hb]
 have hc : ∀ Q : List AV → Prop, mc.C f_spec_l8Count [⟨I, (V : Int)⟩, ⟨L V3, F⟩, ⟨I, n⟩, ⟨I, 0⟩] Q = Q [⟨I, c⟩] := C_spec_l8Count V F hV hF h
 simp (contextual := true) (maxSteps := 1000000) (disch := omega) only [↓Sd, ↓So, ↓Sk, ↓den, ↓denA, Sa, Sb, Sc, Se, O1.d, O2.d, O3.d, cmI, arI, envOf, putN, ↓reduceIte, Nat.reduceLT, Nat.reduceSub, Nat.reduceAdd, Int.reduceAdd, Int.reduceEq, Int.reduceLT, Int.reduceLE, arr_pos, arr_neg, hc]
theorem C_spec_DiagramCount_no (Q : List AV → Prop) : mc.C f_spec_DiagramCount [⟨I, 0⟩, ⟨L V3, []⟩, ⟨I, -1⟩] Q = Q [⟨I, -1⟩] := by
 have hD : Dia [] 0 := ⟨fun i hi => absurd hi (Nat.not_lt_zero _), List.nodup_nil⟩
 refine Mc.Ends.c (mc.ends F_spec_DiagramCount ?_)
 have hc : ∀ Q : List AV → Prop, mc.C f_spec_DiagramValid [⟨I, 0⟩, ⟨L V3, []⟩] Q = Q [⟨B, true⟩] := C_spec_DiagramValid 0 [] (by omega) (by simp) hD
 simp (contextual := true) (maxSteps := 1000000) (disch := omega) only [↓Sd, ↓So, ↓Sk, ↓den, ↓denA, Sa, Sb, Sc, Se, O1.d, O2.d, O3.d, cmI, arI, envOf, putN, ↓reduceIte, Nat.reduceLT, Nat.reduceSub, Nat.reduceAdd, Int.reduceAdd, Int.reduceEq, Int.reduceLT, Int.reduceLE, arr_pos, arr_neg, tr_spec_DiagramCount, hc]
 refine mc.c_of F_spec_l8Place ?_
 simp (contextual := true) (maxSteps := 1000000) (disch := omega) only [↓Sd, ↓So, ↓Sk, ↓den, ↓denA, Sa, Sb, Sc, Se, O1.d, O2.d, O3.d, cmI, arI, envOf, putN, ↓reduceIte, Nat.reduceLT, Nat.reduceSub, Nat.reduceAdd, Int.reduceAdd, Int.reduceEq, Int.reduceLT, Int.reduceLE, arr_pos, arr_neg, tr_spec_l8Place, C_spec_l1In]
def ilv (a b : List Int) : Nat → List Int
 | 0 => []
 | k + 1 => ilv a b k ++ [a.getD k 0, b.getD k 0]
theorem ilv_len {a b : List Int} : ∀ {k : Nat}, (ilv a b k).length = 2 * k
 | 0 => rfl
 | k + 1 => by simp only [ilv, List.length_append, @ilv_len a b k, List.length_cons, List.length_nil]; omega
theorem ilv_bit {a b : List Int} (ha : ∀ i, a.getD i 0 = 0 ∨ a.getD i 0 = 1) (hb : ∀ i, b.getD i 0 = 0 ∨ b.getD i 0 = 1) : ∀ {k : Nat}, ∀ x ∈ ilv a b k, x = 0 ∨ x = 1
 | 0, x, h => by simp [ilv] at h
 | k + 1, x, h => by
  simp only [ilv, List.mem_append, List.mem_cons, List.not_mem_nil, or_false] at h
  rcases h with h | h | h
  ·exact ilv_bit ha hb x h
  ·rw [h]; exact ha k
  ·rw [h]; exact hb k
theorem ilv_inj {a b c d : List Int} : ∀ {k : Nat}, ilv a b k = ilv c d k → ∀ j, j < k → a.getD j 0 = c.getD j 0 ∧ b.getD j 0 = d.getD j 0
 | 0, _, j, hj => absurd hj (Nat.not_lt_zero _)
 | k + 1, h, j, hj => by
  simp only [ilv] at h
  obtain ⟨h1, h2⟩ := List.append_inj h (by rw [ilv_len, ilv_len])
  simp only [List.cons.injEq, and_true] at h2
  rcases Nat.lt_succ_iff_lt_or_eq.1 hj with g | rfl
  ·exact ilv_inj h1 j g
  ·exact h2
def nbN (l : List Int) : Nat → Int
 | 0 => 0
 | k + 1 => nbN l k * 2 + l.getD k 0
def nbL (l : List Int) : Int := nbN l l.length
theorem bit_getD {l : List Int} (h : ∀ x ∈ l, x = 0 ∨ x = 1) (i : Nat) : l.getD i 0 = 0 ∨ l.getD i 0 = 1 := by
 by_cases hi : i < l.length
 ·exact h _ (getD_mem hi)
 ·left; rw [List.getD_eq_getElem?_getD, List.getElem?_eq_none (by omega)]; rfl
theorem nbN_bd {l : List Int} (h : ∀ i, l.getD i 0 = 0 ∨ l.getD i 0 = 1) : ∀ {k : Nat}, 0 ≤ nbN l k ∧ nbN l k < ((2 ^ k : Nat) : Int)
 | 0 => by simp [nbN]
 | k + 1 => by
  have h1 := @nbN_bd l h k
  have h2 := h k
  rw [Nat.pow_succ]
  simp only [nbN]
  omega
theorem nbN_inj {l m : List Int} (hl : ∀ i, l.getD i 0 = 0 ∨ l.getD i 0 = 1) (hm : ∀ i, m.getD i 0 = 0 ∨ m.getD i 0 = 1) : ∀ {k : Nat}, nbN l k = nbN m k → ∀ j, j < k → l.getD j 0 = m.getD j 0
 | 0, _, j, hj => absurd hj (Nat.not_lt_zero _)
 | k + 1, h, j, hj => by
  simp only [nbN] at h
  have h1 := hl k
  have h2 := hm k
  rcases Nat.lt_succ_iff_lt_or_eq.1 hj with g | rfl
  ·exact nbN_inj hl hm (by omega) j g
  ·omega
theorem ext_getD {l m : List Int} (h : l.length = m.length) (hj : ∀ j, j < l.length → l.getD j 0 = m.getD j 0) : l = m := by
 refine List.ext_getElem h fun i h1 h2 => ?_
 have := hj i h1
 rwa [getD_lt h1, getD_lt h2] at this
theorem mem_take_succ {α : Type} {l : List α} {i : Nat} {x d : α} (h : i < l.length) : x ∈ l.take (i + 1) ↔ x ∈ l.take i ∨ x = l.getD i d := by
 rw [← take_next (d := d) h, List.mem_append, List.mem_singleton]
theorem nbL_inj {l m : List Int} (hl : ∀ x ∈ l, x = 0 ∨ x = 1) (hm : ∀ x ∈ m, x = 0 ∨ x = 1) (hlen : l.length = m.length) (h : nbL l = nbL m) : l = m := by
 unfold nbL at h
 rw [← hlen] at h
 exact ext_getD hlen (nbN_inj (bit_getD hl) (bit_getD hm) h)
theorem C_spec_l6Number (l : List Int) (h : ∀ x ∈ l, x = 0 ∨ x = 1) (hl : l.length ≤ 12) (Q : List AV → Prop) : mc.C f_spec_l6Number [⟨L I, l⟩] Q = Q [⟨I, nbL l⟩] := by
 refine Mc.Ends.c (mc.ends F_spec_l6Number ?_)
 simp (contextual := true) (maxSteps := 1000000) (disch := omega) only [↓Sd, ↓So, ↓Sk, ↓den, ↓denA, Sa, Sb, Sc, Se, O1.d, O2.d, O3.d, cmI, arI, envOf, putN, ↓reduceIte, Nat.reduceLT, Nat.reduceSub, Nat.reduceAdd, Int.reduceAdd, Int.reduceEq, Int.reduceLT, Int.reduceLE, arr_pos, arr_neg, tr_spec_l6Number]
 refine mc.lp_for Int (fun i n => [⟨L I, l⟩, ⟨I, n⟩, ⟨I, (i : Int)⟩]) (fun i n => n = nbN l i) l.length 0 0 _ rfl (Nat.zero_le _) rfl ?_ ?_
 ·rintro i n hi rfl
  have h1 := @nbN_bd l (bit_getD h) i
  have h2 := bit_getD h i
  have h3 : 2 ^ i ≤ 2 ^ 12 := Nat.pow_le_pow_right (by omega) (by omega)
  simp (contextual := true) (maxSteps := 1000000) (disch := omega) only [↓Sd, ↓So, ↓Sk, ↓den, ↓denA, Sa, Sb, Sc, Se, O1.d, O2.d, O3.d, cmI, arI, envOf, putN, ↓reduceIte, Nat.reduceLT, Nat.reduceSub, Nat.reduceAdd, Int.reduceAdd, Int.reduceEq, Int.reduceLT, Int.reduceLE, arr_pos, arr_neg, ]
  rfl
 ·rintro n rfl
  simp (contextual := true) (maxSteps := 1000000) (disch := omega) only [↓Sd, ↓So, ↓Sk, ↓den, ↓denA, Sa, Sb, Sc, Se, O1.d, O2.d, O3.d, cmI, arI, envOf, putN, ↓reduceIte, Nat.reduceLT, Nat.reduceSub, Nat.reduceAdd, Int.reduceAdd, Int.reduceEq, Int.reduceLT, Int.reduceLE, arr_pos, arr_neg, ]
  rfl
theorem C_spec_l10Both (a b : List Int) (hab : a.length = b.length) (hl : a.length ≤ 100) (Q : List AV → Prop) : mc.C f_spec_l10Both [⟨L I, a⟩, ⟨L I, b⟩] Q = Q [⟨L I, ilv a b a.length⟩] := by
 refine Mc.Ends.c (mc.ends F_spec_l10Both ?_)
 simp (contextual := true) (maxSteps := 1000000) (disch := omega) only [↓Sd, ↓So, ↓Sk, ↓den, ↓denA, Sa, Sb, Sc, Se, O1.d, O2.d, O3.d, cmI, arI, envOf, putN, ↓reduceIte, Nat.reduceLT, Nat.reduceSub, Nat.reduceAdd, Int.reduceAdd, Int.reduceEq, Int.reduceLT, Int.reduceLE, arr_pos, arr_neg, tr_spec_l10Both]
 refine mc.lp_for (List Int) (fun i o => [⟨L I, a⟩, ⟨L I, b⟩, ⟨I, (i : Int)⟩, ⟨L I, o⟩]) (fun i o => o = ilv a b i) a.length 0 [] _ rfl (Nat.zero_le _) rfl ?_ ?_
 ·rintro i o hi rfl
  have := @ilv_len a b i
  simp (contextual := true) (maxSteps := 1000000) (disch := omega) only [↓Sd, ↓So, ↓Sk, ↓den, ↓denA, Sa, Sb, Sc, Se, O1.d, O2.d, O3.d, cmI, arI, envOf, putN, ↓reduceIte, Nat.reduceLT, Nat.reduceSub, Nat.reduceAdd, Int.reduceAdd, Int.reduceEq, Int.reduceLT, Int.reduceLE, arr_pos, arr_neg, this]
  rfl
 ·rintro o rfl
  simp (contextual := true) (maxSteps := 1000000) (disch := omega) only [↓Sd, ↓So, ↓Sk, ↓den, ↓denA, Sa, Sb, Sc, Se, O1.d, O2.d, O3.d, cmI, arI, envOf, putN, ↓reduceIte, Nat.reduceLT, Nat.reduceSub, Nat.reduceAdd, Int.reduceAdd, Int.reduceEq, Int.reduceLT, Int.reduceLE, arr_pos, arr_neg, ]
theorem bc_nat {s : Sy} (h : nar s) : ∃ w : Nat, bc s.1 = (w : Int) ∧ w ≤ 6 := by
 have := bc_bd h.1
 have := h.2
 exact ⟨(bc s.1).toNat, by omega, by omega⟩
def rowOf (s : Sy) (n y : Int) : List Int := ilv (sb s (stAt s.1 n)) (sb s (stAt s.1 y)) (bc s.1).toNat
theorem sb_bits {s : Sy} {st : List Int} : ∀ x ∈ sb s st, x = 0 ∨ x = 1 := fun x hx => sbN_bit x hx
theorem rowOf_len {s : Sy} {n y : Int} : (rowOf s n y).length = 2 * (bc s.1).toNat := ilv_len
theorem rowOf_bit {s : Sy} {n y : Int} : ∀ x ∈ rowOf s n y, x = 0 ∨ x = 1 := ilv_bit (bit_getD sb_bits) (bit_getD sb_bits)
theorem stAt_inj {s : Sy} (h : valid s) {x y : Int} (hx : 0 ≤ x ∧ x < (szn s.1 : Int)) (hy : 0 ≤ y ∧ y < (szn s.1 : Int)) (he : sb s (stAt s.1 x) = sb s (stAt s.1 y)) : x = y := by
 obtain ⟨a, rfl⟩ : ∃ a : Nat, x = (a : Int) := ⟨x.toNat, by omega⟩
 obtain ⟨b, rfl⟩ : ∃ b : Nat, y = (b : Int) := ⟨y.toNat, by omega⟩
 have h1 := sb_inj h (stN_in h (n := a) (by omega)) (stN_in h (n := b) (by omega)) he
 have h2 := num_stN h (k := a) (by omega)
 have h3 := num_stN h (k := b) (by omega)
 rw [h1, h3] at h2
 exact h2.symm
theorem rowOf_inj {s : Sy} (h : valid s) {n y m z : Int} (hn : 0 ≤ n ∧ n < (szn s.1 : Int)) (hy : 0 ≤ y ∧ y < (szn s.1 : Int)) (hm : 0 ≤ m ∧ m < (szn s.1 : Int)) (hz : 0 ≤ z ∧ z < (szn s.1 : Int)) (he : rowOf s n y = rowOf s m z) : n = m ∧ y = z := by
 have hb := bc_bd h
 have hi := ilv_inj he
 have hl : ∀ x : Int, (sb s (stAt s.1 x)).length = (bc s.1).toNat := fun x => by have := @sb_len s (stAt s.1 x); omega
 exact ⟨stAt_inj h hn hm (ext_getD (by rw [hl, hl]) fun j hj => (hi j (by rw [hl] at hj; exact hj)).1), stAt_inj h hy hz (ext_getD (by rw [hl, hl]) fun j hj => (hi j (by rw [hl] at hj; exact hj)).2)⟩
def srowN (s : Sy) : Nat → List (List Int)
 | 0 => []
 | n + 1 => srowN s n ++ ((steps s).getD n []).map (rowOf s n)
def lnN (T : List (List Int)) : Nat → Int
 | 0 => 0
 | n + 1 => lnN T n + (T.getD n []).length
theorem srowN_len {s : Sy} : ∀ {n : Nat}, ((srowN s n).length : Int) = lnN (steps s) n
 | 0 => rfl
 | n + 1 => by
  have := @srowN_len s n
  simp only [srowN, lnN, List.length_append, List.length_map]; omega
theorem lnN_bd {T : List (List Int)} {m : Nat} (h : Tb8 T m) : ∀ {n : Nat}, n ≤ m → 0 ≤ lnN T n ∧ lnN T n ≤ 8 * (n : Int)
 | 0, _ => by simp [lnN]
 | n + 1, hn => by
  have h1 := @lnN_bd T m h n (by omega)
  have h2 := h.2.2 _ (getD_mem (d := []) (i := n) (l := T) (by have := h.1.1; omega))
  simp only [lnN]; omega
theorem stepR_nd {s : Sy} (h : valid s) {n : Nat} : (stepR s n).Nodup := by
 unfold stepR
 refine List.pairwise_map.2 (List.Pairwise.imp_of_mem (fun {a b} ha hb hab he => ?_) (nxtN_asc (s := s) (st := stN s n) (k := s.2.length)))
 have h1 := stAt_num h.2.2.1 (nxt_in a ha)
 have h2 := stAt_num h.2.2.1 (nxt_in b hb)
 have : a = b := by rw [← h1, ← h2, he]
 subst this
 have : cmpL a a = 0 := cmpL_self a
 omega
theorem srowN_mem {s : Sy} {x : List Int} : ∀ {n : Nat}, x ∈ srowN s n → ∃ k, k < n ∧ ∃ y ∈ (steps s).getD k [], x = rowOf s k y
 | 0, h => by simp [srowN] at h
 | n + 1, h => by
  simp only [srowN, List.mem_append, List.mem_map] at h
  rcases h with h | ⟨y, hy, rfl⟩
  ·obtain ⟨k, h1, h2⟩ := srowN_mem h; exact ⟨k, by omega, h2⟩
  ·exact ⟨n, Nat.lt_succ_self _, y, hy, rfl⟩
theorem srowN_nd {s : Sy} (h : valid s) : ∀ {n : Nat}, n ≤ szn s.1 → (srowN s n).Nodup
 | 0, _ => List.nodup_nil
 | n + 1, hn => by
  have ht := (steps_tb8 h).1
  simp only [srowN]
  refine List.nodup_append.2 ⟨srowN_nd h (by omega), ?_, ?_⟩
  ·have e : (steps s).getD n [] = stepR s n := tab_get (by omega)
   have hnd := stepR_nd h (n := n)
   rw [← e] at hnd
   refine List.pairwise_map.2 (hnd.imp_of_mem fun {a b} ha hb hab he => hab ?_)
   exact (rowOf_inj h (by omega) (ht.row a ha) (by omega) (ht.row b hb) he).2
  ·intro a ha b hb he
   obtain ⟨k, hk, y, hy, rfl⟩ := srowN_mem ha
   obtain ⟨z, hz, rfl⟩ := List.mem_map.1 hb
   have := (rowOf_inj h (by omega) (ht.row y hy) (by omega) (ht.row z hz) he).1
   omega
theorem C_spec_l10Steps (s : Sy) (hs : FewSy s) (h : nar s) (Q : List AV → Prop) : mc.C f_spec_l10Steps [⟨L V3, s.1⟩, ⟨L TR, s.2⟩] Q = Q [⟨L (L I), srowN s (szn s.1)⟩] := by
 have hv := h.1
 have hz := szn_eq hv
 have ht := steps_tb8 hv
 have hTl := ht.1.1
 have hb := bc_bd hv
 have hsl : ∀ x : Int, (sb s (stAt s.1 x)).length = (bc s.1).toNat := fun x => by have := @sb_len s (stAt s.1 x); omega
 refine Mc.Ends.c (mc.ends F_spec_l10Steps ?_)
 simp (contextual := true) (maxSteps := 1000000) (disch := omega) only [↓Sd, ↓So, ↓Sk, ↓den, ↓denA, Sa, Sb, Sc, Se, O1.d, O2.d, O3.d, cmI, arI, envOf, putN, ↓reduceIte, Nat.reduceLT, Nat.reduceSub, Nat.reduceAdd, Int.reduceAdd, Int.reduceEq, Int.reduceLT, Int.reduceLE, arr_pos, arr_neg, tr_spec_l10Steps, C_spec_l4Steps s hs hv]
 refine mc.lp_for (List (List Int)) (fun i o => [⟨I, (i : Int)⟩, ⟨L V3, s.1⟩, ⟨L TR, s.2⟩, ⟨L (L I), o⟩, ⟨L (L I), steps s⟩]) (fun i o => o = srowN s i) (szn s.1) 0 [] _ rfl (Nat.zero_le _) rfl ?_ ?_
 ·rintro n o hn rfl
  have hr8 : ((steps s).getD n []).length ≤ 8 := ht.2.2 _ (getD_mem (by omega))
  have hb1 := lnN_bd ht (n := n) (by omega)
  have hb2 := @srowN_len s n
  simp (contextual := true) (maxSteps := 1000000) (disch := omega) only [↓Sd, ↓So, ↓Sk, ↓den, ↓denA, Sa, Sb, Sc, Se, O1.d, O2.d, O3.d, cmI, arI, envOf, putN, ↓reduceIte, Nat.reduceLT, Nat.reduceSub, Nat.reduceAdd, Int.reduceAdd, Int.reduceEq, Int.reduceLT, Int.reduceLE, arr_pos, arr_neg, hTl]
  refine mc.lp_for (List (List Int)) (fun i o => [⟨I, (n : Int)⟩, ⟨I, (i : Int)⟩, ⟨L V3, s.1⟩, ⟨L TR, s.2⟩, ⟨L (L I), o⟩, ⟨L (L I), steps s⟩]) (fun i o => o = srowN s n ++ (((steps s).getD n []).take i).map (rowOf s n)) ((steps s).getD n []).length 0 (srowN s n) _ rfl (Nat.zero_le _) (by simp) ?_ ?_
  ·rintro i o hi rfl
   have hy := ht.1.row _ (getD_mem (d := 0) hi)
   have hlt : (((steps s).getD n []).take i).length ≤ 8 := by rw [List.length_take]; omega
   simp (contextual := true) (maxSteps := 1000000) (disch := omega) only [↓Sd, ↓So, ↓Sk, ↓den, ↓denA, Sa, Sb, Sc, Se, O1.d, O2.d, O3.d, cmI, arI, envOf, putN, ↓reduceIte, Nat.reduceLT, Nat.reduceSub, Nat.reduceAdd, Int.reduceAdd, Int.reduceEq, Int.reduceLT, Int.reduceLE, arr_pos, arr_neg, hTl, C_spec_l4State s _ hs hv (by omega : (0 : Int) ≤ (n : Int) ∧ (n : Int) ≤ 3200000), C_spec_l6State s (stAt s.1 (n : Int)) hv (stAt_in hv.2.2.1 (by omega)), C_spec_l4State s (((steps s).getD n []).getD i 0) hs hv (by omega), C_spec_l6State s (stAt s.1 (((steps s).getD n []).getD i 0)) hv (stAt_in hv.2.2.1 (by omega)), C_spec_l10Both (sb s (stAt s.1 (n : Int))) (sb s (stAt s.1 (((steps s).getD n []).getD i 0))) (by rw [hsl, hsl]) (by rw [hsl]; omega), List.length_append, List.length_map]
   rw [← map_next (d := 0) hi, List.append_assoc, rowOf, hsl]
  ·rintro o rfl
   rw [List.take_length]
   simp (contextual := true) (maxSteps := 1000000) (disch := omega) only [↓Sd, ↓So, ↓Sk, ↓den, ↓denA, Sa, Sb, Sc, Se, O1.d, O2.d, O3.d, cmI, arI, envOf, putN, ↓reduceIte, Nat.reduceLT, Nat.reduceSub, Nat.reduceAdd, Int.reduceAdd, Int.reduceEq, Int.reduceLT, Int.reduceLE, arr_pos, arr_neg, hTl]
   rfl
 ·rintro o rfl
  simp (contextual := true) (maxSteps := 1000000) (disch := omega) only [↓Sd, ↓So, ↓Sk, ↓den, ↓denA, Sa, Sb, Sc, Se, O1.d, O2.d, O3.d, cmI, arI, envOf, putN, ↓reduceIte, Nat.reduceLT, Nat.reduceSub, Nat.reduceAdd, Int.reduceAdd, Int.reduceEq, Int.reduceLT, Int.reduceLE, arr_pos, arr_neg, hTl]
theorem C_spec_l10Of (V : Nat) (hV : V ≤ 12) (X : List (List Int)) (hX : X.length ≤ 10000) (hr : ∀ r ∈ X, r.length = V ∧ ∀ x ∈ r, x = 0 ∨ x = 1) (hnd : X.Nodup) {Q : List AV → Prop}
  (hQ : ∀ (F : List (Int × Int × Int)) (n : Int), Dia F V → F.length ≤ 2000 → Cn F V n 0 (X.length : Int) → Q [⟨I, (V : Int)⟩, ⟨L V3, F⟩, ⟨I, n⟩]) :
  mc.C f_spec_l10Of [⟨I, (V : Int)⟩, ⟨L (L I), X⟩] Q := by
 refine mc.c_of F_spec_l10Of ?_
 have hp : 2 ^ V ≤ 2 ^ 12 := Nat.pow_le_pow_right (by omega) hV
 obtain ⟨N, hN⟩ : ∃ N, 2 ^ V = N := ⟨_, rfl⟩
 have hsh : shI true .i64 1 (V : Int) = (N : Int) := by rw [shl_eq hV (by omega), ← hN]; simp
 rw [hN] at hp
 simp (contextual := true) (maxSteps := 1000000) (disch := omega) only [↓Sd, ↓So, ↓Sk, ↓den, ↓denA, Sa, Sb, Sc, Se, O1.d, O2.d, O3.d, cmI, arI, envOf, putN, ↓reduceIte, Nat.reduceLT, Nat.reduceSub, Nat.reduceAdd, Int.reduceAdd, Int.reduceEq, Int.reduceLT, Int.reduceLE, arr_pos, arr_neg, tr_spec_l10Of, hsh, Int.toNat_natCast]
 refine mc.lp_for (List Int) (fun i o => [⟨I, (V : Int)⟩, ⟨L (L I), X⟩, ⟨I, (i : Int)⟩, ⟨I, 0⟩, ⟨L I, o⟩])
  (fun i o => o.length = N ∧ (∀ x ∈ o, x = 0 ∨ x = 1) ∧ smL o = (i : Int) ∧ ∀ j, j < N → o.getD j 0 ≠ 0 → ∃ r ∈ X.take i, nbL r = (j : Int)) X.length 0 (List.replicate N 0) _ rfl (Nat.zero_le _) ⟨by simp, fun x hx => .inl (List.eq_of_mem_replicate hx), smL_zero, fun j hj g => absurd (by simp [List.getD_eq_getElem?_getD, hj]) g⟩ ?_ ?_
 ·rintro i o hi ⟨h1, h2, h3, h4⟩
  have hm := getD_mem (d := []) hi
  have hri := hr _ hm
  have hb := nbN_bd (bit_getD hri.2) (k := (X.getD i []).length)
  rw [hri.1, hN] at hb
  have hnb : nbL (X.getD i []) = nbN (X.getD i []) V := by rw [nbL, hri.1]
  rw [← hnb] at hb
  obtain ⟨c, hc⟩ : ∃ c : Nat, nbL (X.getD i []) = (c : Int) := ⟨(nbL (X.getD i [])).toNat, by omega⟩
  have hcN : c < N := by omega
  have h0 : o.getD c 0 = 0 := Classical.byContradiction fun g => by
   obtain ⟨r, hrm, he⟩ := h4 c hcN g
   have hr2 := hr r (List.mem_of_mem_take hrm)
   have := nbL_inj hr2.2 hri.2 (by rw [hr2.1, hri.1]) (he.trans hc.symm)
   obtain ⟨j, hj, hje⟩ := List.mem_iff_getElem.1 hrm
   rw [List.length_take] at hj
   rw [List.getElem_take] at hje
   rw [this, getD_lt hi] at hje
   have := (List.getElem_inj hnd).1 hje
   omega
  simp (contextual := true) (maxSteps := 1000000) (disch := omega) only [↓Sd, ↓So, ↓Sk, ↓den, ↓denA, Sa, Sb, Sc, Se, O1.d, O2.d, O3.d, cmI, arI, envOf, putN, ↓reduceIte, Nat.reduceLT, Nat.reduceSub, Nat.reduceAdd, Int.reduceAdd, Int.reduceEq, Int.reduceLT, Int.reduceLE, arr_pos, arr_neg, C_spec_l6Number (X.getD i []) hri.2 (by omega), hc, Int.toNat_natCast]
  refine ⟨by rw [List.length_set]; exact h1, fun x hx => ?_, ?_, fun j hj g => ?_⟩
  ·rcases List.mem_or_eq_of_mem_set hx with hx | hx
   ·exact h2 x hx
   ·right; exact hx
  ·rw [smL_set (by omega) h0, h3]
  ·by_cases hjc : j = c
   ·exact ⟨_, (mem_take_succ (d := []) hi).2 (.inr rfl), by rw [hc, hjc]⟩
   ·rw [getD_set_ne (fun e => hjc e.symm)] at g
    obtain ⟨r, hrm, he⟩ := h4 j hj g
    exact ⟨r, (mem_take_succ (d := []) hi).2 (.inl hrm), he⟩
 ·rintro o ⟨h1, h2, h3, -⟩
  have hD : Dia [] V := ⟨fun i hi => absurd hi (Nat.not_lt_zero _), List.nodup_nil⟩
  have hb0 : bigC [] V = 0 := rfl
  have hp2 : 2 ^ (V - 2) ≤ 2 ^ 10 := Nat.pow_le_pow_right (by omega) (by omega)
  simp (contextual := true) (maxSteps := 1000000) (disch := omega) only [↓Sd, ↓So, ↓Sk, ↓den, ↓denA, Sa, Sb, Sc, Se, O1.d, O2.d, O3.d, cmI, arI, envOf, putN, ↓reduceIte, Nat.reduceLT, Nat.reduceSub, Nat.reduceAdd, Int.reduceAdd, Int.reduceEq, Int.reduceLT, Int.reduceLE, arr_pos, arr_neg, ]
  refine C_spec_l8Rows V hV V 0 [] o (by omega) (by rw [h1, hN]) h2 hD (by omega) fun G n hD2 hc2 _ hC => ?_
  rw [List.nil_append] at hD2 hc2 hC ⊢
  have hl := hD2.len
  rw [h3] at hC
  simp (contextual := true) (maxSteps := 1000000) (disch := omega) only [↓Sd, ↓So, ↓Sk, ↓den, ↓denA, Sa, Sb, Sc, Se, O1.d, O2.d, O3.d, cmI, arI, envOf, putN, ↓reduceIte, Nat.reduceLT, Nat.reduceSub, Nat.reduceAdd, Int.reduceAdd, Int.reduceEq, Int.reduceLT, Int.reduceLE, arr_pos, arr_neg, ]
  exact hQ G n hD2 (by omega) hC
theorem C_spec_StepsCount (s : Sy) (hs : FewSy s) (Q : List AV → Prop) : mc.C f_spec_StepsCount [⟨L V3, s.1⟩, ⟨L TR, s.2⟩] Q = Q [⟨I, if nar s then lnN (steps s) (szn s.1) else -1⟩] := by
 refine Mc.Ends.c (mc.ends F_spec_StepsCount ?_)
 simp (contextual := true) (maxSteps := 1000000) (disch := omega) only [↓Sd, ↓So, ↓Sk, ↓den, ↓denA, Sa, Sb, Sc, Se, O1.d, O2.d, O3.d, cmI, arI, envOf, putN, ↓reduceIte, Nat.reduceLT, Nat.reduceSub, Nat.reduceAdd, Int.reduceAdd, Int.reduceEq, Int.reduceLT, Int.reduceLE, arr_pos, arr_neg, tr_spec_StepsCount]
 refine mc.c_of F_spec_StepDiagram ?_
 by_cases h : nar s
 ·obtain ⟨w, hw, hw6⟩ := bc_nat h
  have hv := h.1
  have hz := szn_eq hv
  have hbd := lnN_bd (steps_tb8 hv) (n := szn s.1) (Nat.le_refl _)
  have hlen := @srowN_len s (szn s.1)
  have e2 : 2 * (w : Int) = ((2 * w : Nat) : Int) := by omega
  obtain ⟨V, hVe⟩ : ∃ V, 2 * w = V := ⟨_, rfl⟩
  rw [hVe] at e2
  simp (contextual := true) (maxSteps := 1000000) (disch := omega) only [↓Sd, ↓So, ↓Sk, ↓den, ↓denA, Sa, Sb, Sc, Se, O1.d, O2.d, O3.d, cmI, arI, envOf, putN, ↓reduceIte, Nat.reduceLT, Nat.reduceSub, Nat.reduceAdd, Int.reduceAdd, Int.reduceEq, Int.reduceLT, Int.reduceLE, arr_pos, arr_neg, tr_spec_StepDiagram, C_spec_l10Wide s hs, if_pos h, hw, C_spec_l10Steps s hs h, e2]
  refine C_spec_l10Of V (by omega) (srowN s (szn s.1)) (by omega) (fun r hr => ?_) (srowN_nd hv (Nat.le_refl _)) fun F n hD hF hC => ?_
  ·obtain ⟨k, _, y, _, rfl⟩ := srowN_mem hr
   exact ⟨by rw [rowOf_len, hw]; omega, rowOf_bit⟩
  ·rw [hlen] at hC
   simp (contextual := true) (maxSteps := 1000000) (disch := omega) only [↓Sd, ↓So, ↓Sk, ↓den, ↓denA, Sa, Sb, Sc, Se, O1.d, O2.d, O3.d, cmI, arI, envOf, putN, ↓reduceIte, Nat.reduceLT, Nat.reduceSub, Nat.reduceAdd, Int.reduceAdd, Int.reduceEq, Int.reduceLT, Int.reduceLE, arr_pos, arr_neg, C_spec_DiagramCount V F (by omega) hF hD hC]
 ·simp (contextual := true) (maxSteps := 1000000) (disch := omega) only [↓Sd, ↓So, ↓Sk, ↓den, ↓denA, Sa, Sb, Sc, Se, O1.d, O2.d, O3.d, cmI, arI, envOf, putN, ↓reduceIte, Nat.reduceLT, Nat.reduceSub, Nat.reduceAdd, Int.reduceAdd, Int.reduceEq, Int.reduceLT, Int.reduceLE, arr_pos, arr_neg, tr_spec_StepDiagram, C_spec_l10Wide s hs, if_neg h]
  rw [C_spec_DiagramCount_no]
  simp (contextual := true) (maxSteps := 1000000) (disch := omega) only [↓Sd, ↓So, ↓Sk, ↓den, ↓denA, Sa, Sb, Sc, Se, O1.d, O2.d, O3.d, cmI, arI, envOf, putN, ↓reduceIte, Nat.reduceLT, Nat.reduceSub, Nat.reduceAdd, Int.reduceAdd, Int.reduceEq, Int.reduceLT, Int.reduceLE, arr_pos, arr_neg, ]
theorem C_impl_StepsCount (s : Sy) (hs : FewSy s) (Q : List AV → Prop) : mc.C f_impl_StepsCount [⟨L V3, s.1⟩, ⟨L TR, s.2⟩] Q = Q [⟨I, if nar s then lnN (steps s) (szn s.1) else -1⟩] := by
 refine Mc.Ends.c (mc.ends F_impl_StepsCount ?_)
 by_cases h : nar s
 ·have hv := h.1
  have hz := szn_eq hv
  have ht := steps_tb8 hv
  have hTl := ht.1.1
  rw [if_pos h]
  simp (contextual := true) (maxSteps := 1000000) (disch := omega) only [↓Sd, ↓So, ↓Sk, ↓den, ↓denA, Sa, Sb, Sc, Se, O1.d, O2.d, O3.d, cmI, arI, envOf, putN, ↓reduceIte, Nat.reduceLT, Nat.reduceSub, Nat.reduceAdd, Int.reduceAdd, Int.reduceEq, Int.reduceLT, Int.reduceLE, arr_pos, arr_neg, tr_impl_StepsCount, C_impl_halfNarrow s hs, decide_eq_true h, C_impl_nexts s hv, hTl]
  refine mc.lp_for Int (fun i n => [⟨I, n⟩, ⟨I, (szn s.1 : Int)⟩, ⟨I, (i : Int)⟩, ⟨L (L I), steps s⟩]) (fun i n => n = lnN (steps s) i) (szn s.1) 0 0 _ rfl (Nat.zero_le _) rfl ?_ ?_
  ·rintro i n hi rfl
   have h1 := lnN_bd ht (n := i) (by omega)
   have hr8 : ((steps s).getD i []).length ≤ 8 := ht.2.2 _ (getD_mem (by omega))
   simp (contextual := true) (maxSteps := 1000000) (disch := omega) only [↓Sd, ↓So, ↓Sk, ↓den, ↓denA, Sa, Sb, Sc, Se, O1.d, O2.d, O3.d, cmI, arI, envOf, putN, ↓reduceIte, Nat.reduceLT, Nat.reduceSub, Nat.reduceAdd, Int.reduceAdd, Int.reduceEq, Int.reduceLT, Int.reduceLE, arr_pos, arr_neg, hTl]
   rfl
  ·rintro n rfl
   simp (contextual := true) (maxSteps := 1000000) (disch := omega) only [↓Sd, ↓So, ↓Sk, ↓den, ↓denA, Sa, Sb, Sc, Se, O1.d, O2.d, O3.d, cmI, arI, envOf, putN, ↓reduceIte, Nat.reduceLT, Nat.reduceSub, Nat.reduceAdd, Int.reduceAdd, Int.reduceEq, Int.reduceLT, Int.reduceLE, arr_pos, arr_neg, ]
 ·simp (contextual := true) (maxSteps := 1000000) (disch := omega) only [↓Sd, ↓So, ↓Sk, ↓den, ↓denA, Sa, Sb, Sc, Se, O1.d, O2.d, O3.d, cmI, arI, envOf, putN, ↓reduceIte, Nat.reduceLT, Nat.reduceSub, Nat.reduceAdd, Int.reduceAdd, Int.reduceEq, Int.reduceLT, Int.reduceLE, arr_pos, arr_neg, tr_impl_StepsCount, C_impl_halfNarrow s hs, decide_eq_false h, if_neg h]
theorem D_DrawImageBy (b : List Int) (hb : Byt b) (hl : Lt63 b) {Q : List AV → Prop} (h : ∀ (s : Sy) (l : List Int), SmSy s → l.length ≤ 401 → Q [⟨L V3, s.1⟩, ⟨L TR, s.2⟩, ⟨L I, l⟩]) : mc.C f_spec_DrawImageBy [⟨L U, b⟩] Q := by
 refine mc.c_of F_spec_DrawImageBy ?_
 simp (contextual := true) (maxSteps := 1000000) (disch := omega) only [↓Sd, ↓So, ↓Sk, ↓den, ↓denA, Sa, Sb, Sc, Se, O1.d, O2.d, O3.d, cmI, arI, envOf, putN, ↓reduceIte, Nat.reduceLT, Nat.reduceSub, Nat.reduceAdd, Int.reduceAdd, Int.reduceEq, Int.reduceLT, Int.reduceLE, arr_pos, arr_neg, tr_spec_DrawImageBy]
 refine mc.c_of F_spec_DrawSetDiagram ?_
 simp (contextual := true) (maxSteps := 1000000) (disch := omega) only [↓Sd, ↓So, ↓Sk, ↓den, ↓denA, Sa, Sb, Sc, Se, O1.d, O2.d, O3.d, cmI, arI, envOf, putN, ↓reduceIte, Nat.reduceLT, Nat.reduceSub, Nat.reduceAdd, Int.reduceAdd, Int.reduceEq, Int.reduceLT, Int.reduceLE, arr_pos, arr_neg, tr_spec_DrawSetDiagram]
 refine D_open b hb hl fun b hb => ?_
 simp (contextual := true) (maxSteps := 1000000) (disch := omega) only [↓Sd, ↓So, ↓Sk, ↓den, ↓denA, Sa, Sb, Sc, Se, O1.d, O2.d, O3.d, cmI, arI, envOf, putN, ↓reduceIte, Nat.reduceLT, Nat.reduceSub, Nat.reduceAdd, Int.reduceAdd, Int.reduceEq, Int.reduceLT, Int.reduceLE, arr_pos, arr_neg, ]
 refine D_l10System _ _ hb (by omega) fun s p' _ hs => ?_
 simp (contextual := true) (maxSteps := 1000000) (disch := omega) only [↓Sd, ↓So, ↓Sk, ↓den, ↓denA, Sa, Sb, Sc, Se, O1.d, O2.d, O3.d, cmI, arI, envOf, putN, ↓reduceIte, Nat.reduceLT, Nat.reduceSub, Nat.reduceAdd, Int.reduceAdd, Int.reduceEq, Int.reduceLT, Int.reduceLE, arr_pos, arr_neg, ]
 refine D_l4Some _ _ _ hb (by omega) hs.few fun l p2 h1 h2 => ?_
 simp (contextual := true) (maxSteps := 1000000) (disch := omega) only [↓Sd, ↓So, ↓Sk, ↓den, ↓denA, Sa, Sb, Sc, Se, O1.d, O2.d, O3.d, cmI, arI, envOf, putN, ↓reduceIte, Nat.reduceLT, Nat.reduceSub, Nat.reduceAdd, Int.reduceAdd, Int.reduceEq, Int.reduceLT, Int.reduceLE, arr_pos, arr_neg, ↓wpJoin, ]
 exact h s l hs h2
theorem law_FnImageBy (b : List Int) (hb : Byt b) (hl : Lt63 b) : mc.C f_laws_FnImageBy [⟨L U, b⟩] (· = [⟨B, true⟩]) := by
 refine mc.c_of F_laws_FnImageBy ?_
 simp (contextual := true) (maxSteps := 1000000) (disch := omega) only [↓Sd, ↓So, ↓Sk, ↓den, ↓denA, Sa, Sb, Sc, Se, O1.d, O2.d, O3.d, cmI, arI, envOf, putN, ↓reduceIte, Nat.reduceLT, Nat.reduceSub, Nat.reduceAdd, Int.reduceAdd, Int.reduceEq, Int.reduceLT, Int.reduceLE, arr_pos, arr_neg, tr_laws_FnImageBy]
 intro _
 refine D_DrawImageBy b hb hl fun s l hs hll => ?_
 have hs := hs.few
 have x1 : (if nar s ∧ setV s l then nextN s l else []).length ≤ 400 := ite_few fun h => upTo_few h.1.1
 have x2 : (if nar s ∧ setV s l then pastN s l else []).length ≤ 400 := ite_few fun h => upTo_few h.1.1
 simp (contextual := true) (maxSteps := 1000000) (disch := omega) only [↓Sd, ↓So, ↓Sk, ↓den, ↓denA, Sa, Sb, Sc, Se, O1.d, O2.d, O3.d, cmI, arI, envOf, putN, ↓reduceIte, Nat.reduceLT, Nat.reduceSub, Nat.reduceAdd, Int.reduceAdd, Int.reduceEq, Int.reduceLT, Int.reduceLE, arr_pos, arr_neg, C_impl_ImageBy s l hs (by omega), C_impl_PastBy s l hs (by omega), C_spec_ImageBy s l hs (by omega), C_spec_PastBy s l hs (by omega), C_laws_wcInts (if nar s ∧ setV s l then nextN s l else []) (if nar s ∧ setV s l then nextN s l else []) (by omega) (by omega), C_laws_wcInts (if nar s ∧ setV s l then pastN s l else []) (if nar s ∧ setV s l then pastN s l else []) (by omega) (by omega), C_impl_StepsCount s hs]
 by_cases h : nar s
 ·have hbd := lnN_bd (steps_tb8 h.1) (n := szn s.1) (Nat.le_refl _)
  have e1 : (if nar s ∧ setV s l then nextN s l else []) = (if setV s l then nextN s l else []) := by simp [h]
  have e2 : (if nar s ∧ setV s l then pastN s l else []) = (if setV s l then pastN s l else []) := by simp [h]
  rw [e1] at x1 ⊢
  rw [e2] at x2 ⊢
  simp (contextual := true) (maxSteps := 1000000) (disch := omega) only [↓Sd, ↓So, ↓Sk, ↓den, ↓denA, Sa, Sb, Sc, Se, O1.d, O2.d, O3.d, cmI, arI, envOf, putN, ↓reduceIte, Nat.reduceLT, Nat.reduceSub, Nat.reduceAdd, Int.reduceAdd, Int.reduceEq, Int.reduceLT, Int.reduceLE, arr_pos, arr_neg, if_pos h, C_impl_NextNumbers s l hs (by omega), C_impl_PastNumbers s l hs (by omega), C_laws_wcInts (if setV s l then nextN s l else []) (if setV s l then nextN s l else []) (by omega) (by omega), C_laws_wcInts (if setV s l then pastN s l else []) (if setV s l then pastN s l else []) (by omega) (by omega), C_impl_StepsCount s hs, C_spec_StepsCount s hs]
 ·simp (contextual := true) (maxSteps := 1000000) (disch := omega) only [↓Sd, ↓So, ↓Sk, ↓den, ↓denA, Sa, Sb, Sc, Se, O1.d, O2.d, O3.d, cmI, arI, envOf, putN, ↓reduceIte, Nat.reduceLT, Nat.reduceSub, Nat.reduceAdd, Int.reduceAdd, Int.reduceEq, Int.reduceLT, Int.reduceLE, arr_pos, arr_neg, if_neg h, C_spec_StepsCount s hs]
  simp [h]
end Go.Proofs.YtboikipchhgdlaaGreat
