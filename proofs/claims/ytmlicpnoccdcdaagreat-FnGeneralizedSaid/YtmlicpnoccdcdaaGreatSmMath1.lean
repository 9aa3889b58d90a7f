/- What the trees come to: plain mathematics; no condition. -/
import Derived.Test.YtmlicpnoccdcdaaGreatSmMath0
namespace Go.Proofs.YtmlicpnoccdcdaaGreat
open Go Go.Sm Go.Sm.Q
set_option linter.unusedSimpArgs false
set_option linter.unusedVariables false
def cubeV (c : List Int) (m : Int) : Prop := (0 ≤ m ∧ m ≤ 12) ∧ (c.length : Int) = m ∧ ∀ i, i < c.length → 0 ≤ c.getD i 0 ∧ c.getD i 0 ≤ 2
instance (c : List Int) (m : Int) : Decidable (cubeV c m) := by unfold cubeV; infer_instance
theorem C_impl_CubeValid (c : List Int) (m : Int) (hc : c.length ≤ 1048576) (Q : List AV → Prop) : mc.C f_impl_CubeValid [⟨L I, c⟩, ⟨I, m⟩] Q = Q [⟨B, decide (cubeV c m)⟩] := by
 refine Mc.Ends.c (mc.ends F_impl_CubeValid ?_)
 generalize hK : decide (cubeV c m) = K
 simp (contextual := true) (maxSteps := 1000000) (disch := omega) only [↓Sd, ↓So, ↓Sk, ↓den, ↓denA, Sa, Sb, Sc, Se, O1.d, O2.d, O3.d, cmI, arI, envOf, putN, ↓reduceIte, Nat.reduceLT, Nat.reduceSub, Nat.reduceAdd, Int.reduceAdd, Int.reduceEq, Int.reduceLT, Int.reduceLE, arr_pos, arr_neg, tr_impl_CubeValid, C_impl_in]
 refine ⟨fun h1 => ⟨fun h2 => ?_, fun h2 => ?_⟩, fun h1 => ?_⟩
 ·refine lp_all (fun i => [⟨L I, c⟩, ⟨I, m⟩, ⟨I, (i : Int)⟩]) (fun i => 0 ≤ c.getD i 0 ∧ c.getD i 0 ≤ 2) c.length _ rfl ?_ ?_
  ·intro i hi
   have hno : ¬ (0 ≤ c.getD i 0 ∧ c.getD i 0 ≤ 2) → false = K := fun g => by rw [← hK, decide_eq_false]; exact fun g1 => g (g1.2.2 i hi)
   simp (contextual := true) (maxSteps := 1000000) (disch := omega) only [↓Sd, ↓So, ↓Sk, ↓den, ↓denA, Sa, Sb, Sc, Se, O1.d, O2.d, O3.d, cmI, arI, envOf, putN, ↓reduceIte, Nat.reduceLT, Nat.reduceSub, Nat.reduceAdd, Int.reduceAdd, Int.reduceEq, Int.reduceLT, Int.reduceLE, arr_pos, arr_neg, C_impl_in]
   intro g
   have := hno g
   have h0 : (i : Int) ≥ 0 := by omega
   simpa [h0] using this
  ·intro g
   simp (contextual := true) (maxSteps := 1000000) (disch := omega) only [↓Sd, ↓So, ↓Sk, ↓den, ↓denA, Sa, Sb, Sc, Se, O1.d, O2.d, O3.d, cmI, arI, envOf, putN, ↓reduceIte, Nat.reduceLT, Nat.reduceSub, Nat.reduceAdd, Int.reduceAdd, Int.reduceEq, Int.reduceLT, Int.reduceLE, arr_pos, arr_neg, ]
   rw [← hK, decide_eq_true (show cubeV c m from ⟨h1, h2, g⟩)]
   rfl
 ·rw [← hK, decide_eq_false]; exact fun g => h2 g.2.1
 ·rw [← hK, decide_eq_false]; exact fun g => h1 g.1
theorem C_spec_CubeValid (c : List Int) (m : Int) (hc : c.length ≤ 1048576) (Q : List AV → Prop) : mc.C f_spec_CubeValid [⟨L I, c⟩, ⟨I, m⟩] Q = Q [⟨B, decide (cubeV c m)⟩] := by
 refine Mc.Ends.c (mc.ends F_spec_CubeValid ?_)
 generalize hK : decide (cubeV c m) = K
 simp (contextual := true) (maxSteps := 1000000) (disch := omega) only [↓Sd, ↓So, ↓Sk, ↓den, ↓denA, Sa, Sb, Sc, Se, O1.d, O2.d, O3.d, cmI, arI, envOf, putN, ↓reduceIte, Nat.reduceLT, Nat.reduceSub, Nat.reduceAdd, Int.reduceAdd, Int.reduceEq, Int.reduceLT, Int.reduceLE, arr_pos, arr_neg, tr_spec_CubeValid]
 refine lp_all (fun i => [⟨L I, c⟩, ⟨I, m⟩, ⟨I, (i : Int)⟩]) (fun i => 0 ≤ c.getD i 0 ∧ c.getD i 0 ≤ 2) c.length _ rfl ?_ ?_
 ·intro i hi
  have hno : ¬ (0 ≤ c.getD i 0 ∧ c.getD i 0 ≤ 2) → false = K := fun g => by rw [← hK, decide_eq_false]; exact fun g1 => g (g1.2.2 i hi)
  simp (contextual := true) (maxSteps := 1000000) (disch := omega) only [↓Sd, ↓So, ↓Sk, ↓den, ↓denA, Sa, Sb, Sc, Se, O1.d, O2.d, O3.d, cmI, arI, envOf, putN, ↓reduceIte, Nat.reduceLT, Nat.reduceSub, Nat.reduceAdd, Int.reduceAdd, Int.reduceEq, Int.reduceLT, Int.reduceLE, arr_pos, arr_neg, C_spec_l1In]
  exact hno
 ·intro g
  simp (contextual := true) (maxSteps := 1000000) (disch := omega) only [↓Sd, ↓So, ↓Sk, ↓den, ↓denA, Sa, Sb, Sc, Se, O1.d, O2.d, O3.d, cmI, arI, envOf, putN, ↓reduceIte, Nat.reduceLT, Nat.reduceSub, Nat.reduceAdd, Int.reduceAdd, Int.reduceEq, Int.reduceLT, Int.reduceLE, arr_pos, arr_neg, C_spec_l1In]
  rw [← hK]
  refine ⟨fun h1 => decide_eq_decide.2 ⟨fun h2 => ⟨h1, h2, g⟩, fun h2 => h2.2.1⟩, fun h1 => ?_⟩
  rw [eq_comm, decide_eq_false]; exact fun g => h1 g.1
noncomputable def inC (s : Sy) (c : List Int) (n : Nat) : Bool := dB (cHas c (sb s (stN s n)))
theorem cube_len {s : Sy} {c : List Int} (hc : (c.length : Int) = bc s.1) {st : List Int} : c.length = (sb s st).length := by have := @sb_len s st; omega
theorem C_impl_cubeStates (s : Sy) (c : List Int) (h : valid s) (hc : (c.length : Int) = bc s.1) (Q : List AV → Prop) : mc.C f_impl_cubeStates [⟨L V3, s.1⟩, ⟨L TR, s.2⟩, ⟨L I, c⟩] Q = Q [⟨L I, upTo (inC s c) (szn s.1)⟩] := by
 have hz := szn_eq h
 have hb := bc_bd h
 have h5 := h.1.2
 have hv := h.2.2.1
 refine Mc.Ends.c (mc.ends F_impl_cubeStates ?_)
 simp (contextual := true) (maxSteps := 1000000) (disch := omega) only [↓Sd, ↓So, ↓Sk, ↓den, ↓denA, Sa, Sb, Sc, Se, O1.d, O2.d, O3.d, cmI, arI, envOf, putN, ↓reduceIte, Nat.reduceLT, Nat.reduceSub, Nat.reduceAdd, Int.reduceAdd, Int.reduceEq, Int.reduceLT, Int.reduceLE, arr_pos, arr_neg, tr_impl_cubeStates, C_impl_size s.1 h5 hv, ← hz.1, List.length_replicate]
 refine mc.lp_for (List Bool) (fun i o => [⟨L I, c⟩, ⟨I, (szn s.1 : Int)⟩, ⟨I, (i : Int)⟩, ⟨L V3, s.1⟩, ⟨L TR, s.2⟩, ⟨L B, o⟩]) (fun i o => o = tab (inC s c) i ++ List.replicate (szn s.1 - i) false) (szn s.1) 0 (List.replicate (szn s.1) false) _ rfl (Nat.zero_le _) rfl ?_ ?_
 ·rintro i o hi rfl
  have hin := stN_in h hi
  have hst : stAt s.1 (i : Int) = stN s i := rfl
  simp (contextual := true) (maxSteps := 1000000) (disch := omega) only [↓Sd, ↓So, ↓Sk, ↓den, ↓denA, Sa, Sb, Sc, Se, O1.d, O2.d, O3.d, cmI, arI, envOf, putN, ↓reduceIte, Nat.reduceLT, Nat.reduceSub, Nat.reduceAdd, Int.reduceAdd, Int.reduceEq, Int.reduceLT, Int.reduceLE, arr_pos, arr_neg, C_impl_stateAt s i h5 hv (by omega), hst, C_impl_stateBits s (stN s i) h hin, C_impl_cubeHas c (sb s (stN s i)) (by omega) (cube_len hc), tab_len, List.length_replicate]
  exact tab_set hi rfl
 ·rintro o rfl
  rw [Nat.sub_self, List.replicate_zero, List.append_nil]
  simp (contextual := true) (maxSteps := 1000000) (disch := omega) only [↓Sd, ↓So, ↓Sk, ↓den, ↓denA, Sa, Sb, Sc, Se, O1.d, O2.d, O3.d, cmI, arI, envOf, putN, ↓reduceIte, Nat.reduceLT, Nat.reduceSub, Nat.reduceAdd, Int.reduceAdd, Int.reduceEq, Int.reduceLT, Int.reduceLE, arr_pos, arr_neg, C_impl_listOf_tab (inC s c) (szn s.1) (by omega)]
theorem C_spec_l16States (s : Sy) (c : List Int) (hs : FewSy s) (h : valid s) (hc : (c.length : Int) = bc s.1) (Q : List AV → Prop) : mc.C f_spec_l16States [⟨L V3, s.1⟩, ⟨L TR, s.2⟩, ⟨L I, c⟩] Q = Q [⟨L I, upTo (inC s c) (szn s.1)⟩] := by
 have hz := szn_eq h
 have hb := bc_bd h
 refine Mc.Ends.c (mc.ends F_spec_l16States ?_)
 simp (contextual := true) (maxSteps := 1000000) (disch := omega) only [↓Sd, ↓So, ↓Sk, ↓den, ↓denA, Sa, Sb, Sc, Se, O1.d, O2.d, O3.d, cmI, arI, envOf, putN, ↓reduceIte, Nat.reduceLT, Nat.reduceSub, Nat.reduceAdd, Int.reduceAdd, Int.reduceEq, Int.reduceLT, Int.reduceLE, arr_pos, arr_neg, tr_spec_l16States]
 refine mc.lp_for (List Int) (fun i o => [⟨L I, c⟩, ⟨I, (i : Int)⟩, ⟨L V3, s.1⟩, ⟨L TR, s.2⟩, ⟨L I, o⟩]) (fun i o => o = upTo (inC s c) i) (szn s.1) 0 [] _ rfl (Nat.zero_le _) rfl ?_ ?_
 ·rintro i o hi rfl
  have hin := stN_in h hi
  have hst : stAt s.1 (i : Int) = stN s i := rfl
  have hlen := @upTo_len (inC s c) i
  simp (contextual := true) (maxSteps := 1000000) (disch := omega) only [↓Sd, ↓So, ↓Sk, ↓den, ↓denA, Sa, Sb, Sc, Se, O1.d, O2.d, O3.d, cmI, arI, envOf, putN, ↓reduceIte, Nat.reduceLT, Nat.reduceSub, Nat.reduceAdd, Int.reduceAdd, Int.reduceEq, Int.reduceLT, Int.reduceLE, arr_pos, arr_neg, ↓wpJoin, C_spec_SizeOf s hs, h, C_spec_l4State s i hs h (by omega), hst, C_spec_l6State s (stN s i) h hin, C_spec_l16Has c (sb s (stN s i)) (by omega) (cube_len hc)]
  exact ⟨fun g => (upTo_s g).symm, fun g => (upTo_n g).symm⟩
 ·rintro o rfl
  simp (contextual := true) (maxSteps := 1000000) (disch := omega) only [↓Sd, ↓So, ↓Sk, ↓den, ↓denA, Sa, Sb, Sc, Se, O1.d, O2.d, O3.d, cmI, arI, envOf, putN, ↓reduceIte, Nat.reduceLT, Nat.reduceSub, Nat.reduceAdd, Int.reduceAdd, Int.reduceEq, Int.reduceLT, Int.reduceLE, arr_pos, arr_neg, C_spec_SizeOf s hs, h]
theorem C_spec_l16Cube (s : Sy) (c : List Int) (hs : FewSy s) (hc : c.length ≤ 1048576) (Q : List AV → Prop) : mc.C f_spec_l16Cube [⟨L V3, s.1⟩, ⟨L TR, s.2⟩, ⟨L I, c⟩] Q = Q [⟨B, decide (valid s ∧ cubeV c (bc s.1))⟩] := by
 refine Mc.Ends.c (mc.ends F_spec_l16Cube ?_)
 generalize hK : decide (valid s ∧ cubeV c (bc s.1)) = K
 simp (contextual := true) (maxSteps := 1000000) (disch := omega) only [↓Sd, ↓So, ↓Sk, ↓den, ↓denA, Sa, Sb, Sc, Se, O1.d, O2.d, O3.d, cmI, arI, envOf, putN, ↓reduceIte, Nat.reduceLT, Nat.reduceSub, Nat.reduceAdd, Int.reduceAdd, Int.reduceEq, Int.reduceLT, Int.reduceLE, arr_pos, arr_neg, tr_spec_l16Cube, C_spec_SystemValid s hs]
 refine ⟨fun h => ?_, fun h => ?_⟩
 ·have e : sumN (bw s.1) s.1.length = bc s.1 := rfl
  simp (contextual := true) (maxSteps := 1000000) (disch := omega) only [↓Sd, ↓So, ↓Sk, ↓den, ↓denA, Sa, Sb, Sc, Se, O1.d, O2.d, O3.d, cmI, arI, envOf, putN, ↓reduceIte, Nat.reduceLT, Nat.reduceSub, Nat.reduceAdd, Int.reduceAdd, Int.reduceEq, Int.reduceLT, Int.reduceLE, arr_pos, arr_neg, C_spec_l6Widths s h, C_spec_l6Sum (bw s.1) s.1.length h.1.2 (bw_bd s.1), e, C_spec_CubeValid c _ hc]
  rw [← hK]; exact decide_eq_decide.2 ⟨fun g => ⟨h, g⟩, fun g => g.2⟩
 ·rw [← hK, decide_eq_false fun g => h g.1]
def blk (s : Sy) (F c : List Int) : Prop := inC s c (num s.1 (fst0 s.1)).toNat = false ∧ ∀ x ∈ F, inC s c x.toNat = false → ∀ y ∈ (steps s).getD x.toNat [], inC s c y.toNat = false
theorem first_n {s : Sy} (h : valid s) : ∃ m : Nat, num s.1 (fst0 s.1) = m ∧ m < szn s.1 := by
 have h1 := num_bd h.2.2.1 (fst0_in h.2.2.1)
 have h2 := szn_eq h
 exact ⟨(num s.1 (fst0 s.1)).toNat, by omega, by omega⟩
theorem upTo_marks {p : Nat → Bool} {n : Nat} : tab (fun k => dB ((k : Int) ∈ upTo p n)) n = tab p n := tab_congr fun k hk => by rw [dB_upTo]; simp [hk]
theorem C_impl_blockedBy (s : Sy) (F c : List Int) (h : valid s) (hF : F.length ≤ 1048576 ∧ ∀ x ∈ F, 0 ≤ x ∧ x < (szn s.1 : Int)) (hc : (c.length : Int) = bc s.1) (Q : List AV → Prop) :
  mc.C f_impl_blockedBy [⟨L V3, s.1⟩, ⟨L TR, s.2⟩, ⟨L (L I), steps s⟩, ⟨L I, F⟩, ⟨L I, c⟩] Q = Q [⟨B, dB (blk s F c)⟩] := by
 have hz := szn_eq h
 have h5 := h.1.2
 have hv := h.2.2.1
 have ht := steps_tbl h
 have hT := ht.1
 obtain ⟨m, hm, hmn⟩ := first_n h
 refine Mc.Ends.c (mc.ends F_impl_blockedBy ?_)
 generalize hK : dB (blk s F c) = K
 simp (contextual := true) (maxSteps := 1000000) (disch := omega) only [↓Sd, ↓So, ↓Sk, ↓den, ↓denA, Sa, Sb, Sc, Se, O1.d, O2.d, O3.d, cmI, arI, envOf, putN, ↓reduceIte, Nat.reduceLT, Nat.reduceSub, Nat.reduceAdd, Int.reduceAdd, Int.reduceEq, Int.reduceLT, Int.reduceLE, arr_pos, arr_neg, tr_impl_blockedBy, C_impl_cubeStates s c h hc, C_impl_size s.1 h5 hv, C_impl_marks_i (upTo (inC s c) (szn s.1)) (sz s.1) (szn s.1) hz.1.symm (by omega) (by have := @upTo_len (inC s c) (szn s.1); omega) (lset_mem (upTo_lset (Nat.le_refl _))), upTo_marks, ↓wpJoin]
 simp (contextual := true) (maxSteps := 1000000) (disch := omega) only [↓Sd, ↓So, ↓Sk, ↓den, ↓denA, Sa, Sb, Sc, Se, O1.d, O2.d, O3.d, cmI, arI, envOf, putN, ↓reduceIte, Nat.reduceLT, Nat.reduceSub, Nat.reduceAdd, Int.reduceAdd, Int.reduceEq, Int.reduceLT, Int.reduceLE, arr_pos, arr_neg, C_impl_first s h5, C_impl_number s _ h5 hv (fst0_in hv), hm, tab_len, tab_get hmn]
 refine ⟨fun g => ?_, fun g => ?_⟩
 ·rw [← hK, dB_f]; intro g1; have := g1.1; rw [hm] at this; simp only [Int.toNat_natCast] at this; rw [g] at this; cases this
 refine lp_all (fun i => [⟨L I, F⟩, ⟨I, (F.length : Int)⟩, ⟨I, (i : Int)⟩, ⟨L B, tab (inC s c) (szn s.1)⟩, ⟨L (L I), steps s⟩]) (fun i => inC s c (F.getD i 0).toNat = false → ∀ y ∈ (steps s).getD (F.getD i 0).toNat [], inC s c y.toNat = false) F.length _ rfl ?_ ?_
 ·intro i hi
  have hx := hF.2 _ (getD_mem (d := 0) hi)
  obtain ⟨x, hxe⟩ : ∃ x : Nat, F.getD i 0 = x := ⟨(F.getD i 0).toNat, by omega⟩
  have hxn : x < szn s.1 := by omega
  have hno : ¬ (inC s c x = false → ∀ y ∈ (steps s).getD x [], inC s c y.toNat = false) → false = K := fun g => by
   rw [← hK, dB_f]
   refine fun g1 => g fun g2 => ?_
   have := g1.2 _ (getD_mem (d := 0) hi)
   rw [hxe] at this
   exact this g2
  have hrow := ht.row (i := x)
  have hrl : ((steps s).getD x []).length ≤ 1048576 := (ht.2 _ (getD_mem (by omega))).1
  simp (contextual := true) (maxSteps := 1000000) (disch := omega) only [↓Sd, ↓So, ↓Sk, ↓den, ↓denA, Sa, Sb, Sc, Se, O1.d, O2.d, O3.d, cmI, arI, envOf, putN, ↓reduceIte, Nat.reduceLT, Nat.reduceSub, Nat.reduceAdd, Int.reduceAdd, Int.reduceEq, Int.reduceLT, Int.reduceLE, arr_pos, arr_neg, ↓wpJoin, hxe, hT, tab_len, tab_get hxn]
  intro g
  refine lp_all (fun j => [⟨L I, (steps s).getD x []⟩, ⟨I, (((steps s).getD x []).length : Int)⟩, ⟨I, (j : Int)⟩, ⟨L I, F⟩, ⟨I, (i : Int)⟩, ⟨I, (F.length : Int)⟩, ⟨I, (i : Int)⟩, ⟨L B, tab (inC s c) (szn s.1)⟩, ⟨L (L I), steps s⟩]) (fun j => inC s c (((steps s).getD x []).getD j 0).toNat = false) ((steps s).getD x []).length _ rfl ?_ ?_
  ·intro j hj
   have hy := hrow _ (getD_mem (d := 0) hj)
   obtain ⟨y, hye⟩ : ∃ y : Nat, ((steps s).getD x []).getD j 0 = y := ⟨(((steps s).getD x []).getD j 0).toNat, by omega⟩
   have hyn : y < szn s.1 := by omega
   simp (contextual := true) (maxSteps := 1000000) (disch := omega) only [↓Sd, ↓So, ↓Sk, ↓den, ↓denA, Sa, Sb, Sc, Se, O1.d, O2.d, O3.d, cmI, arI, envOf, putN, ↓reduceIte, Nat.reduceLT, Nat.reduceSub, Nat.reduceAdd, Int.reduceAdd, Int.reduceEq, Int.reduceLT, Int.reduceLE, arr_pos, arr_neg, hye, tab_len, tab_get hyn]
   intro g1
   have h0 : (i : Int) ≥ 0 := by omega
   have := hno fun g2 => by
    have := g2 g _ (getD_mem (d := 0) hj)
    rw [hye] at this
    simp only [Int.toNat_natCast] at this
    rw [g1] at this; cases this
   simpa [h0] using this
  ·intro g1
   simp (contextual := true) (maxSteps := 1000000) (disch := omega) only [↓Sd, ↓So, ↓Sk, ↓den, ↓denA, Sa, Sb, Sc, Se, O1.d, O2.d, O3.d, cmI, arI, envOf, putN, ↓reduceIte, Nat.reduceLT, Nat.reduceSub, Nat.reduceAdd, Int.reduceAdd, Int.reduceEq, Int.reduceLT, Int.reduceLE, arr_pos, arr_neg, ]
   exact all_get (p := fun y : Int => inC s c y.toNat = false) (d := 0) g1
 ·intro g1
  simp (contextual := true) (maxSteps := 1000000) (disch := omega) only [↓Sd, ↓So, ↓Sk, ↓den, ↓denA, Sa, Sb, Sc, Se, O1.d, O2.d, O3.d, cmI, arI, envOf, putN, ↓reduceIte, Nat.reduceLT, Nat.reduceSub, Nat.reduceAdd, Int.reduceAdd, Int.reduceEq, Int.reduceLT, Int.reduceLE, arr_pos, arr_neg, ]
  rw [← hK, dB_t]
  ·rfl
  ·refine ⟨by rw [hm]; simpa using g, fun x hx => ?_⟩
   obtain ⟨i, hi, rfl⟩ := List.getElem_of_mem hx
   have := g1 i hi
   rwa [getD_lt hi] at this
theorem C_spec_l4Mix0 (a b : List Int) (N : Nat) (hN : N = 400) (ha : lset a 400) (hb : lset b 400) (Q : List AV → Prop) : mc.C f_spec_l4Mix [⟨L I, a⟩, ⟨L I, b⟩, ⟨I, 0⟩] Q = Q [⟨L I, upTo (fun k => dB ((k : Int) ∈ a) && dB ((k : Int) ∈ b)) N⟩] := by
 have la := lset_len ha (by omega)
 have lb := lset_len hb (by omega)
 have ma := lset_mem ha
 have mb := lset_mem hb
 refine Mc.Ends.c (mc.ends F_spec_l4Mix ?_)
 simp (contextual := true) (maxSteps := 1000000) (disch := omega) only [↓Sd, ↓So, ↓Sk, ↓den, ↓denA, Sa, Sb, Sc, Se, O1.d, O2.d, O3.d, cmI, arI, envOf, putN, ↓reduceIte, Nat.reduceLT, Nat.reduceSub, Nat.reduceAdd, Int.reduceAdd, Int.reduceEq, Int.reduceLT, Int.reduceLE, arr_pos, arr_neg, tr_spec_l4Mix, C_spec_l4Set a (by omega), C_spec_l4Set b (by omega), ha, hb, C_spec_l4Marks_i a 400 N (by omega) (by omega) (by omega) (fun x hx => by have := ma x hx; omega), C_spec_l4Marks_i b 400 N (by omega) (by omega) (by omega) (fun x hx => by have := mb x hx; omega)]
 refine mc.lp_for (List Int) (fun i o => [⟨I, 0⟩, ⟨I, (i : Int)⟩, ⟨L I, o⟩, ⟨L B, tab (fun k => dB ((k : Int) ∈ a)) N⟩, ⟨L B, tab (fun k => dB ((k : Int) ∈ b)) N⟩]) (fun i o => o = upTo (fun k => dB ((k : Int) ∈ a) && dB ((k : Int) ∈ b)) i) N 0 [] _ rfl (Nat.zero_le _) rfl ?_ ?_
 ·rintro i o hi rfl
  have hl := @upTo_len (fun k => dB ((k : Int) ∈ a) && dB ((k : Int) ∈ b)) i
  simp (contextual := true) (maxSteps := 1000000) (disch := omega) only [↓Sd, ↓So, ↓Sk, ↓den, ↓denA, Sa, Sb, Sc, Se, O1.d, O2.d, O3.d, cmI, arI, envOf, putN, ↓reduceIte, Nat.reduceLT, Nat.reduceSub, Nat.reduceAdd, Int.reduceAdd, Int.reduceEq, Int.reduceLT, Int.reduceLE, arr_pos, arr_neg, ]
  refine mc.wp_join (fun us => us = [⟨I, 0⟩, ⟨I, (i : Int)⟩, ⟨L I, upTo (fun k => dB ((k : Int) ∈ a) && dB ((k : Int) ∈ b)) (i + 1)⟩, ⟨L B, tab (fun k => dB ((k : Int) ∈ a)) N⟩, ⟨L B, tab (fun k => dB ((k : Int) ∈ b)) N⟩]) ?_ (by rintro _ rfl; simp (contextual := true) (maxSteps := 1000000) (disch := omega) only [↓Sd, ↓So, ↓Sk, ↓den, ↓denA, Sa, Sb, Sc, Se, O1.d, O2.d, O3.d, cmI, arI, envOf, putN, ↓reduceIte, Nat.reduceLT, Nat.reduceSub, Nat.reduceAdd, Int.reduceAdd, Int.reduceEq, Int.reduceLT, Int.reduceLE, arr_pos, arr_neg, ])
  simp only [upTo]
  simp (contextual := true) (maxSteps := 1000000) (disch := omega) only [↓Sd, ↓So, ↓Sk, ↓den, ↓denA, Sa, Sb, Sc, Se, O1.d, O2.d, O3.d, cmI, arI, envOf, putN, ↓reduceIte, Nat.reduceLT, Nat.reduceSub, Nat.reduceAdd, Int.reduceAdd, Int.reduceEq, Int.reduceLT, Int.reduceLE, arr_pos, arr_neg, tab_len, tab_get hi, Bool.and_eq_true, Bool.true_and, Bool.and_true, Bool.and_false, Bool.false_and]
 ·rintro o rfl
  simp (contextual := true) (maxSteps := 1000000) (disch := omega) only [↓Sd, ↓So, ↓Sk, ↓den, ↓denA, Sa, Sb, Sc, Se, O1.d, O2.d, O3.d, cmI, arI, envOf, putN, ↓reduceIte, Nat.reduceLT, Nat.reduceSub, Nat.reduceAdd, Int.reduceAdd, Int.reduceEq, Int.reduceLT, Int.reduceLE, arr_pos, arr_neg, ]
theorem C_spec_SetBoth (a b : List Int) (ha : lset a 400) (hb : lset b 400) (Q : List AV → Prop) : mc.C f_spec_SetBoth [⟨L I, a⟩, ⟨L I, b⟩] Q = Q [⟨L I, upTo (fun k => dB ((k : Int) ∈ a) && dB ((k : Int) ∈ b)) 400⟩] := by
 refine Mc.Ends.c (mc.ends F_spec_SetBoth ?_)
 obtain ⟨N, hN⟩ : ∃ N : Nat, N = 400 := ⟨_, rfl⟩
 rw [← hN]
 simp (contextual := true) (maxSteps := 1000000) (disch := omega) only [↓Sd, ↓So, ↓Sk, ↓den, ↓denA, Sa, Sb, Sc, Se, O1.d, O2.d, O3.d, cmI, arI, envOf, putN, ↓reduceIte, Nat.reduceLT, Nat.reduceSub, Nat.reduceAdd, Int.reduceAdd, Int.reduceEq, Int.reduceLT, Int.reduceLE, arr_pos, arr_neg, tr_spec_SetBoth, C_spec_l4Mix0 a b N hN ha hb]
theorem lset_mono {l : List Int} {n m : Int} (h : lset l n) (hm : n ≤ m) : lset l m := fun i hi => ⟨⟨(h i hi).1.1, by have := (h i hi).1.2; omega⟩, (h i hi).2⟩
theorem upTo_pos {p : Nat → Bool} {n : Nat} : 0 < (upTo p n).length ↔ ∃ k, k < n ∧ p k = true := by
 constructor
 ·intro h
  obtain ⟨k, h1, _, h3⟩ := upTo_mem.1 (getD_mem (d := 0) h)
  exact ⟨k, h1, h3⟩
 ·rintro ⟨k, h1, h2⟩
  exact List.length_pos_of_mem (upTo_mem.2 ⟨k, h1, rfl, h2⟩)
theorem C_spec_l17Ordered (l : List Int) (N : Nat) (hN : N = 400) (hl : l.length ≤ 1048576) (h : ∀ x ∈ l, 0 ≤ x ∧ x < (N : Int)) (Q : List AV → Prop) : mc.C f_spec_l17Ordered [⟨L I, l⟩] Q = Q [⟨L I, upTo (fun k => dB ((k : Int) ∈ l)) N⟩] := by
 refine Mc.Ends.c (mc.ends F_spec_l17Ordered ?_)
 simp (contextual := true) (maxSteps := 1000000) (disch := omega) only [↓Sd, ↓So, ↓Sk, ↓den, ↓denA, Sa, Sb, Sc, Se, O1.d, O2.d, O3.d, cmI, arI, envOf, putN, ↓reduceIte, Nat.reduceLT, Nat.reduceSub, Nat.reduceAdd, Int.reduceAdd, Int.reduceEq, Int.reduceLT, Int.reduceLE, arr_pos, arr_neg, tr_spec_l17Ordered]
 refine mc.lp_for (List Bool) (fun i o => [⟨L I, l⟩, ⟨I, (i : Int)⟩, ⟨L B, o⟩]) (fun i o => o = tab (fun k => dB ((k : Int) ∈ l.take i)) N) l.length 0 (List.replicate N false) _ (by rw [hN]; rfl) (Nat.zero_le _) ?_ ?_ ?_
 ·rw [rep_tab]; exact tab_congr fun k _ => (dB_f (by simp)).symm
 ·rintro i o hi rfl
  have hx := h _ (getD_mem (d := 0) hi)
  simp (contextual := true) (maxSteps := 1000000) (disch := omega) only [↓Sd, ↓So, ↓Sk, ↓den, ↓denA, Sa, Sb, Sc, Se, O1.d, O2.d, O3.d, cmI, arI, envOf, putN, ↓reduceIte, Nat.reduceLT, Nat.reduceSub, Nat.reduceAdd, Int.reduceAdd, Int.reduceEq, Int.reduceLT, Int.reduceLE, arr_pos, arr_neg, tab_len, tab_set']
  refine tab_congr fun k hk => ?_
  by_cases hk2 : k = (l.getD i 0).toNat
  ·rw [if_pos hk2, dB_t]; exact (mem_take_next hi).2 (.inr (by omega))
  ·rw [if_neg hk2]; refine dB_congr ?_
   rw [mem_take_next hi]
   exact ⟨.inl, fun h => h.elim id fun h => absurd h (by omega)⟩
 ·rintro o rfl
  rw [List.take_length]
  simp (contextual := true) (maxSteps := 1000000) (disch := omega) only [↓Sd, ↓So, ↓Sk, ↓den, ↓denA, Sa, Sb, Sc, Se, O1.d, O2.d, O3.d, cmI, arI, envOf, putN, ↓reduceIte, Nat.reduceLT, Nat.reduceSub, Nat.reduceAdd, Int.reduceAdd, Int.reduceEq, Int.reduceLT, Int.reduceLE, arr_pos, arr_neg, C_spec_l4List_tab _ N (by omega : N ≤ 1048576)]
theorem C_spec_l17Blocked (s : Sy) (F c : List Int) (hs : FewSy s) (h : valid s) (hF : lset F (szn s.1)) (hc : (c.length : Int) = bc s.1) (Q : List AV → Prop) :
  mc.C f_spec_l17Blocked [⟨L V3, s.1⟩, ⟨L TR, s.2⟩, ⟨L (L I), steps s⟩, ⟨L I, F⟩, ⟨L I, c⟩] Q = Q [⟨B, dB (blk s F c)⟩] := by
 have hz := szn_eq h
 have h5 := h.1.2
 have hv := h.2.2.1
 have ht := steps_tbl h
 have hT := ht.1
 obtain ⟨m, hm, hmn⟩ := first_n h
 have hCl := @upTo_len (inC s c) (szn s.1)
 have hCs : lset (upTo (inC s c) (szn s.1)) 400 := upTo_lset (m := 400) (by omega)
 have hFs : lset F 400 := lset_mono hF (by omega)
 have hFm := lset_mem hF
 refine Mc.Ends.c (mc.ends F_spec_l17Blocked ?_)
 generalize hK : dB (blk s F c) = K
 simp (contextual := true) (maxSteps := 1000000) (disch := omega) only [↓Sd, ↓So, ↓Sk, ↓den, ↓denA, Sa, Sb, Sc, Se, O1.d, O2.d, O3.d, cmI, arI, envOf, putN, ↓reduceIte, Nat.reduceLT, Nat.reduceSub, Nat.reduceAdd, Int.reduceAdd, Int.reduceEq, Int.reduceLT, Int.reduceLE, arr_pos, arr_neg, tr_spec_l17Blocked, C_spec_l16States s c hs h hc, C_spec_FirstState s hs h, C_spec_l4Number s _ h5 hv (fst0_in hv), hm, C_spec_l2Has _ (m : Int) (by omega : (upTo (inC s c) (szn s.1)).length ≤ 1048576), dB_upTo, hmn, C_spec_SetWithout F (upTo (inC s c) (szn s.1)) hFs hCs]
 simp only [decide_true, Bool.true_and]
 refine ⟨fun g => ?_, fun g => ?_⟩
 ·rw [← hK, dB_f]; intro g1; have := g1.1; rw [hm] at this; simp only [Int.toNat_natCast] at this; rw [g] at this; cases this
 generalize hfr : upTo (fun k => dB ((k : Int) ∈ F) && !(decide (k < szn s.1) && inC s c k)) 400 = fr
 have hfm : ∀ x, x ∈ fr ↔ x ∈ F ∧ inC s c x.toNat = false := by
  intro x
  rw [← hfr, upTo_mem]
  constructor
  ·rintro ⟨k, h1, rfl, h2⟩
   simp only [Bool.and_eq_true, Bool.not_eq_true', Bool.and_eq_false_iff, decide_eq_false_iff_not] at h2
   have h3 := dB_iff.1 h2.1
   have h4 := hFm _ h3
   exact ⟨h3, h2.2.elim (fun h5 => absurd h4.2 (by omega)) (by simp)⟩
  ·rintro ⟨h1, h2⟩
   have h4 := hFm _ h1
   refine ⟨x.toNat, by omega, by omega, ?_⟩
   rw [show ((x.toNat : Nat) : Int) = x by omega, dB_t h1, h2]
   simp
 have hfl : fr.length ≤ 400 := by rw [← hfr]; exact upTo_len
 refine lp_all (fun i => [⟨L (L I), steps s⟩, ⟨I, (i : Int)⟩, ⟨L I, upTo (inC s c) (szn s.1)⟩, ⟨L I, fr⟩]) (fun i => ∀ y ∈ (steps s).getD (fr.getD i 0).toNat [], inC s c y.toNat = false) fr.length _ rfl ?_ ?_
 ·intro i hi
  have hxf := (hfm _).1 (getD_mem (d := 0) hi)
  have hx := hFm _ hxf.1
  obtain ⟨x, hxe⟩ : ∃ x : Nat, fr.getD i 0 = x := ⟨(fr.getD i 0).toNat, by omega⟩
  rw [hxe] at hxf
  have hxn : x < szn s.1 := by omega
  have hrow := ht.row (i := x)
  have hrl : ((steps s).getD x []).length ≤ 1048576 := (ht.2 _ (getD_mem (by omega))).1
  obtain ⟨N, hN⟩ : ∃ N : Nat, N = 400 := ⟨_, rfl⟩
  simp (contextual := true) (maxSteps := 1000000) (disch := omega) only [↓Sd, ↓So, ↓Sk, ↓den, ↓denA, Sa, Sb, Sc, Se, O1.d, O2.d, O3.d, cmI, arI, envOf, putN, ↓reduceIte, Nat.reduceLT, Nat.reduceSub, Nat.reduceAdd, Int.reduceAdd, Int.reduceEq, Int.reduceLT, Int.reduceLE, arr_pos, arr_neg, hxe, hT, C_spec_l17Ordered ((steps s).getD x []) N hN hrl (fun y hy => by have := hrow y hy; omega)]
  have ho : lset (upTo (fun k => dB ((k : Int) ∈ (steps s).getD x [])) N) 400 := upTo_lset (m := 400) (by omega)
  simp (contextual := true) (maxSteps := 1000000) (disch := omega) only [↓Sd, ↓So, ↓Sk, ↓den, ↓denA, Sa, Sb, Sc, Se, O1.d, O2.d, O3.d, cmI, arI, envOf, putN, ↓reduceIte, Nat.reduceLT, Nat.reduceSub, Nat.reduceAdd, Int.reduceAdd, Int.reduceEq, Int.reduceLT, Int.reduceLE, arr_pos, arr_neg, C_spec_SetBoth _ _ ho hCs]
  have hiff : 0 < (upTo (fun k => dB ((k : Int) ∈ upTo (fun k => dB ((k : Int) ∈ (steps s).getD x [])) N) && dB ((k : Int) ∈ upTo (inC s c) (szn s.1))) 400).length ↔ ¬ ∀ y ∈ (steps s).getD x [], inC s c y.toNat = false := by
   rw [upTo_pos]
   constructor
   ·rintro ⟨k, h1, h2⟩ h3
    simp only [dB_upTo, Bool.and_eq_true, decide_eq_true_eq] at h2
    have := h3 _ (dB_iff.1 h2.1.2)
    simp only [Int.toNat_natCast] at this
    rw [h2.2.2] at this; cases this
   ·intro h3
    refine Classical.byContradiction fun h4 => h3 fun y hy => ?_
    have hyb := hrow y hy
    refine Bool.eq_false_iff.2 fun h5 => h4 ⟨y.toNat, by omega, ?_⟩
    simp only [dB_upTo, Bool.and_eq_true, decide_eq_true_eq]
    exact ⟨⟨by omega, dB_t (by rw [show ((y.toNat : Nat) : Int) = y by omega]; exact hy)⟩, by omega, h5⟩
  refine ⟨fun g1 => ?_, fun g1 => ?_⟩
  ·rw [← hK, dB_f]
   intro g2
   exact hiff.1 (by omega) (g2.2 _ hxf.1 (by simpa using hxf.2))
  ·exact Classical.byContradiction fun g2 => g1 (by have := hiff.2 g2; omega)
 ·intro g1
  simp (contextual := true) (maxSteps := 1000000) (disch := omega) only [↓Sd, ↓So, ↓Sk, ↓den, ↓denA, Sa, Sb, Sc, Se, O1.d, O2.d, O3.d, cmI, arI, envOf, putN, ↓reduceIte, Nat.reduceLT, Nat.reduceSub, Nat.reduceAdd, Int.reduceAdd, Int.reduceEq, Int.reduceLT, Int.reduceLE, arr_pos, arr_neg, ]
  rw [← hK, dB_t]
  refine ⟨by rw [hm]; simpa using g, fun x hx hxc => ?_⟩
  obtain ⟨i, hi, he⟩ := List.getElem_of_mem ((hfm x).2 ⟨hx, hxc⟩)
  have := g1 i hi
  rwa [getD_lt hi, he] at this
def blkV (s : Sy) (F c : List Int) : Prop := setV s F ∧ cubeV c (bc s.1) ∧ blk s F c
theorem C_impl_BlockedBy (s : Sy) (F c : List Int) (hs : FewSy s) (hF : F.length ≤ 1048576) (hc : c.length ≤ 1048576) (Q : List AV → Prop) : mc.C f_impl_BlockedBy [⟨L V3, s.1⟩, ⟨L TR, s.2⟩, ⟨L I, F⟩, ⟨L I, c⟩] Q = Q [⟨B, dB (blkV s F c)⟩] := by
 refine Mc.Ends.c (mc.ends F_impl_BlockedBy ?_)
 generalize hK : dB (blkV s F c) = K
 simp (contextual := true) (maxSteps := 1000000) (disch := omega) only [↓Sd, ↓So, ↓Sk, ↓den, ↓denA, Sa, Sb, Sc, Se, O1.d, O2.d, O3.d, cmI, arI, envOf, putN, ↓reduceIte, Nat.reduceLT, Nat.reduceSub, Nat.reduceAdd, Int.reduceAdd, Int.reduceEq, Int.reduceLT, Int.reduceLE, arr_pos, arr_neg, tr_impl_BlockedBy, C_impl_SetValid s F hs hF]
 refine ⟨fun h => ?_, fun h => by rw [← hK, dB_f]; exact fun g => h g.1⟩
 simp (contextual := true) (maxSteps := 1000000) (disch := omega) only [↓Sd, ↓So, ↓Sk, ↓den, ↓denA, Sa, Sb, Sc, Se, O1.d, O2.d, O3.d, cmI, arI, envOf, putN, ↓reduceIte, Nat.reduceLT, Nat.reduceSub, Nat.reduceAdd, Int.reduceAdd, Int.reduceEq, Int.reduceLT, Int.reduceLE, arr_pos, arr_neg, C_impl_bitCount s h.1, C_impl_CubeValid c _ hc]
 refine ⟨fun g => ?_, fun g => by rw [← hK, dB_f]; exact fun g1 => g g1.2.1⟩
 simp (contextual := true) (maxSteps := 1000000) (disch := omega) only [↓Sd, ↓So, ↓Sk, ↓den, ↓denA, Sa, Sb, Sc, Se, O1.d, O2.d, O3.d, cmI, arI, envOf, putN, ↓reduceIte, Nat.reduceLT, Nat.reduceSub, Nat.reduceAdd, Int.reduceAdd, Int.reduceEq, Int.reduceLT, Int.reduceLE, arr_pos, arr_neg, C_impl_nexts s h.1, C_impl_blockedBy s F c h.1 ⟨hF, h.mem⟩ g.2.1]
 rw [← hK]; exact dB_congr ⟨fun g1 => ⟨h, g, g1⟩, fun g1 => g1.2.2⟩
theorem C_spec_BlockedBy (s : Sy) (F c : List Int) (hs : FewSy s) (hF : F.length ≤ 1048576) (hc : c.length ≤ 1048576) (Q : List AV → Prop) : mc.C f_spec_BlockedBy [⟨L V3, s.1⟩, ⟨L TR, s.2⟩, ⟨L I, F⟩, ⟨L I, c⟩] Q = Q [⟨B, dB (blkV s F c)⟩] := by
 refine Mc.Ends.c (mc.ends F_spec_BlockedBy ?_)
 generalize hK : dB (blkV s F c) = K
 simp (contextual := true) (maxSteps := 1000000) (disch := omega) only [↓Sd, ↓So, ↓Sk, ↓den, ↓denA, Sa, Sb, Sc, Se, O1.d, O2.d, O3.d, cmI, arI, envOf, putN, ↓reduceIte, Nat.reduceLT, Nat.reduceSub, Nat.reduceAdd, Int.reduceAdd, Int.reduceEq, Int.reduceLT, Int.reduceLE, arr_pos, arr_neg, tr_spec_BlockedBy, C_spec_l16Cube s c hs hc]
 refine ⟨fun g0 => ?_, fun g => by rw [← hK, dB_f]; exact fun g1 => g ⟨g1.1.1, g1.2.1⟩⟩
 have g := g0.2
 simp (contextual := true) (maxSteps := 1000000) (disch := omega) only [↓Sd, ↓So, ↓Sk, ↓den, ↓denA, Sa, Sb, Sc, Se, O1.d, O2.d, O3.d, cmI, arI, envOf, putN, ↓reduceIte, Nat.reduceLT, Nat.reduceSub, Nat.reduceAdd, Int.reduceAdd, Int.reduceEq, Int.reduceLT, Int.reduceLE, arr_pos, arr_neg, C_spec_SetValid s F hs hF]
 refine ⟨fun h => ?_, fun h => by rw [← hK, dB_f]; exact fun g1 => h g1.1⟩
 simp (contextual := true) (maxSteps := 1000000) (disch := omega) only [↓Sd, ↓So, ↓Sk, ↓den, ↓denA, Sa, Sb, Sc, Se, O1.d, O2.d, O3.d, cmI, arI, envOf, putN, ↓reduceIte, Nat.reduceLT, Nat.reduceSub, Nat.reduceAdd, Int.reduceAdd, Int.reduceEq, Int.reduceLT, Int.reduceLE, arr_pos, arr_neg, C_spec_l4Steps s hs h.1, C_spec_l17Blocked s F c hs h.1 h.n g.2.1]
 rw [← hK]; exact dB_congr ⟨fun g1 => ⟨h, g, g1⟩, fun g1 => g1.2.2⟩
noncomputable def wdn (P : List Int → Prop) (c : List Int) : Nat → List Int
 | 0 => c
 | i + 1 => if dB (P ((wdn P c i).set i 2)) = true then (wdn P c i).set i 2 else wdn P c i
theorem wdn_len {P : List Int → Prop} {c : List Int} : ∀ {i : Nat}, (wdn P c i).length = c.length
 | 0 => rfl
 | i + 1 => by
  simp only [wdn]
  split
  ·rw [List.length_set, wdn_len]
  ·exact wdn_len
theorem wdn_same {P : List Int → Prop} {c : List Int} {d : Int} : ∀ {i : Nat}, Same c (wdn P c i) d i
 | 0 => Same.refl
 | i + 1 => by
  have ih := @wdn_same P c d i
  simp only [wdn]
  split
  ·exact ih.set
  ·exact ⟨ih.1, fun j hj => ih.2 j (by omega)⟩
theorem set_self {α : Type} {l : List α} {i : Nat} {x d : α} (hi : i < l.length) (h : l.getD i d = x) : l.set i x = l := by
 rw [← h, getD_lt hi, List.set_getElem_self]
noncomputable def gen (s : Sy) (F : List Int) (n : Nat) : List Int := wdn (blk s F) (sb s (stN s n)) (sb s (stN s n)).length
theorem stN_sb_len {s : Sy} {n : Nat} : ((sb s (stN s n)).length : Int) = bc s.1 := sb_len
theorem gen_len {s : Sy} {F : List Int} {n : Nat} : ((gen s F n).length : Int) = bc s.1 := by rw [gen, wdn_len]; exact sb_len
theorem C_impl_generalized (s : Sy) (F : List Int) (n : Nat) (h : valid s) (hn : n < szn s.1) (hF : F.length ≤ 1048576 ∧ ∀ x ∈ F, 0 ≤ x ∧ x < (szn s.1 : Int)) (Q : List AV → Prop) :
  mc.C f_impl_generalized [⟨L V3, s.1⟩, ⟨L TR, s.2⟩, ⟨L (L I), steps s⟩, ⟨L I, F⟩, ⟨I, (n : Int)⟩] Q = Q (if dB (blk s F (sb s (stN s n))) = true then [⟨L I, gen s F n⟩, ⟨B, true⟩] else [⟨L I, []⟩, ⟨B, false⟩]) := by
 have hz := szn_eq h
 have hb := bc_bd h
 have h5 := h.1.2
 have hv := h.2.2.1
 have hin := stN_in h hn
 have hst : stAt s.1 (n : Int) = stN s n := rfl
 have hlen := @stN_sb_len s n
 refine Mc.Ends.c (mc.ends F_impl_generalized ?_)
 simp (contextual := true) (maxSteps := 1000000) (disch := omega) only [↓Sd, ↓So, ↓Sk, ↓den, ↓denA, Sa, Sb, Sc, Se, O1.d, O2.d, O3.d, cmI, arI, envOf, putN, ↓reduceIte, Nat.reduceLT, Nat.reduceSub, Nat.reduceAdd, Int.reduceAdd, Int.reduceEq, Int.reduceLT, Int.reduceLE, arr_pos, arr_neg, tr_impl_generalized, C_impl_stateAt s n h5 hv (by omega), hst, C_impl_stateBits s (stN s n) h hin, C_impl_blockedBy s F (sb s (stN s n)) h hF hlen]
 intro g
 simp (contextual := true) (maxSteps := 1000000) (disch := omega) only [↓Sd, ↓So, ↓Sk, ↓den, ↓denA, Sa, Sb, Sc, Se, O1.d, O2.d, O3.d, cmI, arI, envOf, putN, ↓reduceIte, Nat.reduceLT, Nat.reduceSub, Nat.reduceAdd, Int.reduceAdd, Int.reduceEq, Int.reduceLT, Int.reduceLE, arr_pos, arr_neg, C_impl_clone_int (sb s (stN s n)) (by omega)]
 generalize hc : sb s (stN s n) = c at *
 refine mc.lp_for (List Int) (fun i o => [⟨I, (c.length : Int)⟩, ⟨I, (i : Int)⟩, ⟨L V3, s.1⟩, ⟨L TR, s.2⟩, ⟨L (L I), steps s⟩, ⟨L I, F⟩, ⟨L I, o⟩, ⟨L I, c⟩]) (fun i o => o = wdn (blk s F) c i) c.length 0 c _ rfl (Nat.zero_le _) rfl ?_ ?_
 ·rintro i o hi rfl
  have hl := @wdn_len (blk s F) c i
  have hsm := (@wdn_same (blk s F) c 0 i).2 i (Nat.le_refl _)
  have hl2 : (((wdn (blk s F) c i).set i 2).length : Int) = bc s.1 := by rw [List.length_set, hl]; exact hlen
  have e : (wdn (blk s F) c i).set i (c.getD i 0) = wdn (blk s F) c i := set_self (d := 0) (by omega) hsm
  simp (contextual := true) (maxSteps := 1000000) (disch := omega) only [↓Sd, ↓So, ↓Sk, ↓den, ↓denA, Sa, Sb, Sc, Se, O1.d, O2.d, O3.d, cmI, arI, envOf, putN, ↓reduceIte, Nat.reduceLT, Nat.reduceSub, Nat.reduceAdd, Int.reduceAdd, Int.reduceEq, Int.reduceLT, Int.reduceLE, arr_pos, arr_neg, ↓wpJoin, C_impl_blockedBy s F ((wdn (blk s F) c i).set i 2) h hF hl2, List.length_set, List.set_set, e]
  simp only [wdn]
  refine ⟨fun g1 => by rw [if_neg (by rw [g1]; simp)], fun g1 => by rw [if_pos (by simpa using g1)]⟩
 ·rintro o rfl
  simp (contextual := true) (maxSteps := 1000000) (disch := omega) only [↓Sd, ↓So, ↓Sk, ↓den, ↓denA, Sa, Sb, Sc, Se, O1.d, O2.d, O3.d, cmI, arI, envOf, putN, ↓reduceIte, Nat.reduceLT, Nat.reduceSub, Nat.reduceAdd, Int.reduceAdd, Int.reduceEq, Int.reduceLT, Int.reduceLE, arr_pos, arr_neg, ]
  rw [gen, hc]
theorem C_spec_l17Wide (s : Sy) (F : List Int) (n : Nat) (hs : FewSy s) (h : valid s) (hn : n < szn s.1) (hF : lset F (szn s.1)) (hB : dB (blk s F (sb s (stN s n))) = true) (Q : List AV → Prop) :
  mc.C f_spec_l17Wide [⟨L V3, s.1⟩, ⟨L TR, s.2⟩, ⟨L (L I), steps s⟩, ⟨L I, F⟩, ⟨I, (n : Int)⟩] Q = Q [⟨L I, gen s F n⟩] := by
 have hz := szn_eq h
 have hb := bc_bd h
 have hin := stN_in h hn
 have hst : stAt s.1 (n : Int) = stN s n := rfl
 have hlen := @stN_sb_len s n
 refine Mc.Ends.c (mc.ends F_spec_l17Wide ?_)
 simp (contextual := true) (maxSteps := 1000000) (disch := omega) only [↓Sd, ↓So, ↓Sk, ↓den, ↓denA, Sa, Sb, Sc, Se, O1.d, O2.d, O3.d, cmI, arI, envOf, putN, ↓reduceIte, Nat.reduceLT, Nat.reduceSub, Nat.reduceAdd, Int.reduceAdd, Int.reduceEq, Int.reduceLT, Int.reduceLE, arr_pos, arr_neg, tr_spec_l17Wide, C_spec_l4State s n hs h (by omega), hst, C_spec_l6State s (stN s n) h hin, C_spec_l17Blocked s F (sb s (stN s n)) hs h hF hlen, hB]
 generalize hc : sb s (stN s n) = c at *
 refine mc.lp_for (List Int) (fun i o => [⟨L (L I), steps s⟩, ⟨L I, F⟩, ⟨I, (i : Int)⟩, ⟨L V3, s.1⟩, ⟨L TR, s.2⟩, ⟨L I, o⟩]) (fun i o => o = wdn (blk s F) c i) c.length 0 c _ rfl (Nat.zero_le _) rfl ?_ ?_
 ·rintro i o hi rfl
  have hl := @wdn_len (blk s F) c i
  have hl2 : (((wdn (blk s F) c i).set i 2).length : Int) = bc s.1 := by rw [List.length_set, hl]; exact hlen
  simp (contextual := true) (maxSteps := 1000000) (disch := omega) only [↓Sd, ↓So, ↓Sk, ↓den, ↓denA, Sa, Sb, Sc, Se, O1.d, O2.d, O3.d, cmI, arI, envOf, putN, ↓reduceIte, Nat.reduceLT, Nat.reduceSub, Nat.reduceAdd, Int.reduceAdd, Int.reduceEq, Int.reduceLT, Int.reduceLE, arr_pos, arr_neg, ↓wpJoin, C_spec_l3Copy (wdn (blk s F) c i) (by omega), C_spec_l17Blocked s F ((wdn (blk s F) c i).set i 2) hs h hF hl2]
  simp only [wdn]
  refine ⟨fun g1 => by rw [if_pos g1], fun g1 => by rw [if_neg g1]⟩
 ·rintro o rfl
  have hl := @wdn_len (blk s F) c c.length
  simp (contextual := true) (maxSteps := 1000000) (disch := omega) only [↓Sd, ↓So, ↓Sk, ↓den, ↓denA, Sa, Sb, Sc, Se, O1.d, O2.d, O3.d, cmI, arI, envOf, putN, ↓reduceIte, Nat.reduceLT, Nat.reduceSub, Nat.reduceAdd, Int.reduceAdd, Int.reduceEq, Int.reduceLT, Int.reduceLE, arr_pos, arr_neg, hl]
  rw [gen, hc]
def genOk (s : Sy) (F : List Int) (n : Int) : Prop := setV s F ∧ (0 ≤ n ∧ n ≤ sz s.1 - 1) ∧ blk s F (sb s (stN s n.toNat))
noncomputable def genV (s : Sy) (F : List Int) (n : Int) : List Int := @ite _ (genOk s F n) (Classical.propDecidable _) (gen s F n.toNat) []
theorem genV_t {s : Sy} {F : List Int} {n : Int} (h : genOk s F n) : genV s F n = gen s F n.toNat := if_pos h
theorem genV_f {s : Sy} {F : List Int} {n : Int} (h : ¬ genOk s F n) : genV s F n = [] := if_neg h
theorem C_impl_Generalized (s : Sy) (F : List Int) (n : Int) (hs : FewSy s) (hF : F.length ≤ 1048576) (Q : List AV → Prop) : mc.C f_impl_Generalized [⟨L V3, s.1⟩, ⟨L TR, s.2⟩, ⟨L I, F⟩, ⟨I, n⟩] Q = Q [⟨L I, genV s F n⟩, ⟨B, dB (genOk s F n)⟩] := by
 refine Mc.Ends.c (mc.ends F_impl_Generalized ?_)
 have hno : ¬ genOk s F n → ([] = genV s F n ∧ false = dB (genOk s F n)) := fun g => ⟨(genV_f g).symm, (dB_f g).symm⟩
 generalize hK : genV s F n = K at *
 generalize hK2 : dB (genOk s F n) = K2 at *
 simp (contextual := true) (maxSteps := 1000000) (disch := omega) only [↓Sd, ↓So, ↓Sk, ↓den, ↓denA, Sa, Sb, Sc, Se, O1.d, O2.d, O3.d, cmI, arI, envOf, putN, ↓reduceIte, Nat.reduceLT, Nat.reduceSub, Nat.reduceAdd, Int.reduceAdd, Int.reduceEq, Int.reduceLT, Int.reduceLE, arr_pos, arr_neg, tr_impl_Generalized, C_impl_SetValid s F hs hF]
 refine ⟨fun h => hno fun g => h g.1, fun h => ?_⟩
 have hz := sz_ok h.1
 simp (contextual := true) (maxSteps := 1000000) (disch := omega) only [↓Sd, ↓So, ↓Sk, ↓den, ↓denA, Sa, Sb, Sc, Se, O1.d, O2.d, O3.d, cmI, arI, envOf, putN, ↓reduceIte, Nat.reduceLT, Nat.reduceSub, Nat.reduceAdd, Int.reduceAdd, Int.reduceEq, Int.reduceLT, Int.reduceLE, arr_pos, arr_neg, C_impl_size s.1 h.1.1.2 h.1.2.2.1, C_impl_in]
 refine ⟨fun g => hno fun g1 => g g1.2.1, fun g => ?_⟩
 obtain ⟨k, rfl⟩ : ∃ k : Nat, n = k := ⟨n.toNat, by omega⟩
 have hk : k < szn s.1 := by have := szn_eq h.1; omega
 simp (contextual := true) (maxSteps := 1000000) (disch := omega) only [↓Sd, ↓So, ↓Sk, ↓den, ↓denA, Sa, Sb, Sc, Se, O1.d, O2.d, O3.d, cmI, arI, envOf, putN, ↓reduceIte, Nat.reduceLT, Nat.reduceSub, Nat.reduceAdd, Int.reduceAdd, Int.reduceEq, Int.reduceLT, Int.reduceLE, arr_pos, arr_neg, C_impl_nexts s h.1, C_impl_generalized s F k h.1 hk ⟨hF, h.mem⟩]
 by_cases hB : blk s F (sb s (stN s k))
 ·have hok : genOk s F (k : Int) := ⟨h, g, by simpa using hB⟩
  rw [genV_t hok] at hK
  rw [dB_t hok] at hK2
  rw [dB_t hB, if_pos rfl]
  simp (contextual := true) (maxSteps := 1000000) (disch := omega) only [↓Sd, ↓So, ↓Sk, ↓den, ↓denA, Sa, Sb, Sc, Se, O1.d, O2.d, O3.d, cmI, arI, envOf, putN, ↓reduceIte, Nat.reduceLT, Nat.reduceSub, Nat.reduceAdd, Int.reduceAdd, Int.reduceEq, Int.reduceLT, Int.reduceLE, arr_pos, arr_neg, ← hK, ← hK2]
 ·have hok : ¬ genOk s F (k : Int) := fun g1 => hB (by simpa using g1.2.2)
  rw [dB_f hB]
  simp (contextual := true) (maxSteps := 1000000) (disch := omega) only [↓Sd, ↓So, ↓Sk, ↓den, ↓denA, Sa, Sb, Sc, Se, O1.d, O2.d, O3.d, cmI, arI, envOf, putN, ↓reduceIte, Nat.reduceLT, Nat.reduceSub, Nat.reduceAdd, Int.reduceAdd, Int.reduceEq, Int.reduceLT, Int.reduceLE, arr_pos, arr_neg, ]
  exact hno hok
theorem C_spec_Generalized (s : Sy) (F : List Int) (n : Int) (hs : FewSy s) (hF : F.length ≤ 1048576) (Q : List AV → Prop) : mc.C f_spec_Generalized [⟨L V3, s.1⟩, ⟨L TR, s.2⟩, ⟨L I, F⟩, ⟨I, n⟩] Q = Q [⟨L I, genV s F n⟩, ⟨B, dB (genOk s F n)⟩] := by
 refine Mc.Ends.c (mc.ends F_spec_Generalized ?_)
 have hno : ¬ genOk s F n → ([] = genV s F n ∧ false = dB (genOk s F n)) := fun g => ⟨(genV_f g).symm, (dB_f g).symm⟩
 generalize hK : genV s F n = K at *
 generalize hK2 : dB (genOk s F n) = K2 at *
 simp (contextual := true) (maxSteps := 1000000) (disch := omega) only [↓Sd, ↓So, ↓Sk, ↓den, ↓denA, Sa, Sb, Sc, Se, O1.d, O2.d, O3.d, cmI, arI, envOf, putN, ↓reduceIte, Nat.reduceLT, Nat.reduceSub, Nat.reduceAdd, Int.reduceAdd, Int.reduceEq, Int.reduceLT, Int.reduceLE, arr_pos, arr_neg, tr_spec_Generalized, C_spec_SetValid s F hs hF]
 refine ⟨fun h => hno fun g => h g.1, fun h => ?_⟩
 have hz := sz_ok h.1
 have hz2 := szn_eq h.1
 simp (contextual := true) (maxSteps := 1000000) (disch := omega) only [↓Sd, ↓So, ↓Sk, ↓den, ↓denA, Sa, Sb, Sc, Se, O1.d, O2.d, O3.d, cmI, arI, envOf, putN, ↓reduceIte, Nat.reduceLT, Nat.reduceSub, Nat.reduceAdd, Int.reduceAdd, Int.reduceEq, Int.reduceLT, Int.reduceLE, arr_pos, arr_neg, C_spec_SizeOf s hs, if_pos h.1, C_spec_l1In]
 refine ⟨fun g => hno fun g1 => g g1.2.1, fun g => ?_⟩
 obtain ⟨k, rfl⟩ : ∃ k : Nat, n = k := ⟨n.toNat, by omega⟩
 have hk : k < szn s.1 := by omega
 have hin := stN_in h.1 hk
 have hst : stAt s.1 (k : Int) = stN s k := rfl
 simp (contextual := true) (maxSteps := 1000000) (disch := omega) only [↓Sd, ↓So, ↓Sk, ↓den, ↓denA, Sa, Sb, Sc, Se, O1.d, O2.d, O3.d, cmI, arI, envOf, putN, ↓reduceIte, Nat.reduceLT, Nat.reduceSub, Nat.reduceAdd, Int.reduceAdd, Int.reduceEq, Int.reduceLT, Int.reduceLE, arr_pos, arr_neg, C_spec_l4Steps s hs h.1, C_spec_l4State s k hs h.1 (by omega), hst, C_spec_l6State s (stN s k) h.1 hin, C_spec_l17Blocked s F (sb s (stN s k)) hs h.1 h.n stN_sb_len]
 by_cases hB : blk s F (sb s (stN s k))
 ·have hok : genOk s F (k : Int) := ⟨h, g, by simpa using hB⟩
  rw [genV_t hok] at hK
  rw [dB_t hok] at hK2
  have hB' := dB_t hB
  simp (contextual := true) (maxSteps := 1000000) (disch := omega) only [↓Sd, ↓So, ↓Sk, ↓den, ↓denA, Sa, Sb, Sc, Se, O1.d, O2.d, O3.d, cmI, arI, envOf, putN, ↓reduceIte, Nat.reduceLT, Nat.reduceSub, Nat.reduceAdd, Int.reduceAdd, Int.reduceEq, Int.reduceLT, Int.reduceLE, arr_pos, arr_neg, hB', C_spec_l17Wide s F k hs h.1 hk h.n hB', ← hK, ← hK2]
 ·have hok : ¬ genOk s F (k : Int) := fun g1 => hB (by simpa using g1.2.2)
  simp (contextual := true) (maxSteps := 1000000) (disch := omega) only [↓Sd, ↓So, ↓Sk, ↓den, ↓denA, Sa, Sb, Sc, Se, O1.d, O2.d, O3.d, cmI, arI, envOf, putN, ↓reduceIte, Nat.reduceLT, Nat.reduceSub, Nat.reduceAdd, Int.reduceAdd, Int.reduceEq, Int.reduceLT, Int.reduceLE, arr_pos, arr_neg, dB_f hB]
  exact hno hok
abbrev RD : Ty := P (L U) I
def Byt (b : List Int) : Prop := ∀ x ∈ b, 0 ≤ x ∧ x ≤ 255
def Rdy (b : List Int) : Prop := Byt b ∧ b.length ≤ 2000
theorem Byt.get {b : List Int} (h : Byt b) (i : Nat) : 0 ≤ b.getD i 0 ∧ b.getD i 0 ≤ 255 := by
 by_cases hi : i < b.length
 ·exact h _ (getD_mem hi)
 ·rw [List.getD_eq_getElem?_getD, List.getElem?_eq_none (by omega)]; simp
theorem xor_bd {x y : Int} (hx : 0 ≤ x ∧ x < 1099511627776) (hy : 0 ≤ y ∧ y < 1099511627776) : 0 ≤ IntKind.i64.wrap ((BitVec.ofInt IntKind.i64.bits x ^^^ BitVec.ofInt IntKind.i64.bits y).toNat : Int) := by
 have e : ∀ z : Int, 0 ≤ z ∧ z < 1099511627776 → (BitVec.ofInt IntKind.i64.bits z).toNat < 2 ^ 40 := by
  intro z hz
  rw [BitVec.toNat_ofInt]
  show Int.toNat (z % (2 : Int) ^ 64) < 2 ^ 40
  omega
 have h : (BitVec.ofInt IntKind.i64.bits x ^^^ BitVec.ofInt IntKind.i64.bits y).toNat < 2 ^ 40 := by
  rw [BitVec.toNat_xor]
  exact Nat.xor_lt_two_pow (e x hx) (e y hy)
 rw [wrap_id (by omega) (by omega)]
 omega
theorem D_pick (b : List Int) (p n : Int) (hb : Rdy b) (hp : 0 ≤ p ∧ p ≤ 1000000000) {Q : List AV → Prop} (h : ∀ v : Int, 0 ≤ v → (1 ≤ n → v < n) → Q [⟨I, v⟩, ⟨RD, (b, p + 1)⟩]) : mc.C f_spec_l40Rd_pick [⟨RD, (b, p)⟩, ⟨I, n⟩] Q := by
 refine mc.c_of F_spec_l40Rd_pick ?_
 have hl := hb.2
 simp (contextual := true) (maxSteps := 1000000) (disch := omega) only [↓Sd, ↓So, ↓Sk, ↓den, ↓denA, Sa, Sb, Sc, Se, O1.d, O2.d, O3.d, cmI, arI, envOf, putN, ↓reduceIte, Nat.reduceLT, Nat.reduceSub, Nat.reduceAdd, Int.reduceAdd, Int.reduceEq, Int.reduceLT, Int.reduceLE, arr_pos, arr_neg, tr_spec_l40Rd_pick]
 refine ⟨fun g => h 0 (by omega) (by omega), fun g => ⟨fun g2 => h 0 (by omega) (by omega), fun g2 => ?_⟩⟩
 have hn : 1 ≤ n := by omega
 have hlb : 0 < (b.length : Int) := by omega
 refine ⟨fun g3 => ?_, fun g3 => ?_⟩
 ·have h1 := hb.1.get p.toNat
  rw [wrap_id (by omega) (by omega), Int.tmod_eq_emod_of_nonneg h1.1]
  exact h _ (Int.emod_nonneg _ (by omega)) fun _ => Int.emod_lt_of_pos _ (by omega)
 ·have a1 := Int.emod_nonneg p (show (b.length : Int) ≠ 0 by omega)
  have a2 := Int.emod_lt_of_pos p hlb
  have a3 := Int.emod_nonneg (p * 7 + 3) (show (b.length : Int) ≠ 0 by omega)
  have a4 := Int.emod_lt_of_pos (p * 7 + 3) hlb
  have a5 := Int.ediv_nonneg hp.1 (Int.le_of_lt hlb)
  have a6 := Int.ediv_le_self (b.length : Int) hp.1
  have h1 := hb.1.get (p % (b.length : Int)).toNat
  have h2 := hb.1.get ((p * 7 + 3) % (b.length : Int)).toNat
  refine ⟨a1, a2, a3, a4, ?_⟩
  generalize b.getD (p % (b.length : Int)).toNat 0 = x1 at *
  generalize b.getD ((p * 7 + 3) % (b.length : Int)).toNat 0 = x2 at *
  generalize p / (b.length : Int) = x3 at *
  rw [wrap_id (x := x1) (by omega) (by omega), wrap_id (x := x2) (by omega) (by omega), wrap_id (x := x3) (by omega) (by omega), wrap_id (x := x1 * 131) (by omega) (by omega), wrap_id (x := x2 * 1117) (by omega) (by omega), wrap_id (x := x1 * 131 + x2 * 1117) (by omega) (by omega), wrap_id (x := x1 * 131 + x2 * 1117 + p * 29) (by omega) (by omega), wrap_id (x := x3 * 53) (by omega) (by omega), wrap_id (x := x1 * 131 + x2 * 1117 + p * 29 + x3 * 53) (by omega) (by omega)]
  obtain ⟨y, hy⟩ : ∃ y, x1 * 131 + x2 * 1117 + p * 29 + x3 * 53 = y := ⟨_, rfl⟩
  have hyb : 0 ≤ y ∧ y < 1099511627776 := by omega
  rw [hy, Int.tdiv_eq_ediv_of_nonneg hyb.1, wrap_id (x := y / 64) (by omega) (by omega)]
  have h4 := xor_bd hyb (y := y / 64) (by omega)
  rw [Int.tmod_eq_emod_of_nonneg h4]
  exact h _ (Int.emod_nonneg _ (by omega)) fun _ => Int.emod_lt_of_pos _ (by omega)
theorem D_pick1 (b : List Int) (p n : Int) (hb : Rdy b) (hp : 0 ≤ p ∧ p ≤ 1000000000) (hn : 1 ≤ n) {Q : List AV → Prop} (h : ∀ v : Int, 0 ≤ v → v < n → Q [⟨I, v⟩, ⟨RD, (b, p + 1)⟩]) : mc.C f_spec_l40Rd_pick [⟨RD, (b, p)⟩, ⟨I, n⟩] Q := D_pick b p n hb hp fun v h0 h1 => h v h0 (h1 hn)
theorem D_num (b : List Int) (p : Int) (l : List Int) (hb : Rdy b) (hp : 0 ≤ p ∧ p ≤ 1000000000) (hl : l ≠ []) (hl2 : l.length ≤ 1048576) {Q : List AV → Prop} (h : ∀ v : Int, v ∈ l → Q [⟨I, v⟩, ⟨RD, (b, p + 1)⟩]) : mc.C f_spec_l40Rd_num [⟨RD, (b, p)⟩, ⟨L I, l⟩] Q := by
 have hl1 : 0 < l.length := List.length_pos_iff.2 hl
 refine mc.c_of F_spec_l40Rd_num ?_
 simp (contextual := true) (maxSteps := 1000000) (disch := omega) only [↓Sd, ↓So, ↓Sk, ↓den, ↓denA, Sa, Sb, Sc, Se, O1.d, O2.d, O3.d, cmI, arI, envOf, putN, ↓reduceIte, Nat.reduceLT, Nat.reduceSub, Nat.reduceAdd, Int.reduceAdd, Int.reduceEq, Int.reduceLT, Int.reduceLE, arr_pos, arr_neg, tr_spec_l40Rd_num]
 refine D_pick1 b p _ hb hp (by omega) fun v h0 h1 => ?_
 simp (contextual := true) (maxSteps := 1000000) (disch := omega) only [↓Sd, ↓So, ↓Sk, ↓den, ↓denA, Sa, Sb, Sc, Se, O1.d, O2.d, O3.d, cmI, arI, envOf, putN, ↓reduceIte, Nat.reduceLT, Nat.reduceSub, Nat.reduceAdd, Int.reduceAdd, Int.reduceEq, Int.reduceLT, Int.reduceLE, arr_pos, arr_neg, ]
 exact h _ (getD_mem (by omega))
theorem D_open (b : List Int) (hb : Byt b) (hl : Lt63 b) {Q : List AV → Prop} (h : ∀ b', Rdy b' → Q [⟨RD, (b', 0)⟩]) : mc.C f_spec_l40Open [⟨L U, b⟩] Q := by
 unfold Lt63 at hl
 refine mc.c_of F_spec_l40Open ?_
 simp (contextual := true) (maxSteps := 1000000) (disch := omega) only [↓Sd, ↓So, ↓Sk, ↓den, ↓denA, Sa, Sb, Sc, Se, O1.d, O2.d, O3.d, cmI, arI, envOf, putN, ↓reduceIte, Nat.reduceLT, Nat.reduceSub, Nat.reduceAdd, Int.reduceAdd, Int.reduceEq, Int.reduceLT, Int.reduceLE, arr_pos, arr_neg, ↓wpJoin, tr_spec_l40Open]
 refine ⟨fun g => ?_, fun g => h b ⟨hb, by omega⟩⟩
 refine h _ ⟨fun x hx => hb x ?_, ?_⟩
 ·exact List.mem_of_mem_take hx
 ·rw [List.length_take]; omega
theorem D_l1Number (b : List Int) (p : Int) (hb : Rdy b) (hp : 0 ≤ p ∧ p ≤ 900000000) {Q : List AV → Prop} (h : ∀ v p' : Int, p ≤ p' ∧ p' ≤ p + 6 → Q [⟨I, v⟩, ⟨RD, (b, p')⟩]) : mc.C f_spec_l1Number [⟨RD, (b, p)⟩] Q := by
 refine mc.c_of F_spec_l1Number ?_
 simp (contextual := true) (maxSteps := 1000000) (disch := omega) only [↓Sd, ↓So, ↓Sk, ↓den, ↓denA, Sa, Sb, Sc, Se, O1.d, O2.d, O3.d, cmI, arI, envOf, putN, ↓reduceIte, Nat.reduceLT, Nat.reduceSub, Nat.reduceAdd, Int.reduceAdd, Int.reduceEq, Int.reduceLT, Int.reduceLE, arr_pos, arr_neg, tr_spec_l1Number]
 refine D_pick1 _ _ _ hb (by omega) (by omega) fun v1 v10 v11 => ?_; simp (contextual := true) (maxSteps := 1000000) (disch := omega) only [↓Sd, ↓So, ↓Sk, ↓den, ↓denA, Sa, Sb, Sc, Se, O1.d, O2.d, O3.d, cmI, arI, envOf, putN, ↓reduceIte, Nat.reduceLT, Nat.reduceSub, Nat.reduceAdd, Int.reduceAdd, Int.reduceEq, Int.reduceLT, Int.reduceLE, arr_pos, arr_neg, ]
 refine D_pick1 _ _ _ hb (by omega) (by omega) fun v2 v20 v21 => ?_; simp (contextual := true) (maxSteps := 1000000) (disch := omega) only [↓Sd, ↓So, ↓Sk, ↓den, ↓denA, Sa, Sb, Sc, Se, O1.d, O2.d, O3.d, cmI, arI, envOf, putN, ↓reduceIte, Nat.reduceLT, Nat.reduceSub, Nat.reduceAdd, Int.reduceAdd, Int.reduceEq, Int.reduceLT, Int.reduceLE, arr_pos, arr_neg, ]
 refine D_pick1 _ _ _ hb (by omega) (by omega) fun v3 v30 v31 => ?_; simp (contextual := true) (maxSteps := 1000000) (disch := omega) only [↓Sd, ↓So, ↓Sk, ↓den, ↓denA, Sa, Sb, Sc, Se, O1.d, O2.d, O3.d, cmI, arI, envOf, putN, ↓reduceIte, Nat.reduceLT, Nat.reduceSub, Nat.reduceAdd, Int.reduceAdd, Int.reduceEq, Int.reduceLT, Int.reduceLE, arr_pos, arr_neg, ]
 refine D_pick1 _ _ _ hb (by omega) (by omega) fun v4 v40 v41 => ?_; simp (contextual := true) (maxSteps := 1000000) (disch := omega) only [↓Sd, ↓So, ↓Sk, ↓den, ↓denA, Sa, Sb, Sc, Se, O1.d, O2.d, O3.d, cmI, arI, envOf, putN, ↓reduceIte, Nat.reduceLT, Nat.reduceSub, Nat.reduceAdd, Int.reduceAdd, Int.reduceEq, Int.reduceLT, Int.reduceLE, arr_pos, arr_neg, ]
 refine D_pick1 _ _ _ hb (by omega) (by omega) fun v5 v50 v51 => ?_; simp (contextual := true) (maxSteps := 1000000) (disch := omega) only [↓Sd, ↓So, ↓Sk, ↓den, ↓denA, Sa, Sb, Sc, Se, O1.d, O2.d, O3.d, cmI, arI, envOf, putN, ↓reduceIte, Nat.reduceLT, Nat.reduceSub, Nat.reduceAdd, Int.reduceAdd, Int.reduceEq, Int.reduceLT, Int.reduceLE, arr_pos, arr_neg, ]
 refine D_num _ _ _ hb (by omega) (by simp) (by simp) fun v v0 => ?_; simp (contextual := true) (maxSteps := 1000000) (disch := omega) only [↓Sd, ↓So, ↓Sk, ↓den, ↓denA, Sa, Sb, Sc, Se, O1.d, O2.d, O3.d, cmI, arI, envOf, putN, ↓reduceIte, Nat.reduceLT, Nat.reduceSub, Nat.reduceAdd, Int.reduceAdd, Int.reduceEq, Int.reduceLT, Int.reduceLE, arr_pos, arr_neg, ]
 exact h v _ (by omega)
theorem D_l1Pick (b : List Int) (p : Int) (ks : List Int) (kind : Int) (hb : Rdy b) (hp : 0 ≤ p ∧ p ≤ 900000000) (hk : 0 < ks.length) (hk2 : ks.length ≤ 1000) {Q : List AV → Prop} (h : ∀ v : Int, -1 ≤ v ∧ v < ks.length → Q [⟨I, v⟩, ⟨RD, (b, p + 1)⟩]) : mc.C f_spec_l1Pick [⟨RD, (b, p)⟩, ⟨L I, ks⟩, ⟨I, kind⟩] Q := by
 refine mc.c_of F_spec_l1Pick ?_
 simp (contextual := true) (maxSteps := 1000000) (disch := omega) only [↓Sd, ↓So, ↓Sk, ↓den, ↓denA, Sa, Sb, Sc, Se, O1.d, O2.d, O3.d, cmI, arI, envOf, putN, ↓reduceIte, Nat.reduceLT, Nat.reduceSub, Nat.reduceAdd, Int.reduceAdd, Int.reduceEq, Int.reduceLT, Int.reduceLE, arr_pos, arr_neg, tr_spec_l1Pick]
 refine D_pick1 _ _ _ hb (by omega) (by omega) fun a a0 a1 => ?_; simp (contextual := true) (maxSteps := 1000000) (disch := omega) only [↓Sd, ↓So, ↓Sk, ↓den, ↓denA, Sa, Sb, Sc, Se, O1.d, O2.d, O3.d, cmI, arI, envOf, putN, ↓reduceIte, Nat.reduceLT, Nat.reduceSub, Nat.reduceAdd, Int.reduceAdd, Int.reduceEq, Int.reduceLT, Int.reduceLE, arr_pos, arr_neg, ]
 refine mc.lp_for Unit (fun i _ => [⟨L I, ks⟩, ⟨I, kind⟩, ⟨I, a⟩, ⟨I, (i : Int)⟩, ⟨L U, b⟩, ⟨I, p + 1⟩]) (fun _ _ => True) ks.length 0 () _ rfl (Nat.zero_le _) trivial ?_ ?_
 ·rintro i - hi -
  have a1 := Int.emod_nonneg (a + (i : Int)) (show (ks.length : Int) ≠ 0 by omega)
  have a2 := Int.emod_lt_of_pos (a + (i : Int)) (show 0 < (ks.length : Int) by omega)
  simp (contextual := true) (maxSteps := 1000000) (disch := omega) only [↓Sd, ↓So, ↓Sk, ↓den, ↓denA, Sa, Sb, Sc, Se, O1.d, O2.d, O3.d, cmI, arI, envOf, putN, ↓reduceIte, Nat.reduceLT, Nat.reduceSub, Nat.reduceAdd, Int.reduceAdd, Int.reduceEq, Int.reduceLT, Int.reduceLE, arr_pos, arr_neg, ]
  exact fun _ => h _ (by omega)
 ·rintro - -
  simp (contextual := true) (maxSteps := 1000000) (disch := omega) only [↓Sd, ↓So, ↓Sk, ↓den, ↓denA, Sa, Sb, Sc, Se, O1.d, O2.d, O3.d, cmI, arI, envOf, putN, ↓reduceIte, Nat.reduceLT, Nat.reduceSub, Nat.reduceAdd, Int.reduceAdd, Int.reduceEq, Int.reduceLT, Int.reduceLE, arr_pos, arr_neg, ]
  exact h _ (by omega)
theorem C_spec_l2VarOf (n : Int) (Q : List AV → Prop) : mc.C f_spec_l2VarOf [⟨I, n⟩] Q = Q [⟨I, 1⟩, ⟨I, n⟩, ⟨I, 0⟩, ⟨I, 0⟩] := Mc.Ends.c (mc.ends F_spec_l2VarOf (by simp (contextual := true) (maxSteps := 1000000) (disch := omega) only [↓Sd, ↓So, ↓Sk, ↓den, ↓denA, Sa, Sb, Sc, Se, O1.d, O2.d, O3.d, cmI, arI, envOf, putN, ↓reduceIte, Nat.reduceLT, Nat.reduceSub, Nat.reduceAdd, Int.reduceAdd, Int.reduceEq, Int.reduceLT, Int.reduceLE, arr_pos, arr_neg, tr_spec_l2VarOf]))
theorem C_spec_l2Const (n : Int) (Q : List AV → Prop) : mc.C f_spec_l2Const [⟨I, n⟩] Q = Q [⟨I, 0⟩, ⟨I, n⟩, ⟨I, 0⟩, ⟨I, 0⟩] := Mc.Ends.c (mc.ends F_spec_l2Const (by simp (contextual := true) (maxSteps := 1000000) (disch := omega) only [↓Sd, ↓So, ↓Sk, ↓den, ↓denA, Sa, Sb, Sc, Se, O1.d, O2.d, O3.d, cmI, arI, envOf, putN, ↓reduceIte, Nat.reduceLT, Nat.reduceSub, Nat.reduceAdd, Int.reduceAdd, Int.reduceEq, Int.reduceLT, Int.reduceLE, arr_pos, arr_neg, tr_spec_l2Const]))
theorem D_l2Cond (b : List Int) (p : Int) (v : Vr) (at_ : Int) (hb : Rdy b) (hp : 0 ≤ p ∧ p ≤ 900000000) {Q : List AV → Prop} (h : ∀ (l : List Tm) (p' : Int), p ≤ p' ∧ p' ≤ p + 3 → l.length ≤ 4 → Q [⟨L T4, l⟩, ⟨RD, (b, p')⟩]) : mc.C f_spec_l2Cond [⟨RD, (b, p)⟩, ⟨I, v.1⟩, ⟨I, v.2.1⟩, ⟨I, v.2.2⟩, ⟨I, at_⟩] Q := by
 refine mc.c_of F_spec_l2Cond ?_
 simp (contextual := true) (maxSteps := 1000000) (disch := omega) only [↓Sd, ↓So, ↓Sk, ↓den, ↓denA, Sa, Sb, Sc, Se, O1.d, O2.d, O3.d, cmI, arI, envOf, putN, ↓reduceIte, Nat.reduceLT, Nat.reduceSub, Nat.reduceAdd, Int.reduceAdd, Int.reduceEq, Int.reduceLT, Int.reduceLE, arr_pos, arr_neg, tr_spec_l2Cond]
 refine D_pick _ _ _ hb (by omega) fun n _ _ => ?_
 simp (contextual := true) (maxSteps := 1000000) (disch := omega) only [↓Sd, ↓So, ↓Sk, ↓den, ↓denA, Sa, Sb, Sc, Se, O1.d, O2.d, O3.d, cmI, arI, envOf, putN, ↓reduceIte, Nat.reduceLT, Nat.reduceSub, Nat.reduceAdd, Int.reduceAdd, Int.reduceEq, Int.reduceLT, Int.reduceLE, arr_pos, arr_neg, ↓wpJoin, ]
 refine D_num _ _ _ hb (by omega) (by simp) (by simp) fun o o0 => ?_; simp (contextual := true) (maxSteps := 1000000) (disch := omega) only [↓Sd, ↓So, ↓Sk, ↓den, ↓denA, Sa, Sb, Sc, Se, O1.d, O2.d, O3.d, cmI, arI, envOf, putN, ↓reduceIte, Nat.reduceLT, Nat.reduceSub, Nat.reduceAdd, Int.reduceAdd, Int.reduceEq, Int.reduceLT, Int.reduceLE, arr_pos, arr_neg, ]
 simp (contextual := true) (maxSteps := 1000000) (disch := omega) only [↓Sd, ↓So, ↓Sk, ↓den, ↓denA, Sa, Sb, Sc, Se, O1.d, O2.d, O3.d, cmI, arI, envOf, putN, ↓reduceIte, Nat.reduceLT, Nat.reduceSub, Nat.reduceAdd, Int.reduceAdd, Int.reduceEq, Int.reduceLT, Int.reduceLE, arr_pos, arr_neg, ↓wpJoin, C_spec_l2VarOf, C_spec_l2Const]
 refine D_pick1 _ _ _ hb (by omega) (by omega) fun k k0 k1 => ?_; simp (contextual := true) (maxSteps := 1000000) (disch := omega) only [↓Sd, ↓So, ↓Sk, ↓den, ↓denA, Sa, Sb, Sc, Se, O1.d, O2.d, O3.d, cmI, arI, envOf, putN, ↓reduceIte, Nat.reduceLT, Nat.reduceSub, Nat.reduceAdd, Int.reduceAdd, Int.reduceEq, Int.reduceLT, Int.reduceLE, arr_pos, arr_neg, ]
 exact ⟨fun _ => h _ _ (by omega) (by simp), fun _ => h _ _ (by omega) (by simp)⟩
def mvT (t : Tm) (n : Int) : Tm := if 2 ≤ t.1 then (t.1, 0, IntKind.i64.wrap (t.2.2.1 + n), IntKind.i64.wrap (t.2.2.2 + n)) else t
theorem C_spec_l1Moved (t : Tm) (n : Int) (Q : List AV → Prop) : mc.C f_spec_l1Moved [⟨I, t.1⟩, ⟨I, t.2.1⟩, ⟨I, t.2.2.1⟩, ⟨I, t.2.2.2⟩, ⟨I, n⟩] Q = Q [⟨I, (mvT t n).1⟩, ⟨I, (mvT t n).2.1⟩, ⟨I, (mvT t n).2.2.1⟩, ⟨I, (mvT t n).2.2.2⟩] := by
 refine Mc.Ends.c (mc.ends F_spec_l1Moved ?_)
 unfold mvT
 by_cases g : 2 ≤ t.1
 ·rw [if_pos g]
  simp (contextual := true) (maxSteps := 1000000) (disch := omega) only [↓Sd, ↓So, ↓Sk, ↓den, ↓denA, Sa, Sb, Sc, Se, O1.d, O2.d, O3.d, cmI, arI, envOf, putN, ↓reduceIte, Nat.reduceLT, Nat.reduceSub, Nat.reduceAdd, Int.reduceAdd, Int.reduceEq, Int.reduceLT, Int.reduceLE, arr_pos, arr_neg, tr_spec_l1Moved]
 ·rw [if_neg g]
  simp (contextual := true) (maxSteps := 1000000) (disch := omega) only [↓Sd, ↓So, ↓Sk, ↓den, ↓denA, Sa, Sb, Sc, Se, O1.d, O2.d, O3.d, cmI, arI, envOf, putN, ↓reduceIte, Nat.reduceLT, Nat.reduceSub, Nat.reduceAdd, Int.reduceAdd, Int.reduceEq, Int.reduceLT, Int.reduceLE, arr_pos, arr_neg, tr_spec_l1Moved]
theorem C_spec_TermsValid (l : List Tm) (vars : Int) (hl : Few l) (Q : List AV → Prop) : mc.C f_spec_TermsValid [⟨L T4, l⟩, ⟨I, vars⟩] Q = Q [⟨B, decide (((kdsOf l vars).length : Int) > 0)⟩] := by
 refine Mc.Ends.c (mc.ends F_spec_TermsValid ?_)
 simp (contextual := true) (maxSteps := 1000000) (disch := omega) only [↓Sd, ↓So, ↓Sk, ↓den, ↓denA, Sa, Sb, Sc, Se, O1.d, O2.d, O3.d, cmI, arI, envOf, putN, ↓reduceIte, Nat.reduceLT, Nat.reduceSub, Nat.reduceAdd, Int.reduceAdd, Int.reduceEq, Int.reduceLT, Int.reduceLE, arr_pos, arr_neg, tr_spec_TermsValid, C_spec_KindsOf l vars hl]
theorem D_Joined (o : Int) (l m : List Tm) (vars : Int) (hl : l.length ≤ 1000) (hm : m.length ≤ 1000) {Q : List AV → Prop} (h : ∀ (r : List Tm), r.length ≤ l.length + m.length + 1 → Q [⟨L T4, r⟩]) : mc.C f_spec_Joined [⟨I, o⟩, ⟨L T4, l⟩, ⟨L T4, m⟩, ⟨I, vars⟩] Q := by
 have h1 : Few l := by unfold Few; omega
 have h2 : Few m := by unfold Few; omega
 refine mc.c_of F_spec_Joined ?_
 simp (contextual := true) (maxSteps := 1000000) (disch := omega) only [↓Sd, ↓So, ↓Sk, ↓den, ↓denA, Sa, Sb, Sc, Se, O1.d, O2.d, O3.d, cmI, arI, envOf, putN, ↓reduceIte, Nat.reduceLT, Nat.reduceSub, Nat.reduceAdd, Int.reduceAdd, Int.reduceEq, Int.reduceLT, Int.reduceLE, arr_pos, arr_neg, tr_spec_Joined, C_spec_TermsValid l vars h1, C_spec_TermsValid m vars h2]
 refine ⟨fun _ => h _ (by simp), fun _ => ⟨fun _ => h _ (by simp), fun _ => ?_⟩⟩
 refine mc.lp_for (List Tm) (fun i s => [⟨I, o⟩, ⟨L T4, l⟩, ⟨L T4, m⟩, ⟨I, vars⟩, ⟨I, (i : Int)⟩, ⟨L T4, s⟩]) (fun i s => s.length = i) l.length 0 [] _ rfl (Nat.zero_le _) rfl ?_ ?_
 ·rintro i s hi hs
  simp (contextual := true) (maxSteps := 1000000) (disch := omega) only [↓Sd, ↓So, ↓Sk, ↓den, ↓denA, Sa, Sb, Sc, Se, O1.d, O2.d, O3.d, cmI, arI, envOf, putN, ↓reduceIte, Nat.reduceLT, Nat.reduceSub, Nat.reduceAdd, Int.reduceAdd, Int.reduceEq, Int.reduceLT, Int.reduceLE, arr_pos, arr_neg, ]
  omega
 rintro s hs
 simp (contextual := true) (maxSteps := 1000000) (disch := omega) only [↓Sd, ↓So, ↓Sk, ↓den, ↓denA, Sa, Sb, Sc, Se, O1.d, O2.d, O3.d, cmI, arI, envOf, putN, ↓reduceIte, Nat.reduceLT, Nat.reduceSub, Nat.reduceAdd, Int.reduceAdd, Int.reduceEq, Int.reduceLT, Int.reduceLE, arr_pos, arr_neg, ↓wpJoin, ]
 refine mc.lp_for (List Tm) (fun i s => [⟨I, o⟩, ⟨L T4, l⟩, ⟨L T4, m⟩, ⟨I, vars⟩, ⟨I, (i : Int)⟩, ⟨L T4, s⟩]) (fun i s => s.length ≤ l.length + i) m.length 0 s _ rfl (Nat.zero_le _) (by omega) ?_ ?_
 ·rintro i s hi hs
  simp (contextual := true) (maxSteps := 1000000) (disch := omega) only [↓Sd, ↓So, ↓Sk, ↓den, ↓denA, Sa, Sb, Sc, Se, O1.d, O2.d, O3.d, cmI, arI, envOf, putN, ↓reduceIte, Nat.reduceLT, Nat.reduceSub, Nat.reduceAdd, Int.reduceAdd, Int.reduceEq, Int.reduceLT, Int.reduceLE, arr_pos, arr_neg, C_spec_l1One, C_spec_l1Moved]
  refine ⟨fun _ => by omega, fun g => ?_⟩
  have hf : Few (s ++ [((7 : Int), (0 : Int), (l.length : Int) - 1, (s.length : Int) - 1)]) := by unfold Few; simp only [List.length_append, List.length_singleton]; omega
  simp (contextual := true) (maxSteps := 1000000) (disch := omega) only [↓Sd, ↓So, ↓Sk, ↓den, ↓denA, Sa, Sb, Sc, Se, O1.d, O2.d, O3.d, cmI, arI, envOf, putN, ↓reduceIte, Nat.reduceLT, Nat.reduceSub, Nat.reduceAdd, Int.reduceAdd, Int.reduceEq, Int.reduceLT, Int.reduceLE, arr_pos, arr_neg, C_spec_TermsValid _ vars hf]
  exact ⟨fun _ => h _ (by simp), fun _ => h _ (by simp only [List.length_append, List.length_singleton]; omega)⟩
 ·rintro s hs
  simp (contextual := true) (maxSteps := 1000000) (disch := omega) only [↓Sd, ↓So, ↓Sk, ↓den, ↓denA, Sa, Sb, Sc, Se, O1.d, O2.d, O3.d, cmI, arI, envOf, putN, ↓reduceIte, Nat.reduceLT, Nat.reduceSub, Nat.reduceAdd, Int.reduceAdd, Int.reduceEq, Int.reduceLT, Int.reduceLE, arr_pos, arr_neg, ]
  refine ⟨fun _ => h _ (by simp), fun _ => ?_⟩
  have hf : Few (s ++ [(o, (0 : Int), (l.length : Int) - 1, (s.length : Int) - 1)]) := by unfold Few; simp only [List.length_append, List.length_singleton]; omega
  simp (contextual := true) (maxSteps := 1000000) (disch := omega) only [↓Sd, ↓So, ↓Sk, ↓den, ↓denA, Sa, Sb, Sc, Se, O1.d, O2.d, O3.d, cmI, arI, envOf, putN, ↓reduceIte, Nat.reduceLT, Nat.reduceSub, Nat.reduceAdd, Int.reduceAdd, Int.reduceEq, Int.reduceLT, Int.reduceLE, arr_pos, arr_neg, C_spec_TermsValid _ vars hf]
  exact ⟨fun _ => h _ (by simp), fun _ => h _ (by simp only [List.length_append, List.length_singleton]; omega)⟩
theorem D_l2When (b : List Int) (p : Int) (vs : List Vr) (hb : Rdy b) (hp : 0 ≤ p ∧ p ≤ 800000000) (hv : 1 ≤ vs.length) (hv2 : vs.length ≤ 1000) {Q : List AV → Prop} (h : ∀ (l : List Tm) (p' : Int), p ≤ p' ∧ p' ≤ p + 10 → l.length ≤ 9 → Q [⟨L T4, l⟩, ⟨RD, (b, p')⟩]) : mc.C f_spec_l2When [⟨RD, (b, p)⟩, ⟨L V3, vs⟩] Q := by
 refine mc.c_of F_spec_l2When ?_
 simp (contextual := true) (maxSteps := 1000000) (disch := omega) only [↓Sd, ↓So, ↓Sk, ↓den, ↓denA, Sa, Sb, Sc, Se, O1.d, O2.d, O3.d, cmI, arI, envOf, putN, ↓reduceIte, Nat.reduceLT, Nat.reduceSub, Nat.reduceAdd, Int.reduceAdd, Int.reduceEq, Int.reduceLT, Int.reduceLE, arr_pos, arr_neg, tr_spec_l2When]
 refine D_pick1 _ _ _ hb (by omega) (by omega) fun i i0 i1 => ?_; simp (contextual := true) (maxSteps := 1000000) (disch := omega) only [↓Sd, ↓So, ↓Sk, ↓den, ↓denA, Sa, Sb, Sc, Se, O1.d, O2.d, O3.d, cmI, arI, envOf, putN, ↓reduceIte, Nat.reduceLT, Nat.reduceSub, Nat.reduceAdd, Int.reduceAdd, Int.reduceEq, Int.reduceLT, Int.reduceLE, arr_pos, arr_neg, ]
 refine D_l2Cond _ _ (vs.getD i.toNat (0, 0, 0)) _ hb (by omega) fun l p1 hp1 hl => ?_
 simp (contextual := true) (maxSteps := 1000000) (disch := omega) only [↓Sd, ↓So, ↓Sk, ↓den, ↓denA, Sa, Sb, Sc, Se, O1.d, O2.d, O3.d, cmI, arI, envOf, putN, ↓reduceIte, Nat.reduceLT, Nat.reduceSub, Nat.reduceAdd, Int.reduceAdd, Int.reduceEq, Int.reduceLT, Int.reduceLE, arr_pos, arr_neg, ↓wpJoin, ]
 refine D_pick1 _ _ _ hb (by omega) (by omega) fun k k0 k1 => ?_; simp (contextual := true) (maxSteps := 1000000) (disch := omega) only [↓Sd, ↓So, ↓Sk, ↓den, ↓denA, Sa, Sb, Sc, Se, O1.d, O2.d, O3.d, cmI, arI, envOf, putN, ↓reduceIte, Nat.reduceLT, Nat.reduceSub, Nat.reduceAdd, Int.reduceAdd, Int.reduceEq, Int.reduceLT, Int.reduceLE, arr_pos, arr_neg, ]
 refine ⟨fun _ => ?_, fun _ => h _ _ (by omega) (by omega)⟩
 refine D_pick1 _ _ _ hb (by omega) (by omega) fun j j0 j1 => ?_; simp (contextual := true) (maxSteps := 1000000) (disch := omega) only [↓Sd, ↓So, ↓Sk, ↓den, ↓denA, Sa, Sb, Sc, Se, O1.d, O2.d, O3.d, cmI, arI, envOf, putN, ↓reduceIte, Nat.reduceLT, Nat.reduceSub, Nat.reduceAdd, Int.reduceAdd, Int.reduceEq, Int.reduceLT, Int.reduceLE, arr_pos, arr_neg, ]
 refine D_num _ _ _ hb (by omega) (by simp) (by simp) fun o o0 => ?_; simp (contextual := true) (maxSteps := 1000000) (disch := omega) only [↓Sd, ↓So, ↓Sk, ↓den, ↓denA, Sa, Sb, Sc, Se, O1.d, O2.d, O3.d, cmI, arI, envOf, putN, ↓reduceIte, Nat.reduceLT, Nat.reduceSub, Nat.reduceAdd, Int.reduceAdd, Int.reduceEq, Int.reduceLT, Int.reduceLE, arr_pos, arr_neg, ]
 refine D_l2Cond _ _ (vs.getD j.toNat (0, 0, 0)) _ hb (by omega) fun m p2 hp2 hm => ?_
 simp (contextual := true) (maxSteps := 1000000) (disch := omega) only [↓Sd, ↓So, ↓Sk, ↓den, ↓denA, Sa, Sb, Sc, Se, O1.d, O2.d, O3.d, cmI, arI, envOf, putN, ↓reduceIte, Nat.reduceLT, Nat.reduceSub, Nat.reduceAdd, Int.reduceAdd, Int.reduceEq, Int.reduceLT, Int.reduceLE, arr_pos, arr_neg, ]
 refine D_Joined _ _ _ _ (by omega) (by omega) fun r hr => ?_
 simp (contextual := true) (maxSteps := 1000000) (disch := omega) only [↓Sd, ↓So, ↓Sk, ↓den, ↓denA, Sa, Sb, Sc, Se, O1.d, O2.d, O3.d, cmI, arI, envOf, putN, ↓reduceIte, Nat.reduceLT, Nat.reduceSub, Nat.reduceAdd, Int.reduceAdd, Int.reduceEq, Int.reduceLT, Int.reduceLE, arr_pos, arr_neg, ↓wpJoin, ]
 exact h _ _ (by omega) (by omega)
theorem D_l1Terms (b : List Int) (p vars kind most : Int) (hb : Rdy b) (hp : 0 ≤ p ∧ p ≤ 800000000) (hv : 0 ≤ vars ∧ vars ≤ 5) (hm : 1 ≤ most ∧ most ≤ 12) {Q : List AV → Prop} (h : ∀ (l : List Tm) (p' : Int), p ≤ p' ∧ p' ≤ p + 400 → 1 ≤ l.length → l.length ≤ 16 → Q [⟨L T4, l⟩, ⟨RD, (b, p')⟩]) : mc.C f_spec_l1Terms [⟨RD, (b, p)⟩, ⟨I, vars⟩, ⟨I, kind⟩, ⟨I, most⟩] Q := by
 refine mc.c_of F_spec_l1Terms ?_
 simp (contextual := true) (maxSteps := 1000000) (disch := omega) only [↓Sd, ↓So, ↓Sk, ↓den, ↓denA, Sa, Sb, Sc, Se, O1.d, O2.d, O3.d, cmI, arI, envOf, putN, ↓reduceIte, Nat.reduceLT, Nat.reduceSub, Nat.reduceAdd, Int.reduceAdd, Int.reduceEq, Int.reduceLT, Int.reduceLE, arr_pos, arr_neg, tr_spec_l1Terms]
 refine D_pick1 _ _ _ hb (by omega) (by omega) fun n n0 n1 => ?_; simp (contextual := true) (maxSteps := 1000000) (disch := omega) only [↓Sd, ↓So, ↓Sk, ↓den, ↓denA, Sa, Sb, Sc, Se, O1.d, O2.d, O3.d, cmI, arI, envOf, putN, ↓reduceIte, Nat.reduceLT, Nat.reduceSub, Nat.reduceAdd, Int.reduceAdd, Int.reduceEq, Int.reduceLT, Int.reduceLE, arr_pos, arr_neg, ]
 obtain ⟨N, hN⟩ : ∃ N : Nat, n = N := ⟨n.toNat, by omega⟩
 subst hN
 refine mc.lp_inv (fun k us => ∃ (p1 : Int) (l : List Tm) (ks : List Int), us = [⟨I, vars⟩, ⟨I, kind⟩, ⟨I, (k : Int)⟩, ⟨L U, b⟩, ⟨I, p1⟩, ⟨L T4, l⟩, ⟨L I, ks⟩] ∧ l.length = ks.length ∧ l.length + k ≤ 2 + N ∧ p ≤ p1 ∧ p1 + 20 * k ≤ p + 1 + 20 * (2 + N)) (2 + N) _ ⟨p + 1, [], [], by simp, rfl, by simp, by omega, by omega⟩ ?_
 rintro k us ⟨p1, l, ks, rfl, i1, i2, i3, i4⟩
 cases k with
 | zero =>
  simp (contextual := true) (maxSteps := 1000000) (disch := omega) only [↓Sd, ↓So, ↓Sk, ↓den, ↓denA, Sa, Sb, Sc, Se, O1.d, O2.d, O3.d, cmI, arI, envOf, putN, ↓reduceIte, Nat.reduceLT, Nat.reduceSub, Nat.reduceAdd, Int.reduceAdd, Int.reduceEq, Int.reduceLT, Int.reduceLE, arr_pos, arr_neg, ]
  refine mc.wp_join (fun us => ∃ (l : List Tm) (ks : List Int), us = [⟨I, kind⟩, ⟨L U, b⟩, ⟨I, p1⟩, ⟨L T4, l⟩, ⟨L I, ks⟩] ∧ l.length = ks.length ∧ 1 ≤ l.length ∧ l.length ≤ 14) ?_ ?_
  ·simp (contextual := true) (maxSteps := 1000000) (disch := omega) only [↓Sd, ↓So, ↓Sk, ↓den, ↓denA, Sa, Sb, Sc, Se, O1.d, O2.d, O3.d, cmI, arI, envOf, putN, ↓reduceIte, Nat.reduceLT, Nat.reduceSub, Nat.reduceAdd, Int.reduceAdd, Int.reduceEq, Int.reduceLT, Int.reduceLE, arr_pos, arr_neg, ]
   refine ⟨fun g => ⟨_, _, ⟨rfl, rfl⟩, by simp [i1], by simp, ?_⟩, fun g => ⟨l, ks, ⟨rfl, rfl⟩, i1, by omega, by omega⟩⟩
   simp only [List.length_append, List.length_singleton]; omega
  ·rintro us ⟨l, ks, rfl, a1, a2, a3⟩
   refine mc.wp_join (fun us => ∃ (p2 : Int) (l : List Tm), us = [⟨L U, b⟩, ⟨I, p2⟩, ⟨L T4, l⟩] ∧ p ≤ p2 ∧ p2 ≤ p + 390 ∧ 1 ≤ l.length ∧ l.length ≤ 16) ?_ ?_
   ·have ln1 : ∀ x : Tm, 1 ≤ (l ++ [x]).length ∧ (l ++ [x]).length ≤ 16 := fun x => by simp only [List.length_append, List.length_singleton]; omega
    simp (contextual := true) (maxSteps := 1000000) (disch := omega) only [↓Sd, ↓So, ↓Sk, ↓den, ↓denA, Sa, Sb, Sc, Se, O1.d, O2.d, O3.d, cmI, arI, envOf, putN, ↓reduceIte, Nat.reduceLT, Nat.reduceSub, Nat.reduceAdd, Int.reduceAdd, Int.reduceEq, Int.reduceLT, Int.reduceLE, arr_pos, arr_neg, ]
    refine ⟨fun _ => ⟨fun _ => ?_, fun _ => ⟨_, _, ⟨rfl, rfl⟩, by omega, by omega, by omega, by omega⟩⟩, fun _ => ⟨fun _ => ⟨fun _ => ?_, fun _ => ⟨_, _, ⟨rfl, rfl⟩, by omega, by omega, by omega, by omega⟩⟩, fun _ => ⟨_, _, ⟨rfl, rfl⟩, by omega, by omega, by omega, by omega⟩⟩⟩
    ·refine D_num _ _ _ hb (by omega) (by simp) (by simp) fun o o0 => ?_; simp (contextual := true) (maxSteps := 1000000) (disch := omega) only [↓Sd, ↓So, ↓Sk, ↓den, ↓denA, Sa, Sb, Sc, Se, O1.d, O2.d, O3.d, cmI, arI, envOf, putN, ↓reduceIte, Nat.reduceLT, Nat.reduceSub, Nat.reduceAdd, Int.reduceAdd, Int.reduceEq, Int.reduceLT, Int.reduceLE, arr_pos, arr_neg, ]
     refine D_l1Pick _ _ _ _ hb (by omega) (by omega) (by omega) fun x hx => ?_
     simp (contextual := true) (maxSteps := 1000000) (disch := omega) only [↓Sd, ↓So, ↓Sk, ↓den, ↓denA, Sa, Sb, Sc, Se, O1.d, O2.d, O3.d, cmI, arI, envOf, putN, ↓reduceIte, Nat.reduceLT, Nat.reduceSub, Nat.reduceAdd, Int.reduceAdd, Int.reduceEq, Int.reduceLT, Int.reduceLE, arr_pos, arr_neg, ]
     exact ⟨_, _, ⟨rfl, rfl⟩, by omega, by omega, (ln1 _).1, (ln1 _).2⟩
    ·refine D_l1Pick _ _ _ _ hb (by omega) (by omega) (by omega) fun x hx => ?_
     simp (contextual := true) (maxSteps := 1000000) (disch := omega) only [↓Sd, ↓So, ↓Sk, ↓den, ↓denA, Sa, Sb, Sc, Se, O1.d, O2.d, O3.d, cmI, arI, envOf, putN, ↓reduceIte, Nat.reduceLT, Nat.reduceSub, Nat.reduceAdd, Int.reduceAdd, Int.reduceEq, Int.reduceLT, Int.reduceLE, arr_pos, arr_neg, ]
     refine D_num _ _ _ hb (by omega) (by simp) (by simp) fun o o0 => ?_; simp (contextual := true) (maxSteps := 1000000) (disch := omega) only [↓Sd, ↓So, ↓Sk, ↓den, ↓denA, Sa, Sb, Sc, Se, O1.d, O2.d, O3.d, cmI, arI, envOf, putN, ↓reduceIte, Nat.reduceLT, Nat.reduceSub, Nat.reduceAdd, Int.reduceAdd, Int.reduceEq, Int.reduceLT, Int.reduceLE, arr_pos, arr_neg, ]
     refine D_l1Pick _ _ _ _ hb (by omega) (by omega) (by omega) fun y hy => ?_
     simp (contextual := true) (maxSteps := 1000000) (disch := omega) only [↓Sd, ↓So, ↓Sk, ↓den, ↓denA, Sa, Sb, Sc, Se, O1.d, O2.d, O3.d, cmI, arI, envOf, putN, ↓reduceIte, Nat.reduceLT, Nat.reduceSub, Nat.reduceAdd, Int.reduceAdd, Int.reduceEq, Int.reduceLT, Int.reduceLE, arr_pos, arr_neg, ]
     exact ⟨_, _, ⟨rfl, rfl⟩, by omega, by omega, (ln1 _).1, (ln1 _).2⟩
   ·rintro us ⟨p2, l, rfl, c1, c2, c3, c4⟩
    simp (contextual := true) (maxSteps := 1000000) (disch := omega) only [↓Sd, ↓So, ↓Sk, ↓den, ↓denA, Sa, Sb, Sc, Se, O1.d, O2.d, O3.d, cmI, arI, envOf, putN, ↓reduceIte, Nat.reduceLT, Nat.reduceSub, Nat.reduceAdd, Int.reduceAdd, Int.reduceEq, Int.reduceLT, Int.reduceLE, arr_pos, arr_neg, ]
    exact h _ _ (by omega) (by omega) (by omega)
 | succ k =>
  simp (contextual := true) (maxSteps := 1000000) (disch := omega) only [↓Sd, ↓So, ↓Sk, ↓den, ↓denA, Sa, Sb, Sc, Se, O1.d, O2.d, O3.d, cmI, arI, envOf, putN, ↓reduceIte, Nat.reduceLT, Nat.reduceSub, Nat.reduceAdd, Int.reduceAdd, Int.reduceEq, Int.reduceLT, Int.reduceLE, arr_pos, arr_neg, ]
  refine mc.wp_join (fun us => ∃ (p2 : Int) (l : List Tm) (ks : List Int), us = [⟨I, vars⟩, ⟨I, kind⟩, ⟨I, (k : Int) + 1⟩, ⟨L U, b⟩, ⟨I, p2⟩, ⟨L T4, l⟩, ⟨L I, ks⟩] ∧ l.length = ks.length ∧ l.length + k ≤ 2 + N ∧ p ≤ p2 ∧ p2 + 20 * k ≤ p + 1 + 20 * (2 + N)) ?_ ?_
  ·simp (contextual := true) (maxSteps := 1000000) (disch := omega) only [↓Sd, ↓So, ↓Sk, ↓den, ↓denA, Sa, Sb, Sc, Se, O1.d, O2.d, O3.d, cmI, arI, envOf, putN, ↓reduceIte, Nat.reduceLT, Nat.reduceSub, Nat.reduceAdd, Int.reduceAdd, Int.reduceEq, Int.reduceLT, Int.reduceLE, arr_pos, arr_neg, ]
   refine D_num _ _ _ hb (by omega) (by simp) (by simp) fun o o0 => ?_; simp (contextual := true) (maxSteps := 1000000) (disch := omega) only [↓Sd, ↓So, ↓Sk, ↓den, ↓denA, Sa, Sb, Sc, Se, O1.d, O2.d, O3.d, cmI, arI, envOf, putN, ↓reduceIte, Nat.reduceLT, Nat.reduceSub, Nat.reduceAdd, Int.reduceAdd, Int.reduceEq, Int.reduceLT, Int.reduceLE, arr_pos, arr_neg, ]
   refine mc.wp_join (fun us => ∃ (p2 : Int) (t : Tm), us = [⟨I, vars⟩, ⟨I, kind⟩, ⟨I, (k : Int) + 1⟩, ⟨L U, b⟩, ⟨I, p2⟩, ⟨L T4, l⟩, ⟨L I, ks⟩, ⟨I, t.1⟩, ⟨I, t.2.1⟩, ⟨I, t.2.2.1⟩, ⟨I, t.2.2.2⟩] ∧ p ≤ p2 ∧ p2 ≤ p1 + 10) ?_ ?_
   ·simp (contextual := true) (maxSteps := 1000000) (disch := omega) only [↓Sd, ↓So, ↓Sk, ↓den, ↓denA, Sa, Sb, Sc, Se, O1.d, O2.d, O3.d, cmI, arI, envOf, putN, ↓reduceIte, Nat.reduceLT, Nat.reduceSub, Nat.reduceAdd, Int.reduceAdd, Int.reduceEq, Int.reduceLT, Int.reduceLE, arr_pos, arr_neg, ]
    refine ⟨fun g => ?_, fun g => ⟨fun g2 => ?_, fun g2 => ?_⟩⟩
    ·refine D_l1Number _ _ hb (by omega) fun x p2 hp2 => ?_
     simp (contextual := true) (maxSteps := 1000000) (disch := omega) only [↓Sd, ↓So, ↓Sk, ↓den, ↓denA, Sa, Sb, Sc, Se, O1.d, O2.d, O3.d, cmI, arI, envOf, putN, ↓reduceIte, Nat.reduceLT, Nat.reduceSub, Nat.reduceAdd, Int.reduceAdd, Int.reduceEq, Int.reduceLT, Int.reduceLE, arr_pos, arr_neg, ]
     refine ⟨fun _ => ⟨fun _ => ?_, fun _ => ⟨_, ((0 : Int), x, (0 : Int), (0 : Int)), ⟨rfl, rfl, rfl, rfl, rfl⟩, by omega, by omega⟩⟩, fun _ => ⟨_, ((0 : Int), x, (0 : Int), (0 : Int)), ⟨rfl, rfl, rfl, rfl, rfl⟩, by omega, by omega⟩⟩
     refine D_pick1 _ _ _ hb (by omega) (by omega) fun y y0 y1 => ?_; simp (contextual := true) (maxSteps := 1000000) (disch := omega) only [↓Sd, ↓So, ↓Sk, ↓den, ↓denA, Sa, Sb, Sc, Se, O1.d, O2.d, O3.d, cmI, arI, envOf, putN, ↓reduceIte, Nat.reduceLT, Nat.reduceSub, Nat.reduceAdd, Int.reduceAdd, Int.reduceEq, Int.reduceLT, Int.reduceLE, arr_pos, arr_neg, ]
     exact ⟨_, ((1 : Int), y, (0 : Int), (0 : Int)), ⟨rfl, rfl, rfl, rfl, rfl⟩, by omega, by omega⟩
    ·refine D_l1Number _ _ hb (by omega) fun x p2 hp2 => ?_
     simp (contextual := true) (maxSteps := 1000000) (disch := omega) only [↓Sd, ↓So, ↓Sk, ↓den, ↓denA, Sa, Sb, Sc, Se, O1.d, O2.d, O3.d, cmI, arI, envOf, putN, ↓reduceIte, Nat.reduceLT, Nat.reduceSub, Nat.reduceAdd, Int.reduceAdd, Int.reduceEq, Int.reduceLT, Int.reduceLE, arr_pos, arr_neg, ]
     refine ⟨fun _ => ⟨fun _ => ?_, fun _ => ⟨_, ((0 : Int), x, (0 : Int), (0 : Int)), ⟨rfl, rfl, rfl, rfl, rfl⟩, by omega, by omega⟩⟩, fun _ => ⟨_, ((0 : Int), x, (0 : Int), (0 : Int)), ⟨rfl, rfl, rfl, rfl, rfl⟩, by omega, by omega⟩⟩
     refine D_pick1 _ _ _ hb (by omega) (by omega) fun y y0 y1 => ?_; simp (contextual := true) (maxSteps := 1000000) (disch := omega) only [↓Sd, ↓So, ↓Sk, ↓den, ↓denA, Sa, Sb, Sc, Se, O1.d, O2.d, O3.d, cmI, arI, envOf, putN, ↓reduceIte, Nat.reduceLT, Nat.reduceSub, Nat.reduceAdd, Int.reduceAdd, Int.reduceEq, Int.reduceLT, Int.reduceLE, arr_pos, arr_neg, ]
     exact ⟨_, ((1 : Int), y, (0 : Int), (0 : Int)), ⟨rfl, rfl, rfl, rfl, rfl⟩, by omega, by omega⟩
    ·refine mc.wp_join (fun us => ∃ w : Int, us = [⟨I, vars⟩, ⟨I, kind⟩, ⟨I, (k : Int) + 1⟩, ⟨I, o⟩, ⟨I, w⟩, ⟨L U, b⟩, ⟨I, p1 + 1⟩, ⟨L T4, l⟩, ⟨L I, ks⟩, ⟨I, o⟩, ⟨I, (0 : Int)⟩, ⟨I, (0 : Int)⟩, ⟨I, (0 : Int)⟩]) ?_ ?_
     ·simp (contextual := true) (maxSteps := 1000000) (disch := omega) only [↓Sd, ↓So, ↓Sk, ↓den, ↓denA, Sa, Sb, Sc, Se, O1.d, O2.d, O3.d, cmI, arI, envOf, putN, ↓reduceIte, Nat.reduceLT, Nat.reduceSub, Nat.reduceAdd, Int.reduceAdd, Int.reduceEq, Int.reduceLT, Int.reduceLE, arr_pos, arr_neg, ]
      exact ⟨fun _ => ⟨2, rfl⟩, fun _ => ⟨1, rfl⟩⟩
     ·rintro us ⟨w, rfl⟩
      simp (contextual := true) (maxSteps := 1000000) (disch := omega) only [↓Sd, ↓So, ↓Sk, ↓den, ↓denA, Sa, Sb, Sc, Se, O1.d, O2.d, O3.d, cmI, arI, envOf, putN, ↓reduceIte, Nat.reduceLT, Nat.reduceSub, Nat.reduceAdd, Int.reduceAdd, Int.reduceEq, Int.reduceLT, Int.reduceLE, arr_pos, arr_neg, ]
      refine D_l1Pick _ _ _ _ hb (by omega) (by omega) (by omega) fun x hx => ?_
      simp (contextual := true) (maxSteps := 1000000) (disch := omega) only [↓Sd, ↓So, ↓Sk, ↓den, ↓denA, Sa, Sb, Sc, Se, O1.d, O2.d, O3.d, cmI, arI, envOf, putN, ↓reduceIte, Nat.reduceLT, Nat.reduceSub, Nat.reduceAdd, Int.reduceAdd, Int.reduceEq, Int.reduceLT, Int.reduceLE, arr_pos, arr_neg, ]
      refine D_l1Pick _ _ _ _ hb (by omega) (by omega) (by omega) fun y hy => ?_
      simp (contextual := true) (maxSteps := 1000000) (disch := omega) only [↓Sd, ↓So, ↓Sk, ↓den, ↓denA, Sa, Sb, Sc, Se, O1.d, O2.d, O3.d, cmI, arI, envOf, putN, ↓reduceIte, Nat.reduceLT, Nat.reduceSub, Nat.reduceAdd, Int.reduceAdd, Int.reduceEq, Int.reduceLT, Int.reduceLE, arr_pos, arr_neg, C_spec_l1One]
      exact ⟨fun _ => ⟨_, ((7 : Int), (0 : Int), x, x), ⟨rfl, rfl, rfl, rfl, rfl⟩, by omega, by omega⟩, fun _ => ⟨_, (o, (0 : Int), x, y), ⟨rfl, rfl, rfl, rfl, rfl⟩, by omega, by omega⟩⟩
   ·rintro us ⟨p2, t, rfl, c1, c2⟩
    simp (contextual := true) (maxSteps := 1000000) (disch := omega) only [↓Sd, ↓So, ↓Sk, ↓den, ↓denA, Sa, Sb, Sc, Se, O1.d, O2.d, O3.d, cmI, arI, envOf, putN, ↓reduceIte, Nat.reduceLT, Nat.reduceSub, Nat.reduceAdd, Int.reduceAdd, Int.reduceEq, Int.reduceLT, Int.reduceLE, arr_pos, arr_neg, C_spec_l1Kind t ks vars hv (by omega)]
    refine ⟨fun _ => ⟨_, _, _, ⟨rfl, rfl, rfl⟩, ?_, ?_, by omega, by omega⟩, fun _ => ⟨_, _, _, ⟨rfl, rfl, rfl⟩, i1, by omega, by omega, by omega⟩⟩
    ·simp only [List.length_append, List.length_singleton]; omega
    ·simp only [List.length_append, List.length_singleton]; omega
  ·rintro us ⟨p2, l, ks, rfl, a1, a2, a3, a4⟩
   simp (contextual := true) (maxSteps := 1000000) (disch := omega) only [↓Sd, ↓So, ↓Sk, ↓den, ↓denA, Sa, Sb, Sc, Se, O1.d, O2.d, O3.d, cmI, arI, envOf, putN, ↓reduceIte, Nat.reduceLT, Nat.reduceSub, Nat.reduceAdd, Int.reduceAdd, Int.reduceEq, Int.reduceLT, Int.reduceLE, arr_pos, arr_neg, ]
   exact ⟨k, by omega, p2, l, ks, ⟨rfl, rfl, rfl, rfl⟩, a1, a2, a3, a4⟩
theorem D_l2Value (b : List Int) (p : Int) (vs : List Vr) (k : Int) (i : Nat) (hk : k = i) (hb : Rdy b) (hp : 0 ≤ p ∧ p ≤ 700000000) (hv : vs.length ≤ 5) (hi : i < vs.length) {Q : List AV → Prop} (h : ∀ (l : List Tm) (p' : Int), p ≤ p' ∧ p' ≤ p + 500 → l.length ≤ 16 → Q [⟨L T4, l⟩, ⟨RD, (b, p')⟩]) : mc.C f_spec_l2Value [⟨RD, (b, p)⟩, ⟨L V3, vs⟩, ⟨I, k⟩] Q := by
 subst hk
 refine mc.c_of F_spec_l2Value ?_
 simp (contextual := true) (maxSteps := 1000000) (disch := omega) only [↓Sd, ↓So, ↓Sk, ↓den, ↓denA, Sa, Sb, Sc, Se, O1.d, O2.d, O3.d, cmI, arI, envOf, putN, ↓reduceIte, Nat.reduceLT, Nat.reduceSub, Nat.reduceAdd, Int.reduceAdd, Int.reduceEq, Int.reduceLT, Int.reduceLE, arr_pos, arr_neg, tr_spec_l2Value]
 refine D_pick1 _ _ _ hb (by omega) (by omega) fun k k0 k1 => ?_; simp (contextual := true) (maxSteps := 1000000) (disch := omega) only [↓Sd, ↓So, ↓Sk, ↓den, ↓denA, Sa, Sb, Sc, Se, O1.d, O2.d, O3.d, cmI, arI, envOf, putN, ↓reduceIte, Nat.reduceLT, Nat.reduceSub, Nat.reduceAdd, Int.reduceAdd, Int.reduceEq, Int.reduceLT, Int.reduceLE, arr_pos, arr_neg, ]
 refine ⟨fun _ => ?_, fun _ => ⟨fun _ => ?_, fun _ => ⟨fun _ => ?_, fun _ => ?_⟩⟩⟩
 ·simp (contextual := true) (maxSteps := 1000000) (disch := omega) only [↓Sd, ↓So, ↓Sk, ↓den, ↓denA, Sa, Sb, Sc, Se, O1.d, O2.d, O3.d, cmI, arI, envOf, putN, ↓reduceIte, Nat.reduceLT, Nat.reduceSub, Nat.reduceAdd, Int.reduceAdd, Int.reduceEq, Int.reduceLT, Int.reduceLE, arr_pos, arr_neg, C_spec_l2VarOf, C_spec_l2Const]
  refine D_num _ _ _ hb (by omega) (by simp) (by simp) fun o o0 => ?_; simp (contextual := true) (maxSteps := 1000000) (disch := omega) only [↓Sd, ↓So, ↓Sk, ↓den, ↓denA, Sa, Sb, Sc, Se, O1.d, O2.d, O3.d, cmI, arI, envOf, putN, ↓reduceIte, Nat.reduceLT, Nat.reduceSub, Nat.reduceAdd, Int.reduceAdd, Int.reduceEq, Int.reduceLT, Int.reduceLE, arr_pos, arr_neg, ]
  exact h _ _ (by omega) (by simp)
 ·refine D_pick _ _ _ hb (by omega) fun n _ _ => ?_
  simp (contextual := true) (maxSteps := 1000000) (disch := omega) only [↓Sd, ↓So, ↓Sk, ↓den, ↓denA, Sa, Sb, Sc, Se, O1.d, O2.d, O3.d, cmI, arI, envOf, putN, ↓reduceIte, Nat.reduceLT, Nat.reduceSub, Nat.reduceAdd, Int.reduceAdd, Int.reduceEq, Int.reduceLT, Int.reduceLE, arr_pos, arr_neg, ↓wpJoin, C_spec_l2Const]
  exact h _ _ (by omega) (by simp)
 ·refine D_pick1 _ _ _ hb (by omega) (by omega) fun n n0 n1 => ?_; simp (contextual := true) (maxSteps := 1000000) (disch := omega) only [↓Sd, ↓So, ↓Sk, ↓den, ↓denA, Sa, Sb, Sc, Se, O1.d, O2.d, O3.d, cmI, arI, envOf, putN, ↓reduceIte, Nat.reduceLT, Nat.reduceSub, Nat.reduceAdd, Int.reduceAdd, Int.reduceEq, Int.reduceLT, Int.reduceLE, arr_pos, arr_neg, ]
  simp (contextual := true) (maxSteps := 1000000) (disch := omega) only [↓Sd, ↓So, ↓Sk, ↓den, ↓denA, Sa, Sb, Sc, Se, O1.d, O2.d, O3.d, cmI, arI, envOf, putN, ↓reduceIte, Nat.reduceLT, Nat.reduceSub, Nat.reduceAdd, Int.reduceAdd, Int.reduceEq, Int.reduceLT, Int.reduceLE, arr_pos, arr_neg, C_spec_l2VarOf]
  exact h _ _ (by omega) (by simp)
 ·refine D_l1Terms _ _ _ _ _ hb (by omega) (by omega) (by omega) fun l p2 h1 h2 h3 => ?_
  simp (contextual := true) (maxSteps := 1000000) (disch := omega) only [↓Sd, ↓So, ↓Sk, ↓den, ↓denA, Sa, Sb, Sc, Se, O1.d, O2.d, O3.d, cmI, arI, envOf, putN, ↓reduceIte, Nat.reduceLT, Nat.reduceSub, Nat.reduceAdd, Int.reduceAdd, Int.reduceEq, Int.reduceLT, Int.reduceLE, arr_pos, arr_neg, ]
  exact h _ _ (by omega) (by omega)
def SmRu (r : Ru) : Prop := r.1.length ≤ 100 ∧ r.2.1.length ≤ 100 ∧ r.2.2.length ≤ 100 ∧ ∀ x ∈ r.2.2, x.length ≤ 100
def SmR5 (r : Ru) : Prop := r.1.length ≤ 50 ∧ r.2.1.length ≤ 50 ∧ r.2.2.length ≤ 50 ∧ ∀ x ∈ r.2.2, x.length ≤ 50
theorem SmR5.sm {r : Ru} (h : SmR5 r) : SmRu r := ⟨by have := h.1; omega, by have := h.2.1; omega, by have := h.2.2.1; omega, fun x hx => by have := h.2.2.2 x hx; omega⟩
def SmSy (s : Sy) : Prop := s.1.length ≤ 3 ∧ s.2.length ≤ 9 ∧ ∀ r ∈ s.2, SmRu r
theorem SmSy.few {s : Sy} (h : SmSy s) : FewSy s := by
 refine ⟨by have := h.1; unfold Few; omega, by have := h.2.1; unfold Few; omega, fun r hr => ?_⟩
 have h1 := h.2.2 r hr
 exact ⟨by have := h1.1; unfold Few; omega, by have := h1.2.1; unfold Few; omega, by have := h1.2.2.1; unfold Few; omega, fun x hx => by have := h1.2.2.2 x hx; unfold Few; omega⟩
theorem D_l2Rules (b : List Int) (p : Int) (vs : List Vr) (many : Nat) (hb : Rdy b) (hp : 0 ≤ p ∧ p ≤ 600000000) (hv1 : 1 ≤ vs.length) (hv : vs.length ≤ 3) (hm : many ≤ 9) {Q : List AV → Prop} (h : ∀ (l : List Ru) (p' : Int), p ≤ p' ∧ p' ≤ p + 20000 → l.length ≤ many → (∀ r ∈ l, SmR5 r) → Q [⟨L TR, l⟩, ⟨RD, (b, p')⟩]) : mc.C f_spec_l2Rules [⟨RD, (b, p)⟩, ⟨L V3, vs⟩, ⟨I, (many : Int)⟩] Q := by
 refine mc.c_of F_spec_l2Rules ?_
 simp (contextual := true) (maxSteps := 1000000) (disch := omega) only [↓Sd, ↓So, ↓Sk, ↓den, ↓denA, Sa, Sb, Sc, Se, O1.d, O2.d, O3.d, cmI, arI, envOf, putN, ↓reduceIte, Nat.reduceLT, Nat.reduceSub, Nat.reduceAdd, Int.reduceAdd, Int.reduceEq, Int.reduceLT, Int.reduceLE, arr_pos, arr_neg, tr_spec_l2Rules]
 refine mc.lp_for (Int × List Ru) (fun i s => [⟨L V3, vs⟩, ⟨I, (many : Int)⟩, ⟨I, (i : Int)⟩, ⟨L U, b⟩, ⟨I, s.1⟩, ⟨L TR, s.2⟩]) (fun i s => p ≤ s.1 ∧ s.1 ≤ p + 2000 * i ∧ s.2.length = i ∧ ∀ r ∈ s.2, SmR5 r) many 0 (p, []) _ rfl (Nat.zero_le _) ⟨by simp, by simp, rfl, by simp⟩ ?_ ?_
 ·rintro i ⟨p1, l⟩ hi ⟨a1, a2, a3, a4⟩
  simp only at a1 a2 a3 a4
  simp (contextual := true) (maxSteps := 1000000) (disch := omega) only [↓Sd, ↓So, ↓Sk, ↓den, ↓denA, Sa, Sb, Sc, Se, O1.d, O2.d, O3.d, cmI, arI, envOf, putN, ↓reduceIte, Nat.reduceLT, Nat.reduceSub, Nat.reduceAdd, Int.reduceAdd, Int.reduceEq, Int.reduceLT, Int.reduceLE, arr_pos, arr_neg, ]
  refine D_l2When _ _ _ hb (by omega) hv1 (by omega) fun w p2 hp2 hw => ?_
  simp (contextual := true) (maxSteps := 1000000) (disch := omega) only [↓Sd, ↓So, ↓Sk, ↓den, ↓denA, Sa, Sb, Sc, Se, O1.d, O2.d, O3.d, cmI, arI, envOf, putN, ↓reduceIte, Nat.reduceLT, Nat.reduceSub, Nat.reduceAdd, Int.reduceAdd, Int.reduceEq, Int.reduceLT, Int.reduceLE, arr_pos, arr_neg, ]
  refine mc.lp_for (Int × List Int × List (List Tm)) (fun j s => [⟨L V3, vs⟩, ⟨I, (many : Int)⟩, ⟨I, (i : Int)⟩, ⟨I, (j : Int)⟩, ⟨L U, b⟩, ⟨I, s.1⟩, ⟨L TR, l⟩, ⟨L T4, w⟩, ⟨L I, s.2.1⟩, ⟨L (L T4), s.2.2⟩]) (fun j s => p2 ≤ s.1 ∧ s.1 ≤ p2 + 510 * j ∧ s.2.1.length ≤ j ∧ s.2.2.length ≤ j ∧ ∀ x ∈ s.2.2, x.length ≤ 16) vs.length 0 (p2, [], []) _ rfl (Nat.zero_le _) ⟨by simp, by simp, by simp, by simp, by simp⟩ ?_ ?_
  ·rintro j ⟨p3, ss, ts⟩ hj ⟨c1, c2, c3, c4, c5⟩
   simp only at c1 c2 c3 c4 c5
   have app : ∀ (x : List Tm), x.length ≤ 16 → ∀ y ∈ ts ++ [x], y.length ≤ 16 := fun x hx y hy => (List.mem_append.1 hy).elim (c5 y) fun hy => by rw [List.mem_singleton.1 hy]; exact hx
   have l1 : ∀ x, (ss ++ [x]).length = ss.length + 1 := fun x => by simp
   have l2 : ∀ x, (ts ++ [x]).length = ts.length + 1 := fun x => by simp
   simp (contextual := true) (maxSteps := 1000000) (disch := omega) only [↓Sd, ↓So, ↓Sk, ↓den, ↓denA, Sa, Sb, Sc, Se, O1.d, O2.d, O3.d, cmI, arI, envOf, putN, ↓reduceIte, Nat.reduceLT, Nat.reduceSub, Nat.reduceAdd, Int.reduceAdd, Int.reduceEq, Int.reduceLT, Int.reduceLE, arr_pos, arr_neg, ↓wpJoin, ]
   refine D_pick1 _ _ _ hb (by omega) (by omega) fun a a0 a1 => ?_; simp (contextual := true) (maxSteps := 1000000) (disch := omega) only [↓Sd, ↓So, ↓Sk, ↓den, ↓denA, Sa, Sb, Sc, Se, O1.d, O2.d, O3.d, cmI, arI, envOf, putN, ↓reduceIte, Nat.reduceLT, Nat.reduceSub, Nat.reduceAdd, Int.reduceAdd, Int.reduceEq, Int.reduceLT, Int.reduceLE, arr_pos, arr_neg, ]
   refine ⟨fun _ => ?_, fun _ => ⟨fun _ => ⟨fun _ => ?_, fun _ => ?_⟩, fun _ => ?_⟩⟩
   ·refine D_l2Value _ _ _ _ j (by omega) hb (by omega) (by omega) hj fun x p4 hp4 hx => ?_
    simp (contextual := true) (maxSteps := 1000000) (disch := omega) only [↓Sd, ↓So, ↓Sk, ↓den, ↓denA, Sa, Sb, Sc, Se, O1.d, O2.d, O3.d, cmI, arI, envOf, putN, ↓reduceIte, Nat.reduceLT, Nat.reduceSub, Nat.reduceAdd, Int.reduceAdd, Int.reduceEq, Int.reduceLT, Int.reduceLE, arr_pos, arr_neg, ↓wpJoin, ]
    exact ⟨(_, _, _), ⟨rfl, rfl, rfl⟩, by dsimp only; omega, by dsimp only; omega, by dsimp only; rw [l1]; omega, by dsimp only; rw [l2]; omega, app x hx⟩
   ·refine D_pick1 _ _ _ hb (by omega) (by omega) fun c c0 c1 => ?_; simp (contextual := true) (maxSteps := 1000000) (disch := omega) only [↓Sd, ↓So, ↓Sk, ↓den, ↓denA, Sa, Sb, Sc, Se, O1.d, O2.d, O3.d, cmI, arI, envOf, putN, ↓reduceIte, Nat.reduceLT, Nat.reduceSub, Nat.reduceAdd, Int.reduceAdd, Int.reduceEq, Int.reduceLT, Int.reduceLE, arr_pos, arr_neg, ]
    refine ⟨fun _ => ?_, fun _ => ?_⟩
    ·refine D_l2Value _ _ _ _ j (by omega) hb (by omega) (by omega) hj fun x p4 hp4 hx => ?_
     simp (contextual := true) (maxSteps := 1000000) (disch := omega) only [↓Sd, ↓So, ↓Sk, ↓den, ↓denA, Sa, Sb, Sc, Se, O1.d, O2.d, O3.d, cmI, arI, envOf, putN, ↓reduceIte, Nat.reduceLT, Nat.reduceSub, Nat.reduceAdd, Int.reduceAdd, Int.reduceEq, Int.reduceLT, Int.reduceLE, arr_pos, arr_neg, ↓wpJoin, ]
     exact ⟨(_, _, _), ⟨rfl, rfl, rfl⟩, by dsimp only; omega, by dsimp only; omega, by dsimp only; rw [l1]; omega, by dsimp only; rw [l2]; omega, app x hx⟩
    ·exact ⟨(_, _, _), ⟨rfl, rfl, rfl⟩, by dsimp only; omega, by dsimp only; omega, by dsimp only; omega, by dsimp only; omega, c5⟩
   ·exact ⟨(_, _, _), ⟨rfl, rfl, rfl⟩, by dsimp only; omega, by dsimp only; omega, by dsimp only; omega, by dsimp only; omega, c5⟩
   ·exact ⟨(_, _, _), ⟨rfl, rfl, rfl⟩, by dsimp only; omega, by dsimp only; omega, by dsimp only; omega, by dsimp only; omega, c5⟩
  ·rintro ⟨p3, ss, ts⟩ ⟨c1, c2, c3, c4, c5⟩
   simp only at c1 c2 c3 c4 c5
   simp (contextual := true) (maxSteps := 1000000) (disch := omega) only [↓Sd, ↓So, ↓Sk, ↓den, ↓denA, Sa, Sb, Sc, Se, O1.d, O2.d, O3.d, cmI, arI, envOf, putN, ↓reduceIte, Nat.reduceLT, Nat.reduceSub, Nat.reduceAdd, Int.reduceAdd, Int.reduceEq, Int.reduceLT, Int.reduceLE, arr_pos, arr_neg, ]
   refine ⟨(_, _), ⟨rfl, rfl⟩, by dsimp only; omega, by dsimp only; omega, by dsimp only; simp [a3], fun r hr => ?_⟩
   rcases List.mem_append.1 hr with hr | hr
   ·exact a4 r hr
   ·rw [List.mem_singleton.1 hr]
    exact ⟨by dsimp only; omega, by dsimp only; omega, by dsimp only; omega, fun x hx => by have := c5 x hx; omega⟩
 ·rintro ⟨p1, l⟩ ⟨a1, a2, a3, a4⟩
  simp only at a1 a2 a3 a4
  simp (contextual := true) (maxSteps := 1000000) (disch := omega) only [↓Sd, ↓So, ↓Sk, ↓den, ↓denA, Sa, Sb, Sc, Se, O1.d, O2.d, O3.d, cmI, arI, envOf, putN, ↓reduceIte, Nat.reduceLT, Nat.reduceSub, Nat.reduceAdd, Int.reduceAdd, Int.reduceEq, Int.reduceLT, Int.reduceLE, arr_pos, arr_neg, ]
  exact h _ _ (by omega) (by omega) a4
theorem D_l2System (b : List Int) (p most : Int) (hb : Rdy b) (hp : 0 ≤ p ∧ p ≤ 500000000) {Q : List AV → Prop} (h : ∀ (s : Sy) (p' : Int), p ≤ p' ∧ p' ≤ p + 30000 → SmSy s → 1 ≤ s.1.length → s.2.length ≤ 4 → (∀ r ∈ s.2, SmR5 r) → Q [⟨L V3, s.1⟩, ⟨L TR, s.2⟩, ⟨RD, (b, p')⟩]) : mc.C f_spec_l2System [⟨RD, (b, p)⟩, ⟨I, most⟩] Q := by
 refine mc.c_of F_spec_l2System ?_
 simp (contextual := true) (maxSteps := 1000000) (disch := omega) only [↓Sd, ↓So, ↓Sk, ↓den, ↓denA, Sa, Sb, Sc, Se, O1.d, O2.d, O3.d, cmI, arI, envOf, putN, ↓reduceIte, Nat.reduceLT, Nat.reduceSub, Nat.reduceAdd, Int.reduceAdd, Int.reduceEq, Int.reduceLT, Int.reduceLE, arr_pos, arr_neg, tr_spec_l2System]
 refine D_pick1 _ _ _ hb (by omega) (by omega) fun n n0 n1 => ?_; simp (contextual := true) (maxSteps := 1000000) (disch := omega) only [↓Sd, ↓So, ↓Sk, ↓den, ↓denA, Sa, Sb, Sc, Se, O1.d, O2.d, O3.d, cmI, arI, envOf, putN, ↓reduceIte, Nat.reduceLT, Nat.reduceSub, Nat.reduceAdd, Int.reduceAdd, Int.reduceEq, Int.reduceLT, Int.reduceLE, arr_pos, arr_neg, ]
 obtain ⟨N, hN⟩ : ∃ N : Nat, n = N := ⟨n.toNat, by omega⟩
 subst hN
 refine mc.lp_inv (fun k us => ∃ (p1 m : Int) (l : List Vr), us = [⟨I, most⟩, ⟨I, m⟩, ⟨I, (k : Int)⟩, ⟨L U, b⟩, ⟨I, p1⟩, ⟨L V3, l⟩] ∧ l.length + k ≤ 1 + N ∧ p ≤ p1 ∧ p1 + 3 * k ≤ p + 1 + 3 * (1 + N)) (1 + N) _ ⟨p + 1, 1, [], by simp, by simp, by omega, by omega⟩ ?_
 rintro k us ⟨p1, m, l, rfl, i1, i2, i3⟩
 cases k with
 | zero =>
  simp (contextual := true) (maxSteps := 1000000) (disch := omega) only [↓Sd, ↓So, ↓Sk, ↓den, ↓denA, Sa, Sb, Sc, Se, O1.d, O2.d, O3.d, cmI, arI, envOf, putN, ↓reduceIte, Nat.reduceLT, Nat.reduceSub, Nat.reduceAdd, Int.reduceAdd, Int.reduceEq, Int.reduceLT, Int.reduceLE, arr_pos, arr_neg, ]
  refine mc.wp_join (fun us => ∃ (l : List Vr), us = [⟨L U, b⟩, ⟨I, p1⟩, ⟨L V3, l⟩] ∧ 1 ≤ l.length ∧ l.length ≤ 3) ?_ ?_
  ·simp (contextual := true) (maxSteps := 1000000) (disch := omega) only [↓Sd, ↓So, ↓Sk, ↓den, ↓denA, Sa, Sb, Sc, Se, O1.d, O2.d, O3.d, cmI, arI, envOf, putN, ↓reduceIte, Nat.reduceLT, Nat.reduceSub, Nat.reduceAdd, Int.reduceAdd, Int.reduceEq, Int.reduceLT, Int.reduceLE, arr_pos, arr_neg, ]
   exact ⟨fun _ => by omega, fun _ => by omega⟩
  ·rintro us ⟨l, rfl, a1, a2⟩
   simp (contextual := true) (maxSteps := 1000000) (disch := omega) only [↓Sd, ↓So, ↓Sk, ↓den, ↓denA, Sa, Sb, Sc, Se, O1.d, O2.d, O3.d, cmI, arI, envOf, putN, ↓reduceIte, Nat.reduceLT, Nat.reduceSub, Nat.reduceAdd, Int.reduceAdd, Int.reduceEq, Int.reduceLT, Int.reduceLE, arr_pos, arr_neg, ]
   refine D_num _ _ _ hb (by omega) (by simp) (by simp) fun x x0 => ?_; simp (contextual := true) (maxSteps := 1000000) (disch := omega) only [↓Sd, ↓So, ↓Sk, ↓den, ↓denA, Sa, Sb, Sc, Se, O1.d, O2.d, O3.d, cmI, arI, envOf, putN, ↓reduceIte, Nat.reduceLT, Nat.reduceSub, Nat.reduceAdd, Int.reduceAdd, Int.reduceEq, Int.reduceLT, Int.reduceLE, arr_pos, arr_neg, ]
   have hx : 0 ≤ x ∧ x ≤ 4 := by simp only [List.mem_append, List.mem_singleton] at x0; omega
   obtain ⟨y, hy⟩ : ∃ y : Nat, x = y := ⟨x.toNat, by omega⟩
   subst hy
   refine D_l2Rules _ _ _ _ hb (by omega) a1 a2 (by omega) fun rs p2 hp2 h1 h2 => ?_
   simp (contextual := true) (maxSteps := 1000000) (disch := omega) only [↓Sd, ↓So, ↓Sk, ↓den, ↓denA, Sa, Sb, Sc, Se, O1.d, O2.d, O3.d, cmI, arI, envOf, putN, ↓reduceIte, Nat.reduceLT, Nat.reduceSub, Nat.reduceAdd, Int.reduceAdd, Int.reduceEq, Int.reduceLT, Int.reduceLE, arr_pos, arr_neg, ↓wpJoin, ]
   exact h (l, rs) _ (by omega) ⟨a2, by dsimp only; omega, fun r hr => (h2 r hr).sm⟩ a1 (by dsimp only; omega) h2
 | succ k =>
  simp (contextual := true) (maxSteps := 1000000) (disch := omega) only [↓Sd, ↓So, ↓Sk, ↓den, ↓denA, Sa, Sb, Sc, Se, O1.d, O2.d, O3.d, cmI, arI, envOf, putN, ↓reduceIte, Nat.reduceLT, Nat.reduceSub, Nat.reduceAdd, Int.reduceAdd, Int.reduceEq, Int.reduceLT, Int.reduceLE, arr_pos, arr_neg, ]
  refine mc.wp_join (fun us => ∃ (p2 m : Int) (l : List Vr), us = [⟨I, most⟩, ⟨I, m⟩, ⟨I, (k : Int) + 1⟩, ⟨L U, b⟩, ⟨I, p2⟩, ⟨L V3, l⟩] ∧ l.length + k ≤ 1 + N ∧ p ≤ p2 ∧ p2 + 3 * k ≤ p + 1 + 3 * (1 + N)) ?_ ?_
  ·simp (contextual := true) (maxSteps := 1000000) (disch := omega) only [↓Sd, ↓So, ↓Sk, ↓den, ↓denA, Sa, Sb, Sc, Se, O1.d, O2.d, O3.d, cmI, arI, envOf, putN, ↓reduceIte, Nat.reduceLT, Nat.reduceSub, Nat.reduceAdd, Int.reduceAdd, Int.reduceEq, Int.reduceLT, Int.reduceLE, arr_pos, arr_neg, ]
   refine D_num _ _ _ hb (by omega) (by simp) (by simp) fun x x0 => ?_; simp (contextual := true) (maxSteps := 1000000) (disch := omega) only [↓Sd, ↓So, ↓Sk, ↓den, ↓denA, Sa, Sb, Sc, Se, O1.d, O2.d, O3.d, cmI, arI, envOf, putN, ↓reduceIte, Nat.reduceLT, Nat.reduceSub, Nat.reduceAdd, Int.reduceAdd, Int.reduceEq, Int.reduceLT, Int.reduceLE, arr_pos, arr_neg, ]
   have hx : 2 ≤ x ∧ x ≤ 5 := by simp only [List.mem_append, List.mem_singleton] at x0; omega
   refine ⟨fun _ => ?_, fun _ => ⟨_, _, _, ⟨rfl, rfl, rfl⟩, by omega, by omega, by omega⟩⟩
   refine D_num _ _ _ hb (by omega) (by simp) (by simp) fun lo lo0 => ?_; simp (contextual := true) (maxSteps := 1000000) (disch := omega) only [↓Sd, ↓So, ↓Sk, ↓den, ↓denA, Sa, Sb, Sc, Se, O1.d, O2.d, O3.d, cmI, arI, envOf, putN, ↓reduceIte, Nat.reduceLT, Nat.reduceSub, Nat.reduceAdd, Int.reduceAdd, Int.reduceEq, Int.reduceLT, Int.reduceLE, arr_pos, arr_neg, ]
   refine D_pick1 _ _ _ hb (by omega) (by omega) fun d d0 d1 => ?_; simp (contextual := true) (maxSteps := 1000000) (disch := omega) only [↓Sd, ↓So, ↓Sk, ↓den, ↓denA, Sa, Sb, Sc, Se, O1.d, O2.d, O3.d, cmI, arI, envOf, putN, ↓reduceIte, Nat.reduceLT, Nat.reduceSub, Nat.reduceAdd, Int.reduceAdd, Int.reduceEq, Int.reduceLT, Int.reduceLE, arr_pos, arr_neg, ]
   simp (contextual := true) (maxSteps := 1000000) (disch := omega) only [↓Sd, ↓So, ↓Sk, ↓den, ↓denA, Sa, Sb, Sc, Se, O1.d, O2.d, O3.d, cmI, arI, envOf, putN, ↓reduceIte, Nat.reduceLT, Nat.reduceSub, Nat.reduceAdd, Int.reduceAdd, Int.reduceEq, Int.reduceLT, Int.reduceLE, arr_pos, arr_neg, ↓wpJoin, ]
   exact ⟨_, _, _, ⟨rfl, rfl, rfl⟩, by simp only [List.length_append, List.length_singleton]; omega, by omega, by omega⟩
  ·rintro us ⟨p2, m, l, rfl, a1, a2, a3⟩
   simp (contextual := true) (maxSteps := 1000000) (disch := omega) only [↓Sd, ↓So, ↓Sk, ↓den, ↓denA, Sa, Sb, Sc, Se, O1.d, O2.d, O3.d, cmI, arI, envOf, putN, ↓reduceIte, Nat.reduceLT, Nat.reduceSub, Nat.reduceAdd, Int.reduceAdd, Int.reduceEq, Int.reduceLT, Int.reduceLE, arr_pos, arr_neg, ]
   exact ⟨k, by omega, p2, m, l, ⟨rfl, rfl, rfl, rfl⟩, a1, a2, a3⟩
theorem D_l2Any (b : List Int) (p most : Int) (hb : Rdy b) (hp : 0 ≤ p ∧ p ≤ 400000000) {Q : List AV → Prop} (h : ∀ (s : Sy) (p' : Int), p ≤ p' ∧ p' ≤ p + 31000 → SmSy s → Q [⟨L V3, s.1⟩, ⟨L TR, s.2⟩, ⟨RD, (b, p')⟩]) : mc.C f_spec_l2Any [⟨RD, (b, p)⟩, ⟨I, most⟩] Q := by
 refine mc.c_of F_spec_l2Any ?_
 simp (contextual := true) (maxSteps := 1000000) (disch := omega) only [↓Sd, ↓So, ↓Sk, ↓den, ↓denA, Sa, Sb, Sc, Se, O1.d, O2.d, O3.d, cmI, arI, envOf, putN, ↓reduceIte, Nat.reduceLT, Nat.reduceSub, Nat.reduceAdd, Int.reduceAdd, Int.reduceEq, Int.reduceLT, Int.reduceLE, arr_pos, arr_neg, tr_spec_l2Any]
 refine D_l2System _ _ _ hb (by omega) fun s p1 hp1 hs h1 h2 h5 => ?_
 simp (contextual := true) (maxSteps := 1000000) (disch := omega) only [↓Sd, ↓So, ↓Sk, ↓den, ↓denA, Sa, Sb, Sc, Se, O1.d, O2.d, O3.d, cmI, arI, envOf, putN, ↓reduceIte, Nat.reduceLT, Nat.reduceSub, Nat.reduceAdd, Int.reduceAdd, Int.reduceEq, Int.reduceLT, Int.reduceLE, arr_pos, arr_neg, ↓wpJoin, C_spec_l2Const]
 refine D_pick1 _ _ _ hb (by omega) (by omega) fun a a0 a1 => ?_; simp (contextual := true) (maxSteps := 1000000) (disch := omega) only [↓Sd, ↓So, ↓Sk, ↓den, ↓denA, Sa, Sb, Sc, Se, O1.d, O2.d, O3.d, cmI, arI, envOf, putN, ↓reduceIte, Nat.reduceLT, Nat.reduceSub, Nat.reduceAdd, Int.reduceAdd, Int.reduceEq, Int.reduceLT, Int.reduceLE, arr_pos, arr_neg, ]
 refine ⟨fun _ => ?_, fun _ => h _ _ (by omega) hs⟩
 have hV : ∀ (l : List Vr) (p' : Int), l.length ≤ 3 → p ≤ p' ∧ p' ≤ p + 31000 → Q [⟨L V3, l⟩, ⟨L TR, s.2⟩, ⟨RD, (b, p')⟩] := fun l p' hl hp' => h (l, s.2) p' hp' ⟨hl, hs.2.1, hs.2.2⟩
 have hR : ∀ (r : Ru) (p' : Int), SmRu r → p ≤ p' ∧ p' ≤ p + 31000 → Q [⟨L V3, s.1⟩, ⟨L TR, s.2.set 0 r⟩, ⟨RD, (b, p')⟩] := fun r p' hr hp' => h (s.1, s.2.set 0 r) p' hp' ⟨hs.1, by rw [List.length_set]; exact hs.2.1, fun x hx => (List.mem_or_eq_of_mem_set hx).elim (hs.2.2 x) fun e => by rw [e]; exact hr⟩
 have hS1 : (s.1.set 0 (s.1.getD 0 (0, 0, 0))).length ≤ 3 := by rw [List.length_set]; exact hs.1
 have hsl : ∀ x : Vr, (s.1.set 0 x).length ≤ 3 := fun x => by rw [List.length_set]; exact hs.1
 have hb0 : SmR5 (s.2.getD 0 ([], [], [])) := by
  by_cases g : 0 < s.2.length
  ·exact h5 _ (getD_mem g)
  ·rw [List.getD_eq_getElem?_getD, List.getElem?_eq_none (by omega)]; exact ⟨by simp, by simp, by simp, by simp⟩
 refine D_pick1 _ _ _ hb (by omega) (by omega) fun c c0 c1 => ?_; simp (contextual := true) (maxSteps := 1000000) (disch := omega) only [↓Sd, ↓So, ↓Sk, ↓den, ↓denA, Sa, Sb, Sc, Se, O1.d, O2.d, O3.d, cmI, arI, envOf, putN, ↓reduceIte, Nat.reduceLT, Nat.reduceSub, Nat.reduceAdd, Int.reduceAdd, Int.reduceEq, Int.reduceLT, Int.reduceLE, arr_pos, arr_neg, ]
 have q1 := hb0.2.1
 have q2 := hb0.2.2.1
 simp (contextual := true) (maxSteps := 1000000) (disch := omega) only [↓Sd, ↓So, ↓Sk, ↓den, ↓denA, Sa, Sb, Sc, Se, O1.d, O2.d, O3.d, cmI, arI, envOf, putN, ↓reduceIte, Nat.reduceLT, Nat.reduceSub, Nat.reduceAdd, Int.reduceAdd, Int.reduceEq, Int.reduceLT, Int.reduceLE, arr_pos, arr_neg, ↓wpJoin, C_spec_l2Const]
 repeat' first | apply And.intro | intro _
 all_goals first
  | exact hV _ _ (hsl _) (by omega)
  | exact hV _ _ (by simp) (by omega)
  | exact hV _ _ hs.1 (by omega)
  | exact hR _ _ ⟨by simp, hb0.sm.2.1, hb0.sm.2.2.1, hb0.sm.2.2.2⟩ (by omega)
  | exact hR _ _ ⟨hb0.sm.1, by simp only [List.length_append, List.length_singleton]; omega, hb0.sm.2.2.1, hb0.sm.2.2.2⟩ (by omega)
  | exact hR _ _ ⟨hb0.sm.1, hb0.sm.2.1, by simp only [List.length_append, List.length_singleton]; omega, fun x hx => (List.mem_append.1 hx).elim (hb0.sm.2.2.2 x) fun hx => by rw [List.mem_singleton.1 hx]; simp⟩ (by omega)
  | skip
 refine D_num _ _ _ hb (by omega) (by simp) (by simp) fun x x0 => ?_; simp (contextual := true) (maxSteps := 1000000) (disch := omega) only [↓Sd, ↓So, ↓Sk, ↓den, ↓denA, Sa, Sb, Sc, Se, O1.d, O2.d, O3.d, cmI, arI, envOf, putN, ↓reduceIte, Nat.reduceLT, Nat.reduceSub, Nat.reduceAdd, Int.reduceAdd, Int.reduceEq, Int.reduceLT, Int.reduceLE, arr_pos, arr_neg, ]
 simp (contextual := true) (maxSteps := 1000000) (disch := omega) only [↓Sd, ↓So, ↓Sk, ↓den, ↓denA, Sa, Sb, Sc, Se, O1.d, O2.d, O3.d, cmI, arI, envOf, putN, ↓reduceIte, Nat.reduceLT, Nat.reduceSub, Nat.reduceAdd, Int.reduceAdd, Int.reduceEq, Int.reduceLT, Int.reduceLE, arr_pos, arr_neg, ↓wpJoin, ]
 exact hV _ _ (hsl _) (by omega)
theorem C_laws_wcInts (a b : List Int) (ha : a.length ≤ 1048576) (hb : b.length ≤ 1048576) (Q : List AV → Prop) : mc.C f_laws_wcInts [⟨L I, a⟩, ⟨L I, b⟩] Q = Q [⟨B, decide (a = b)⟩] := by
 refine Mc.Ends.c (mc.ends F_laws_wcInts ?_)
 generalize hK : decide (a = b) = K
 simp (contextual := true) (maxSteps := 1000000) (disch := omega) only [↓Sd, ↓So, ↓Sk, ↓den, ↓denA, Sa, Sb, Sc, Se, O1.d, O2.d, O3.d, cmI, arI, envOf, putN, ↓reduceIte, Nat.reduceLT, Nat.reduceSub, Nat.reduceAdd, Int.reduceAdd, Int.reduceEq, Int.reduceLT, Int.reduceLE, arr_pos, arr_neg, tr_laws_wcInts]
 refine ⟨fun g => ?_, fun g => ?_⟩
 ·rw [← hK, decide_eq_false]; intro h; rw [h] at g; exact absurd rfl g
 ·have hl : a.length = b.length := by omega
  refine lp_all (fun i => [⟨L I, b⟩, ⟨L I, a⟩, ⟨I, (a.length : Int)⟩, ⟨I, (i : Int)⟩]) (fun i => a.getD i 0 = b.getD i 0) a.length _ ?_ ?_ ?_
  ·rw [hl]; rfl
  ·intro i hi
   simp (contextual := true) (maxSteps := 1000000) (disch := omega) only [↓Sd, ↓So, ↓Sk, ↓den, ↓denA, Sa, Sb, Sc, Se, O1.d, O2.d, O3.d, cmI, arI, envOf, putN, ↓reduceIte, Nat.reduceLT, Nat.reduceSub, Nat.reduceAdd, Int.reduceAdd, Int.reduceEq, Int.reduceLT, Int.reduceLE, arr_pos, arr_neg, ]
   intro h
   rw [← hK, decide_eq_false]
   intro h2; rw [h2] at h; exact h rfl
  ·intro h
   simp (contextual := true) (maxSteps := 1000000) (disch := omega) only [↓Sd, ↓So, ↓Sk, ↓den, ↓denA, Sa, Sb, Sc, Se, O1.d, O2.d, O3.d, cmI, arI, envOf, putN, ↓reduceIte, Nat.reduceLT, Nat.reduceSub, Nat.reduceAdd, Int.reduceAdd, Int.reduceEq, Int.reduceLT, Int.reduceLE, arr_pos, arr_neg, ]
   rw [← hK, decide_eq_true]
   refine List.ext_getElem hl fun i h1 h2 => ?_
   have := h i h1
   rwa [getD_lt h1, getD_lt h2] at this
theorem D_l4Some (b : List Int) (p : Int) (s : Sy) (hb : Rdy b) (hp : 0 ≤ p ∧ p ≤ 700000000) (hs : FewSy s) {Q : List AV → Prop} (h : ∀ (l : List Int) (p' : Int), p ≤ p' ∧ p' ≤ p + 500 → l.length ≤ 401 → Q [⟨L I, l⟩, ⟨RD, (b, p')⟩]) : mc.C f_spec_l4Some [⟨RD, (b, p)⟩, ⟨L V3, s.1⟩, ⟨L TR, s.2⟩] Q := by
 refine mc.c_of F_spec_l4Some ?_
 simp (contextual := true) (maxSteps := 1000000) (disch := omega) only [↓Sd, ↓So, ↓Sk, ↓den, ↓denA, Sa, Sb, Sc, Se, O1.d, O2.d, O3.d, cmI, arI, envOf, putN, ↓reduceIte, Nat.reduceLT, Nat.reduceSub, Nat.reduceAdd, Int.reduceAdd, Int.reduceEq, Int.reduceLT, Int.reduceLE, arr_pos, arr_neg, tr_spec_l4Some, C_spec_SizeOf s hs]
 obtain ⟨N, hN, hN2⟩ : ∃ N : Nat, (if valid s then sz s.1 else 0) = N ∧ N ≤ 400 := by
  by_cases g : valid s
  ·have := szn_eq g; exact ⟨szn s.1, by rw [if_pos g]; omega, by omega⟩
  ·exact ⟨0, by rw [if_neg g]; rfl, by omega⟩
 rw [hN]
 refine D_num _ _ _ hb (by omega) (by simp) (by simp) fun k k0 => ?_; simp (contextual := true) (maxSteps := 1000000) (disch := omega) only [↓Sd, ↓So, ↓Sk, ↓den, ↓denA, Sa, Sb, Sc, Se, O1.d, O2.d, O3.d, cmI, arI, envOf, putN, ↓reduceIte, Nat.reduceLT, Nat.reduceSub, Nat.reduceAdd, Int.reduceAdd, Int.reduceEq, Int.reduceLT, Int.reduceLE, arr_pos, arr_neg, ]
 have hk : 1 ≤ k := by simp only [List.mem_append, List.mem_singleton] at k0; omega
 refine mc.lp_for (Int × List Int) (fun i s => [⟨I, (N : Int)⟩, ⟨I, k⟩, ⟨I, (i : Int)⟩, ⟨L U, b⟩, ⟨I, s.1⟩, ⟨L I, s.2⟩]) (fun i s => p ≤ s.1 ∧ s.1 ≤ p + 1 + i ∧ s.2.length ≤ i) N 0 (p + 1, []) _ rfl (Nat.zero_le _) ⟨by dsimp only; omega, by dsimp only; omega, by simp⟩ ?_ ?_
 ·rintro i ⟨p1, l⟩ hi ⟨a1, a2, a3⟩
  simp only at a1 a2 a3
  simp (contextual := true) (maxSteps := 1000000) (disch := omega) only [↓Sd, ↓So, ↓Sk, ↓den, ↓denA, Sa, Sb, Sc, Se, O1.d, O2.d, O3.d, cmI, arI, envOf, putN, ↓reduceIte, Nat.reduceLT, Nat.reduceSub, Nat.reduceAdd, Int.reduceAdd, Int.reduceEq, Int.reduceLT, Int.reduceLE, arr_pos, arr_neg, ↓wpJoin, ]
  refine D_pick1 _ _ _ hb (by omega) (by omega) fun a a0 a1 => ?_; simp (contextual := true) (maxSteps := 1000000) (disch := omega) only [↓Sd, ↓So, ↓Sk, ↓den, ↓denA, Sa, Sb, Sc, Se, O1.d, O2.d, O3.d, cmI, arI, envOf, putN, ↓reduceIte, Nat.reduceLT, Nat.reduceSub, Nat.reduceAdd, Int.reduceAdd, Int.reduceEq, Int.reduceLT, Int.reduceLE, arr_pos, arr_neg, ]
  exact ⟨fun _ => ⟨(_, _), ⟨rfl, rfl⟩, by dsimp only; omega, by dsimp only; omega, by simp only [List.length_append, List.length_singleton]; omega⟩, fun _ => ⟨(_, _), ⟨rfl, rfl⟩, by dsimp only; omega, by dsimp only; omega, by dsimp only; omega⟩⟩
 ·rintro ⟨p1, l⟩ ⟨a1, a2, a3⟩
  simp only at a1 a2 a3
  simp (contextual := true) (maxSteps := 1000000) (disch := omega) only [↓Sd, ↓So, ↓Sk, ↓den, ↓denA, Sa, Sb, Sc, Se, O1.d, O2.d, O3.d, cmI, arI, envOf, putN, ↓reduceIte, Nat.reduceLT, Nat.reduceSub, Nat.reduceAdd, Int.reduceAdd, Int.reduceEq, Int.reduceLT, Int.reduceLE, arr_pos, arr_neg, ↓wpJoin, ]
  refine D_pick1 _ _ _ hb (by omega) (by omega) fun a a0 a1 => ?_; simp (contextual := true) (maxSteps := 1000000) (disch := omega) only [↓Sd, ↓So, ↓Sk, ↓den, ↓denA, Sa, Sb, Sc, Se, O1.d, O2.d, O3.d, cmI, arI, envOf, putN, ↓reduceIte, Nat.reduceLT, Nat.reduceSub, Nat.reduceAdd, Int.reduceAdd, Int.reduceEq, Int.reduceLT, Int.reduceLE, arr_pos, arr_neg, ]
  refine ⟨fun _ => ?_, fun _ => h _ _ (by omega) (by omega)⟩
  refine D_num _ _ _ hb (by omega) (by simp) (by simp) fun x x0 => ?_; simp (contextual := true) (maxSteps := 1000000) (disch := omega) only [↓Sd, ↓So, ↓Sk, ↓den, ↓denA, Sa, Sb, Sc, Se, O1.d, O2.d, O3.d, cmI, arI, envOf, putN, ↓reduceIte, Nat.reduceLT, Nat.reduceSub, Nat.reduceAdd, Int.reduceAdd, Int.reduceEq, Int.reduceLT, Int.reduceLE, arr_pos, arr_neg, ]
  exact h _ _ (by omega) (by simp only [List.length_append, List.length_singleton]; omega)
noncomputable def mix (f : Bool → Bool → Bool) (a b : List Int) : List Int := if lset a 400 ∧ lset b 400 then upTo (fun k => f (dB ((k : Int) ∈ a)) (dB ((k : Int) ∈ b))) 400 else []
theorem mix_len {f : Bool → Bool → Bool} {a b : List Int} : (mix f a b).length ≤ 400 := by
 unfold mix
 exact ite_few fun _ => upTo_len
theorem mix_set {f : Bool → Bool → Bool} {a b : List Int} : lset (mix f a b) 400 := by
 unfold mix
 split
 ·exact upTo_lset (m := 400) (Nat.le_refl _)
 ·intro i hi; exact absurd hi (Nat.not_lt_zero _)
theorem C_impl_SetWithout (a b : List Int) (ha : a.length ≤ 1048576) (hb : b.length ≤ 1048576) (Q : List AV → Prop) : mc.C f_impl_SetWithout [⟨L I, a⟩, ⟨L I, b⟩] Q = Q [⟨L I, mix (fun x y => x && !y) a b⟩] := by
 refine Mc.Ends.c (mc.ends F_impl_SetWithout ?_)
 generalize hK : mix (fun x y => x && !y) a b = K
 obtain ⟨N, hN⟩ : ∃ N : Nat, N = 400 := ⟨400, rfl⟩
 have hNi : (N : Int) = 400 := by omega
 unfold mix at hK
 simp (contextual := true) (maxSteps := 1000000) (disch := omega) only [↓Sd, ↓So, ↓Sk, ↓den, ↓denA, Sa, Sb, Sc, Se, O1.d, O2.d, O3.d, cmI, arI, envOf, putN, ↓reduceIte, Nat.reduceLT, Nat.reduceSub, Nat.reduceAdd, Int.reduceAdd, Int.reduceEq, Int.reduceLT, Int.reduceLE, arr_pos, arr_neg, tr_impl_SetWithout, C_impl_setOk a 400 (by omega) ha, C_impl_setOk b 400 (by omega) hb]
 refine ⟨fun h1 => ?_, fun h1 => ⟨fun h2 => ?_, fun h2 => ?_⟩⟩
 ·rw [← hK, if_neg fun h => h1 h.1]
 ·rw [← hK, if_neg fun h => h2 h.2]
 ·rw [if_pos ⟨h1, h2⟩] at hK
  simp (contextual := true) (maxSteps := 1000000) (disch := omega) only [↓Sd, ↓So, ↓Sk, ↓den, ↓denA, Sa, Sb, Sc, Se, O1.d, O2.d, O3.d, cmI, arI, envOf, putN, ↓reduceIte, Nat.reduceLT, Nat.reduceSub, Nat.reduceAdd, Int.reduceAdd, Int.reduceEq, Int.reduceLT, Int.reduceLE, arr_pos, arr_neg, C_impl_marks_i a 400 N hNi.symm (by omega) ha (fun x hx => by have := lset_mem h1 x hx; omega), C_impl_marks_i b 400 N hNi.symm (by omega) hb (fun x hx => by have := lset_mem h2 x hx; omega)]
  have hr : List.replicate (Int.toNat 400) false = tab (fun k => if k < 0 then (dB ((k : Int) ∈ a) && !dB ((k : Int) ∈ b)) else false) N := by
   rw [show Int.toNat 400 = N by omega, rep_tab]
   exact tab_congr fun k _ => by rw [if_neg (by omega)]
  rw [hr, tab_len]
  refine mc.lp_for (List Bool) (fun i o => [⟨I, (N : Int)⟩, ⟨I, (i : Int)⟩, ⟨L B, tab (fun k => dB ((k : Int) ∈ a)) N⟩, ⟨L B, tab (fun k => dB ((k : Int) ∈ b)) N⟩, ⟨L B, o⟩]) (fun i o => o = tab (fun k => if k < i then (dB ((k : Int) ∈ a) && !dB ((k : Int) ∈ b)) else false) N) N 0 _ _ rfl (Nat.zero_le _) rfl ?_ ?_
  ·rintro i o hi rfl
   simp (contextual := true) (maxSteps := 1000000) (disch := omega) only [↓Sd, ↓So, ↓Sk, ↓den, ↓denA, Sa, Sb, Sc, Se, O1.d, O2.d, O3.d, cmI, arI, envOf, putN, ↓reduceIte, Nat.reduceLT, Nat.reduceSub, Nat.reduceAdd, Int.reduceAdd, Int.reduceEq, Int.reduceLT, Int.reduceLE, arr_pos, arr_neg, ↓wpJoin, tab_len, tab_get hi, tab_set']
   have key : ∀ v : Bool, v = (dB ((i : Int) ∈ a) && !dB ((i : Int) ∈ b)) → tab (fun k => if k = i then v else if k < i then (dB ((k : Int) ∈ a) && !dB ((k : Int) ∈ b)) else false) N = tab (fun k => if k < i + 1 then (dB ((k : Int) ∈ a) && !dB ((k : Int) ∈ b)) else false) N := by
    intro v hv
    refine tab_congr fun k _ => ?_
    by_cases e : k = i
    ·subst e; rw [if_pos rfl, if_pos (by omega), hv]
    ·rw [if_neg e]
     by_cases e2 : k < i
     ·rw [if_pos e2, if_pos (by omega)]
     ·rw [if_neg e2, if_neg (by omega)]
   exact ⟨fun g => key _ (by simp [g]), fun g => key _ (by simp [g])⟩
  ·rintro o rfl
   simp (contextual := true) (maxSteps := 1000000) (disch := omega) only [↓Sd, ↓So, ↓Sk, ↓den, ↓denA, Sa, Sb, Sc, Se, O1.d, O2.d, O3.d, cmI, arI, envOf, putN, ↓reduceIte, Nat.reduceLT, Nat.reduceSub, Nat.reduceAdd, Int.reduceAdd, Int.reduceEq, Int.reduceLT, Int.reduceLE, arr_pos, arr_neg, C_impl_listOf_tab _ N (by omega : N ≤ 1048576)]
   rw [← hK, ← hN]
   exact upTo_congr fun k hk => if_pos hk
theorem C_impl_SetBoth (a b : List Int) (ha : a.length ≤ 1048576) (hb : b.length ≤ 1048576) (Q : List AV → Prop) : mc.C f_impl_SetBoth [⟨L I, a⟩, ⟨L I, b⟩] Q = Q [⟨L I, mix (fun x y => x && y) a b⟩] := by
 refine Mc.Ends.c (mc.ends F_impl_SetBoth ?_)
 generalize hK : mix (fun x y => x && y) a b = K
 obtain ⟨N, hN⟩ : ∃ N : Nat, N = 400 := ⟨400, rfl⟩
 have hNi : (N : Int) = 400 := by omega
 unfold mix at hK
 simp (contextual := true) (maxSteps := 1000000) (disch := omega) only [↓Sd, ↓So, ↓Sk, ↓den, ↓denA, Sa, Sb, Sc, Se, O1.d, O2.d, O3.d, cmI, arI, envOf, putN, ↓reduceIte, Nat.reduceLT, Nat.reduceSub, Nat.reduceAdd, Int.reduceAdd, Int.reduceEq, Int.reduceLT, Int.reduceLE, arr_pos, arr_neg, tr_impl_SetBoth, C_impl_setOk a 400 (by omega) ha, C_impl_setOk b 400 (by omega) hb]
 refine ⟨fun h1 => ?_, fun h1 => ⟨fun h2 => ?_, fun h2 => ?_⟩⟩
 ·rw [← hK, if_neg fun h => h1 h.1]
 ·rw [← hK, if_neg fun h => h2 h.2]
 ·rw [if_pos ⟨h1, h2⟩] at hK
  simp (contextual := true) (maxSteps := 1000000) (disch := omega) only [↓Sd, ↓So, ↓Sk, ↓den, ↓denA, Sa, Sb, Sc, Se, O1.d, O2.d, O3.d, cmI, arI, envOf, putN, ↓reduceIte, Nat.reduceLT, Nat.reduceSub, Nat.reduceAdd, Int.reduceAdd, Int.reduceEq, Int.reduceLT, Int.reduceLE, arr_pos, arr_neg, C_impl_marks_i a 400 N hNi.symm (by omega) ha (fun x hx => by have := lset_mem h1 x hx; omega), C_impl_marks_i b 400 N hNi.symm (by omega) hb (fun x hx => by have := lset_mem h2 x hx; omega)]
  have hr : List.replicate (Int.toNat 400) false = tab (fun k => if k < 0 then (dB ((k : Int) ∈ a) && dB ((k : Int) ∈ b)) else false) N := by
   rw [show Int.toNat 400 = N by omega, rep_tab]
   exact tab_congr fun k _ => by rw [if_neg (by omega)]
  rw [hr, tab_len]
  refine mc.lp_for (List Bool) (fun i o => [⟨I, (N : Int)⟩, ⟨I, (i : Int)⟩, ⟨L B, tab (fun k => dB ((k : Int) ∈ a)) N⟩, ⟨L B, tab (fun k => dB ((k : Int) ∈ b)) N⟩, ⟨L B, o⟩]) (fun i o => o = tab (fun k => if k < i then (dB ((k : Int) ∈ a) && dB ((k : Int) ∈ b)) else false) N) N 0 _ _ rfl (Nat.zero_le _) rfl ?_ ?_
  ·rintro i o hi rfl
   simp (contextual := true) (maxSteps := 1000000) (disch := omega) only [↓Sd, ↓So, ↓Sk, ↓den, ↓denA, Sa, Sb, Sc, Se, O1.d, O2.d, O3.d, cmI, arI, envOf, putN, ↓reduceIte, Nat.reduceLT, Nat.reduceSub, Nat.reduceAdd, Int.reduceAdd, Int.reduceEq, Int.reduceLT, Int.reduceLE, arr_pos, arr_neg, ↓wpJoin, tab_len, tab_get hi, tab_set']
   have key : ∀ v : Bool, v = (dB ((i : Int) ∈ a) && dB ((i : Int) ∈ b)) → tab (fun k => if k = i then v else if k < i then (dB ((k : Int) ∈ a) && dB ((k : Int) ∈ b)) else false) N = tab (fun k => if k < i + 1 then (dB ((k : Int) ∈ a) && dB ((k : Int) ∈ b)) else false) N := by
    intro v hv
    refine tab_congr fun k _ => ?_
    by_cases e : k = i
    ·subst e; rw [if_pos rfl, if_pos (by omega), hv]
    ·rw [if_neg e]
     by_cases e2 : k < i
     ·rw [if_pos e2, if_pos (by omega)]
     ·rw [if_neg e2, if_neg (by omega)]
   exact ⟨fun g => key _ (by simp [g]), fun g => key _ (by simp [g])⟩
  ·rintro o rfl
   simp (contextual := true) (maxSteps := 1000000) (disch := omega) only [↓Sd, ↓So, ↓Sk, ↓den, ↓denA, Sa, Sb, Sc, Se, O1.d, O2.d, O3.d, cmI, arI, envOf, putN, ↓reduceIte, Nat.reduceLT, Nat.reduceSub, Nat.reduceAdd, Int.reduceAdd, Int.reduceEq, Int.reduceLT, Int.reduceLE, arr_pos, arr_neg, C_impl_listOf_tab _ N (by omega : N ≤ 1048576)]
   rw [← hK, ← hN]
   exact upTo_congr fun k hk => if_pos hk
theorem C_spec_SetWithout_a (a b : List Int) (ha : a.length ≤ 1048576) (hb : b.length ≤ 1048576) (Q : List AV → Prop) : mc.C f_spec_SetWithout [⟨L I, a⟩, ⟨L I, b⟩] Q = Q [⟨L I, mix (fun x y => x && !y) a b⟩] := by
 by_cases h1 : lset a 400
 ·by_cases h2 : lset b 400
  ·rw [C_spec_SetWithout a b h1 h2, mix, if_pos ⟨h1, h2⟩]
  ·rw [mix, if_neg fun h => h2 h.2]
   have e : mc.C f_spec_l4Mix [⟨L I, a⟩, ⟨L I, b⟩, ⟨I, 2⟩] = fun Q => Q [⟨L I, []⟩] := by
    funext Q
    refine Mc.Ends.c (mc.ends F_spec_l4Mix ?_)
    simp (contextual := true) (maxSteps := 1000000) (disch := omega) only [↓Sd, ↓So, ↓Sk, ↓den, ↓denA, Sa, Sb, Sc, Se, O1.d, O2.d, O3.d, cmI, arI, envOf, putN, ↓reduceIte, Nat.reduceLT, Nat.reduceSub, Nat.reduceAdd, Int.reduceAdd, Int.reduceEq, Int.reduceLT, Int.reduceLE, arr_pos, arr_neg, tr_spec_l4Mix, C_spec_l4Set a ha, C_spec_l4Set b hb, h1, h2]
   refine Mc.Ends.c (mc.ends F_spec_SetWithout ?_)
   simp (contextual := true) (maxSteps := 1000000) (disch := omega) only [↓Sd, ↓So, ↓Sk, ↓den, ↓denA, Sa, Sb, Sc, Se, O1.d, O2.d, O3.d, cmI, arI, envOf, putN, ↓reduceIte, Nat.reduceLT, Nat.reduceSub, Nat.reduceAdd, Int.reduceAdd, Int.reduceEq, Int.reduceLT, Int.reduceLE, arr_pos, arr_neg, tr_spec_SetWithout, e]
 ·rw [mix, if_neg fun h => h1 h.1]
  have e : mc.C f_spec_l4Mix [⟨L I, a⟩, ⟨L I, b⟩, ⟨I, 2⟩] = fun Q => Q [⟨L I, []⟩] := by
   funext Q
   refine Mc.Ends.c (mc.ends F_spec_l4Mix ?_)
   simp (contextual := true) (maxSteps := 1000000) (disch := omega) only [↓Sd, ↓So, ↓Sk, ↓den, ↓denA, Sa, Sb, Sc, Se, O1.d, O2.d, O3.d, cmI, arI, envOf, putN, ↓reduceIte, Nat.reduceLT, Nat.reduceSub, Nat.reduceAdd, Int.reduceAdd, Int.reduceEq, Int.reduceLT, Int.reduceLE, arr_pos, arr_neg, tr_spec_l4Mix, C_spec_l4Set a ha, C_spec_l4Set b hb, h1]
  refine Mc.Ends.c (mc.ends F_spec_SetWithout ?_)
  simp (contextual := true) (maxSteps := 1000000) (disch := omega) only [↓Sd, ↓So, ↓Sk, ↓den, ↓denA, Sa, Sb, Sc, Se, O1.d, O2.d, O3.d, cmI, arI, envOf, putN, ↓reduceIte, Nat.reduceLT, Nat.reduceSub, Nat.reduceAdd, Int.reduceAdd, Int.reduceEq, Int.reduceLT, Int.reduceLE, arr_pos, arr_neg, tr_spec_SetWithout, e]
theorem nextN_set {s : Sy} {l : List Int} (h : valid s) : lset (nextN s l) 400 := lset_mono (upTo_lset (m := szn s.1) (Nat.le_refl _)) (by have := szn_eq h; omega)
theorem nextN_mem {s : Sy} {l : List Int} (h : setV s l) {x : Int} : x ∈ nextN s l ↔ ∃ k : Nat, k < szn s.1 ∧ x = (k : Int) ∧ ∃ y ∈ l, (k : Int) ∈ (steps s).getD y.toNat [] := by
 rw [nextN, upTo_mem]
 constructor
 ·rintro ⟨k, h1, h2, h3⟩
  exact ⟨k, h1, h2, (behind_mem h.mem).1 (dB_iff.1 h3)⟩
 ·rintro ⟨k, h1, h2, h3⟩
  exact ⟨k, h1, h2, dB_t ((behind_mem h.mem).2 h3)⟩
end Go.Proofs.YtmlicpnoccdcdaaGreat
namespace Go.Proofs.YtmlicpnoccdcdaaGreat
open Go Go.Sm Go.Sm.Q
set_option linter.unusedSimpArgs false
set_option linter.unusedVariables false
theorem C_spec_BitsOf (s : Sy) (hs : FewSy s) (Q : List AV → Prop) : mc.C f_spec_BitsOf [⟨L V3, s.1⟩, ⟨L TR, s.2⟩] Q = Q [⟨L I, tab (bw s.1) (if valid s then s.1.length else 0)⟩] := by
 refine Mc.Ends.c (mc.ends F_spec_BitsOf ?_)
 by_cases h : valid s
 ·rw [if_pos h]
  simp (contextual := true) (maxSteps := 1000000) (disch := omega) only [↓Sd, ↓So, ↓Sk, ↓den, ↓denA, Sa, Sb, Sc, Se, O1.d, O2.d, O3.d, cmI, arI, envOf, putN, ↓reduceIte, Nat.reduceLT, Nat.reduceSub, Nat.reduceAdd, Int.reduceAdd, Int.reduceEq, Int.reduceLT, Int.reduceLE, arr_pos, arr_neg, tr_spec_BitsOf, C_spec_SystemValid s hs, h, C_spec_l6Widths s h]
 ·rw [if_neg h]
  simp (contextual := true) (maxSteps := 1000000) (disch := omega) only [↓Sd, ↓So, ↓Sk, ↓den, ↓denA, Sa, Sb, Sc, Se, O1.d, O2.d, O3.d, cmI, arI, envOf, putN, ↓reduceIte, Nat.reduceLT, Nat.reduceSub, Nat.reduceAdd, Int.reduceAdd, Int.reduceEq, Int.reduceLT, Int.reduceLE, arr_pos, arr_neg, tr_spec_BitsOf, C_spec_SystemValid s hs, h]
  rfl
theorem D_l16Some (b : List Int) (p : Int) (n : Nat) (hb : Rdy b) (hp : 0 ≤ p ∧ p ≤ 700000000) (hn : n ≤ 100) {Q : List AV → Prop} (h : ∀ (l : List Int) (p' : Int), p ≤ p' ∧ p' ≤ p + 200 → l.length ≤ 101 → Q [⟨L I, l⟩, ⟨RD, (b, p')⟩]) : mc.C f_spec_l16Some [⟨RD, (b, p)⟩, ⟨I, (n : Int)⟩] Q := by
 refine mc.c_of F_spec_l16Some ?_
 simp (contextual := true) (maxSteps := 1000000) (disch := omega) only [↓Sd, ↓So, ↓Sk, ↓den, ↓denA, Sa, Sb, Sc, Se, O1.d, O2.d, O3.d, cmI, arI, envOf, putN, ↓reduceIte, Nat.reduceLT, Nat.reduceSub, Nat.reduceAdd, Int.reduceAdd, Int.reduceEq, Int.reduceLT, Int.reduceLE, arr_pos, arr_neg, tr_spec_l16Some]
 refine mc.lp_for (Int × List Int) (fun i s => [⟨I, (n : Int)⟩, ⟨I, (i : Int)⟩, ⟨L U, b⟩, ⟨I, s.1⟩, ⟨L I, s.2⟩]) (fun i s => p ≤ s.1 ∧ s.1 ≤ p + i ∧ s.2.length ≤ i) n 0 (p, []) _ rfl (Nat.zero_le _) ⟨by dsimp only; omega, by dsimp only; omega, by simp⟩ ?_ ?_
 ·rintro i ⟨p1, l⟩ hi ⟨a1, a2, a3⟩
  simp only at a1 a2 a3
  simp (contextual := true) (maxSteps := 1000000) (disch := omega) only [↓Sd, ↓So, ↓Sk, ↓den, ↓denA, Sa, Sb, Sc, Se, O1.d, O2.d, O3.d, cmI, arI, envOf, putN, ↓reduceIte, Nat.reduceLT, Nat.reduceSub, Nat.reduceAdd, Int.reduceAdd, Int.reduceEq, Int.reduceLT, Int.reduceLE, arr_pos, arr_neg, ]
  refine D_num _ _ _ hb (by omega) (by simp) (by simp) fun x x0 => ?_; simp (contextual := true) (maxSteps := 1000000) (disch := omega) only [↓Sd, ↓So, ↓Sk, ↓den, ↓denA, Sa, Sb, Sc, Se, O1.d, O2.d, O3.d, cmI, arI, envOf, putN, ↓reduceIte, Nat.reduceLT, Nat.reduceSub, Nat.reduceAdd, Int.reduceAdd, Int.reduceEq, Int.reduceLT, Int.reduceLE, arr_pos, arr_neg, ]
  exact ⟨(_, _), ⟨rfl, rfl⟩, by dsimp only; omega, by dsimp only; omega, by simp only [List.length_append, List.length_singleton]; omega⟩
 ·rintro ⟨p1, l⟩ ⟨a1, a2, a3⟩
  simp only at a1 a2 a3
  simp (contextual := true) (maxSteps := 1000000) (disch := omega) only [↓Sd, ↓So, ↓Sk, ↓den, ↓denA, Sa, Sb, Sc, Se, O1.d, O2.d, O3.d, cmI, arI, envOf, putN, ↓reduceIte, Nat.reduceLT, Nat.reduceSub, Nat.reduceAdd, Int.reduceAdd, Int.reduceEq, Int.reduceLT, Int.reduceLE, arr_pos, arr_neg, ↓wpJoin, ]
  refine D_pick1 _ _ _ hb (by omega) (by omega) fun a a0 a1 => ?_; simp (contextual := true) (maxSteps := 1000000) (disch := omega) only [↓Sd, ↓So, ↓Sk, ↓den, ↓denA, Sa, Sb, Sc, Se, O1.d, O2.d, O3.d, cmI, arI, envOf, putN, ↓reduceIte, Nat.reduceLT, Nat.reduceSub, Nat.reduceAdd, Int.reduceAdd, Int.reduceEq, Int.reduceLT, Int.reduceLE, arr_pos, arr_neg, ]
  refine ⟨fun _ => ?_, fun _ => h _ _ (by omega) (by omega)⟩
  refine D_num _ _ _ hb (by omega) (by simp) (by simp) fun x x0 => ?_; simp (contextual := true) (maxSteps := 1000000) (disch := omega) only [↓Sd, ↓So, ↓Sk, ↓den, ↓denA, Sa, Sb, Sc, Se, O1.d, O2.d, O3.d, cmI, arI, envOf, putN, ↓reduceIte, Nat.reduceLT, Nat.reduceSub, Nat.reduceAdd, Int.reduceAdd, Int.reduceEq, Int.reduceLT, Int.reduceLE, arr_pos, arr_neg, ]
  exact h _ _ (by omega) (by simp only [List.length_append, List.length_singleton]; omega)
theorem D_l16Draw (b : List Int) (hb : Byt b) (hl : Lt63 b) {Q : List AV → Prop} (h : ∀ (b' : List Int) (p : Int) (s : Sy) (c : List Int), Rdy b' → 0 ≤ p ∧ p ≤ 100000 → SmSy s → c.length ≤ 101 → Q [⟨RD, (b', p)⟩, ⟨L V3, s.1⟩, ⟨L TR, s.2⟩, ⟨L I, c⟩]) : mc.C f_spec_l16Draw [⟨L U, b⟩] Q := by
 refine mc.c_of F_spec_l16Draw ?_
 simp (contextual := true) (maxSteps := 1000000) (disch := omega) only [↓Sd, ↓So, ↓Sk, ↓den, ↓denA, Sa, Sb, Sc, Se, O1.d, O2.d, O3.d, cmI, arI, envOf, putN, ↓reduceIte, Nat.reduceLT, Nat.reduceSub, Nat.reduceAdd, Int.reduceAdd, Int.reduceEq, Int.reduceLT, Int.reduceLE, arr_pos, arr_neg, tr_spec_l16Draw]
 refine D_open b hb hl fun b hb => ?_
 simp (contextual := true) (maxSteps := 1000000) (disch := omega) only [↓Sd, ↓So, ↓Sk, ↓den, ↓denA, Sa, Sb, Sc, Se, O1.d, O2.d, O3.d, cmI, arI, envOf, putN, ↓reduceIte, Nat.reduceLT, Nat.reduceSub, Nat.reduceAdd, Int.reduceAdd, Int.reduceEq, Int.reduceLT, Int.reduceLE, arr_pos, arr_neg, ]
 refine D_l2Any _ _ _ hb (by omega) fun s p1 hp1 hs => ?_
 have hf := hs.few
 have hk : (if valid s then s.1.length else 0) ≤ 5 := by
  split
  ·have := hs.1; omega
  ·omega
 obtain ⟨k, hk2⟩ : ∃ k, (if valid s then s.1.length else 0) = k := ⟨_, rfl⟩
 rw [hk2] at hk
 have hsum := sumN_bd (f := bw s.1) (fun i => bw_bd s.1 i) k
 obtain ⟨n, hn⟩ : ∃ n : Nat, sumN (bw s.1) k = n := ⟨(sumN (bw s.1) k).toNat, by omega⟩
 simp (contextual := true) (maxSteps := 1000000) (disch := omega) only [↓Sd, ↓So, ↓Sk, ↓den, ↓denA, Sa, Sb, Sc, Se, O1.d, O2.d, O3.d, cmI, arI, envOf, putN, ↓reduceIte, Nat.reduceLT, Nat.reduceSub, Nat.reduceAdd, Int.reduceAdd, Int.reduceEq, Int.reduceLT, Int.reduceLE, arr_pos, arr_neg, C_spec_BitsOf s hf, hk2, C_spec_l6Sum (bw s.1) k hk (fun i => bw_bd s.1 i), hn]
 refine D_l16Some _ _ _ hb (by omega) (by omega) fun c p2 hp2 hc => ?_
 simp (contextual := true) (maxSteps := 1000000) (disch := omega) only [↓Sd, ↓So, ↓Sk, ↓den, ↓denA, Sa, Sb, Sc, Se, O1.d, O2.d, O3.d, cmI, arI, envOf, putN, ↓reduceIte, Nat.reduceLT, Nat.reduceSub, Nat.reduceAdd, Int.reduceAdd, Int.reduceEq, Int.reduceLT, Int.reduceLE, arr_pos, arr_neg, ↓wpJoin, C_spec_SystemValid s hf]
 refine ⟨fun hv => ?_, fun hv => h _ _ s c hb (by omega) hs hc⟩
 refine D_pick1 _ _ _ hb (by omega) (by omega) fun a a0 a1 => ?_; simp (contextual := true) (maxSteps := 1000000) (disch := omega) only [↓Sd, ↓So, ↓Sk, ↓den, ↓denA, Sa, Sb, Sc, Se, O1.d, O2.d, O3.d, cmI, arI, envOf, putN, ↓reduceIte, Nat.reduceLT, Nat.reduceSub, Nat.reduceAdd, Int.reduceAdd, Int.reduceEq, Int.reduceLT, Int.reduceLE, arr_pos, arr_neg, ↓wpJoin, ]
 refine ⟨fun _ => ?_, fun _ => h _ _ s c hb (by omega) hs hc⟩
 have hz := szn_eq hv
 simp (contextual := true) (maxSteps := 1000000) (disch := omega) only [↓Sd, ↓So, ↓Sk, ↓den, ↓denA, Sa, Sb, Sc, Se, O1.d, O2.d, O3.d, cmI, arI, envOf, putN, ↓reduceIte, Nat.reduceLT, Nat.reduceSub, Nat.reduceAdd, Int.reduceAdd, Int.reduceEq, Int.reduceLT, Int.reduceLE, arr_pos, arr_neg, C_spec_SizeOf s hf, if_pos hv]
 refine D_pick1 _ _ _ hb (by omega) (by omega) fun x x0 x1 => ?_
 have hin := stAt_in hv.2.2.1 (n := x) (by omega)
 have hbl := @sb_len s (stAt s.1 x)
 have hbc := bc_bd hv
 simp (contextual := true) (maxSteps := 1000000) (disch := omega) only [↓Sd, ↓So, ↓Sk, ↓den, ↓denA, Sa, Sb, Sc, Se, O1.d, O2.d, O3.d, cmI, arI, envOf, putN, ↓reduceIte, Nat.reduceLT, Nat.reduceSub, Nat.reduceAdd, Int.reduceAdd, Int.reduceEq, Int.reduceLT, Int.reduceLE, arr_pos, arr_neg, ↓wpJoin, C_spec_l4State s x hf hv (by omega), C_spec_l6State s _ hv hin]
 exact h _ _ s _ hb (by omega) hs (by omega)
noncomputable def cubeS (s : Sy) (c : List Int) : List Int := if valid s ∧ cubeV c (bc s.1) then upTo (inC s c) (szn s.1) else []
theorem cubeS_len {s : Sy} {c : List Int} : (cubeS s c).length ≤ 400 := by
 unfold cubeS
 exact ite_few fun h => upTo_few h.1
theorem cubeS_set {s : Sy} {c : List Int} : lset (cubeS s c) 400 := by
 unfold cubeS
 split
 ·rename_i h
  have := szn_eq h.1
  exact lset_mono (upTo_lset (m := szn s.1) (Nat.le_refl _)) (by omega)
 ·intro i hi; exact absurd hi (Nat.not_lt_zero _)
theorem C_spec_CubeStates (s : Sy) (c : List Int) (hs : FewSy s) (hc : c.length ≤ 1048576) (Q : List AV → Prop) : mc.C f_spec_CubeStates [⟨L V3, s.1⟩, ⟨L TR, s.2⟩, ⟨L I, c⟩] Q = Q [⟨L I, cubeS s c⟩] := by
 refine Mc.Ends.c (mc.ends F_spec_CubeStates ?_)
 unfold cubeS
 simp (contextual := true) (maxSteps := 1000000) (disch := omega) only [↓Sd, ↓So, ↓Sk, ↓den, ↓denA, Sa, Sb, Sc, Se, O1.d, O2.d, O3.d, cmI, arI, envOf, putN, ↓reduceIte, Nat.reduceLT, Nat.reduceSub, Nat.reduceAdd, Int.reduceAdd, Int.reduceEq, Int.reduceLT, Int.reduceLE, arr_pos, arr_neg, tr_spec_CubeStates, C_spec_l16Cube s c hs hc]
 intro h
 simp (contextual := true) (maxSteps := 1000000) (disch := omega) only [↓Sd, ↓So, ↓Sk, ↓den, ↓denA, Sa, Sb, Sc, Se, O1.d, O2.d, O3.d, cmI, arI, envOf, putN, ↓reduceIte, Nat.reduceLT, Nat.reduceSub, Nat.reduceAdd, Int.reduceAdd, Int.reduceEq, Int.reduceLT, Int.reduceLE, arr_pos, arr_neg, C_spec_l16States s c hs h.1 h.2.2.1]
theorem C_impl_CubeStates (s : Sy) (c : List Int) (hs : FewSy s) (hc : c.length ≤ 1048576) (Q : List AV → Prop) : mc.C f_impl_CubeStates [⟨L V3, s.1⟩, ⟨L TR, s.2⟩, ⟨L I, c⟩] Q = Q [⟨L I, cubeS s c⟩] := by
 refine Mc.Ends.c (mc.ends F_impl_CubeStates ?_)
 unfold cubeS
 by_cases hv : valid s
 ·by_cases hc2 : cubeV c (bc s.1)
  ·rw [if_pos ⟨hv, hc2⟩]
   simp (contextual := true) (maxSteps := 1000000) (disch := omega) only [↓Sd, ↓So, ↓Sk, ↓den, ↓denA, Sa, Sb, Sc, Se, O1.d, O2.d, O3.d, cmI, arI, envOf, putN, ↓reduceIte, Nat.reduceLT, Nat.reduceSub, Nat.reduceAdd, Int.reduceAdd, Int.reduceEq, Int.reduceLT, Int.reduceLE, arr_pos, arr_neg, tr_impl_CubeStates, C_impl_SystemValid s hs, hv, C_impl_bitCount s hv, C_impl_CubeValid c (bc s.1) hc, hc2, C_impl_cubeStates s c hv hc2.2.1]
  ·rw [if_neg fun h => hc2 h.2]
   simp (contextual := true) (maxSteps := 1000000) (disch := omega) only [↓Sd, ↓So, ↓Sk, ↓den, ↓denA, Sa, Sb, Sc, Se, O1.d, O2.d, O3.d, cmI, arI, envOf, putN, ↓reduceIte, Nat.reduceLT, Nat.reduceSub, Nat.reduceAdd, Int.reduceAdd, Int.reduceEq, Int.reduceLT, Int.reduceLE, arr_pos, arr_neg, tr_impl_CubeStates, C_impl_SystemValid s hs, hv, C_impl_bitCount s hv, C_impl_CubeValid c (bc s.1) hc, hc2]
 ·rw [if_neg fun h => hv h.1]
  simp (contextual := true) (maxSteps := 1000000) (disch := omega) only [↓Sd, ↓So, ↓Sk, ↓den, ↓denA, Sa, Sb, Sc, Se, O1.d, O2.d, O3.d, cmI, arI, envOf, putN, ↓reduceIte, Nat.reduceLT, Nat.reduceSub, Nat.reduceAdd, Int.reduceAdd, Int.reduceEq, Int.reduceLT, Int.reduceLE, arr_pos, arr_neg, tr_impl_CubeStates, C_impl_SystemValid s hs, hv]
theorem D_DrawWidened (b : List Int) (hb : Byt b) (hl : Lt63 b) {Q : List AV → Prop} (h : ∀ (s : Sy) (c l : List Int), SmSy s → c.length ≤ 101 → l.length ≤ 401 → Q [⟨L V3, s.1⟩, ⟨L TR, s.2⟩, ⟨L I, c⟩, ⟨L I, l⟩]) : mc.C f_spec_DrawWidened [⟨L U, b⟩] Q := by
 refine mc.c_of F_spec_DrawWidened ?_
 simp (contextual := true) (maxSteps := 1000000) (disch := omega) only [↓Sd, ↓So, ↓Sk, ↓den, ↓denA, Sa, Sb, Sc, Se, O1.d, O2.d, O3.d, cmI, arI, envOf, putN, ↓reduceIte, Nat.reduceLT, Nat.reduceSub, Nat.reduceAdd, Int.reduceAdd, Int.reduceEq, Int.reduceLT, Int.reduceLE, arr_pos, arr_neg, tr_spec_DrawWidened]
 refine D_l16Draw b hb hl fun b p s c hb hp hs hc => ?_
 have hf := hs.few
 simp (contextual := true) (maxSteps := 1000000) (disch := omega) only [↓Sd, ↓So, ↓Sk, ↓den, ↓denA, Sa, Sb, Sc, Se, O1.d, O2.d, O3.d, cmI, arI, envOf, putN, ↓reduceIte, Nat.reduceLT, Nat.reduceSub, Nat.reduceAdd, Int.reduceAdd, Int.reduceEq, Int.reduceLT, Int.reduceLE, arr_pos, arr_neg, ]
 refine D_l4Some _ _ _ hb (by omega) hf fun l p2 h1 h2 => ?_
 simp (contextual := true) (maxSteps := 1000000) (disch := omega) only [↓Sd, ↓So, ↓Sk, ↓den, ↓denA, Sa, Sb, Sc, Se, O1.d, O2.d, O3.d, cmI, arI, envOf, putN, ↓reduceIte, Nat.reduceLT, Nat.reduceSub, Nat.reduceAdd, Int.reduceAdd, Int.reduceEq, Int.reduceLT, Int.reduceLE, arr_pos, arr_neg, ↓wpJoin, C_spec_SetValid s l hf (by omega)]
 refine ⟨fun g => ?_, fun g => h s c l hs hc h2⟩
 refine D_pick1 _ _ _ hb (by omega) (by omega) fun a a0 a1 => ?_; simp (contextual := true) (maxSteps := 1000000) (disch := omega) only [↓Sd, ↓So, ↓Sk, ↓den, ↓denA, Sa, Sb, Sc, Se, O1.d, O2.d, O3.d, cmI, arI, envOf, putN, ↓reduceIte, Nat.reduceLT, Nat.reduceSub, Nat.reduceAdd, Int.reduceAdd, Int.reduceEq, Int.reduceLT, Int.reduceLE, arr_pos, arr_neg, ↓wpJoin, ]
 refine ⟨fun _ => ?_, fun _ => h s c l hs hc h2⟩
 have hcl := @cubeS_len s c
 simp (contextual := true) (maxSteps := 1000000) (disch := omega) only [↓Sd, ↓So, ↓Sk, ↓den, ↓denA, Sa, Sb, Sc, Se, O1.d, O2.d, O3.d, cmI, arI, envOf, putN, ↓reduceIte, Nat.reduceLT, Nat.reduceSub, Nat.reduceAdd, Int.reduceAdd, Int.reduceEq, Int.reduceLT, Int.reduceLE, arr_pos, arr_neg, C_spec_CubeStates s c hf (by omega), C_spec_SetWithout_a l (cubeS s c) (by omega) (by omega)]
 exact h s c _ hs hc (Nat.le_trans mix_len (by omega))
theorem D_DrawBlockedBy (b : List Int) (hb : Byt b) (hl : Lt63 b) {Q : List AV → Prop} (h : ∀ (s : Sy) (c l : List Int), SmSy s → c.length ≤ 101 → l.length ≤ 401 → Q [⟨L V3, s.1⟩, ⟨L TR, s.2⟩, ⟨L I, l⟩, ⟨L I, c⟩]) : mc.C f_spec_DrawBlockedBy [⟨L U, b⟩] Q := by
 refine mc.c_of F_spec_DrawBlockedBy ?_
 simp (contextual := true) (maxSteps := 1000000) (disch := omega) only [↓Sd, ↓So, ↓Sk, ↓den, ↓denA, Sa, Sb, Sc, Se, O1.d, O2.d, O3.d, cmI, arI, envOf, putN, ↓reduceIte, Nat.reduceLT, Nat.reduceSub, Nat.reduceAdd, Int.reduceAdd, Int.reduceEq, Int.reduceLT, Int.reduceLE, arr_pos, arr_neg, tr_spec_DrawBlockedBy]
 refine D_DrawWidened b hb hl fun s c l hs hc h2 => ?_
 simp (contextual := true) (maxSteps := 1000000) (disch := omega) only [↓Sd, ↓So, ↓Sk, ↓den, ↓denA, Sa, Sb, Sc, Se, O1.d, O2.d, O3.d, cmI, arI, envOf, putN, ↓reduceIte, Nat.reduceLT, Nat.reduceSub, Nat.reduceAdd, Int.reduceAdd, Int.reduceEq, Int.reduceLT, Int.reduceLE, arr_pos, arr_neg, ]
 exact h s c l hs hc h2
theorem bn_pow {w : Int} (h : 1 ≤ w ∧ w ≤ 20) : (2 : Int) ^ (bn w).toNat ≤ 2 * w ∧ 1 ≤ (2 : Int) ^ (bn w).toNat := by
 unfold bn
 split
 ·exact ⟨by simp; omega, by simp⟩
 split
 ·exact ⟨by simp; omega, by simp⟩
 split
 ·exact ⟨by simp; omega, by simp⟩
 split
 ·exact ⟨by simp; omega, by simp⟩
 split
 ·exact ⟨by simp; omega, by simp⟩
 ·exact ⟨by simp; omega, by simp⟩
theorem pow_le {n : Nat} (h : 13 ≤ n) : (8192 : Int) ≤ 2 ^ n := by
 obtain ⟨k, rfl⟩ : ∃ k, n = 13 + k := ⟨n - 13, by omega⟩
 rw [Int.pow_add]
 have : (1 : Int) ≤ 2 ^ k := by
  induction k with
  | zero => simp
  | succ k ih => rw [Int.pow_succ]; have := ih (by omega); omega
 omega
theorem bc12 {s : Sy} (h : valid s) (hs : s.1.length ≤ 3) : 0 ≤ bc s.1 ∧ bc s.1 ≤ 12 := by
 have hb := bc_bd h
 refine ⟨hb.1, ?_⟩
 have hsz := h.2.2.2.2
 have hv := h.2.2.1
 generalize s.1 = l at *
 refine Classical.byContradiction fun g => ?_
 match l, hs with
 | [], _ => simp [bc, sumN] at g
 | [a], _ =>
  have := bw_bd [a] 0
  simp only [bc, List.length_singleton, sumN] at g
  omega
 | [a, b], _ =>
  have h1 := bw_bd [a, b] 0
  have h2 := bw_bd [a, b] 1
  simp only [bc, List.length_cons, List.length_nil, sumN] at g
  omega
 | [a, b, c], _ =>
  have ha := wd_ok (hv a (by simp))
  have hb2 := wd_ok (hv b (by simp))
  have hc := wd_ok (hv c (by simp))
  have pa := bn_pow ha
  have pb := bn_pow hb2
  have pc := bn_pow hc
  have ba := bn_bd (wd a)
  have bb := bn_bd (wd b)
  have bcc := bn_bd (wd c)
  have e : bc [a, b, c] = bn (wd a) + bn (wd b) + bn (wd c) := by simp [bc, sumN, bw]
  have e2 : sz [a, b, c] = wd a * wd b * wd c := by simp [sz]
  rw [e] at g
  rw [e2] at hsz
  have h13 := pow_le (n := (bn (wd a)).toNat + (bn (wd b)).toNat + (bn (wd c)).toNat) (by omega)
  rw [Int.pow_add, Int.pow_add] at h13
  have m1 := Int.mul_le_mul pa.1 pb.1 (by omega) (by omega)
  have m2 := Int.mul_le_mul m1 pc.1 (by omega) (Int.mul_nonneg (by omega) (by omega))
  have m3 : 2 * wd a * (2 * wd b) * (2 * wd c) = 8 * (wd a * wd b * wd c) := by
   simp only [Int.mul_assoc, Int.mul_left_comm, Int.mul_comm]
   omega
  omega
theorem C_laws_wcHas (l : List Int) (x : Int) (hl : l.length ≤ 1048576) (Q : List AV → Prop) : mc.C f_laws_wcHas [⟨L I, l⟩, ⟨I, x⟩] Q = Q [⟨B, dB (x ∈ l)⟩] := by
 refine Mc.Ends.c (mc.ends F_laws_wcHas ?_)
 generalize hK : dB (x ∈ l) = K
 simp (contextual := true) (maxSteps := 1000000) (disch := omega) only [↓Sd, ↓So, ↓Sk, ↓den, ↓denA, Sa, Sb, Sc, Se, O1.d, O2.d, O3.d, cmI, arI, envOf, putN, ↓reduceIte, Nat.reduceLT, Nat.reduceSub, Nat.reduceAdd, Int.reduceAdd, Int.reduceEq, Int.reduceLT, Int.reduceLE, arr_pos, arr_neg, tr_laws_wcHas]
 refine lp_all (fun i => [⟨I, x⟩, ⟨L I, l⟩, ⟨I, (l.length : Int)⟩, ⟨I, (i : Int)⟩]) (fun i => ¬ l.getD i 0 = x) l.length _ rfl ?_ ?_
 ·intro i hi
  simp (contextual := true) (maxSteps := 1000000) (disch := omega) only [↓Sd, ↓So, ↓Sk, ↓den, ↓denA, Sa, Sb, Sc, Se, O1.d, O2.d, O3.d, cmI, arI, envOf, putN, ↓reduceIte, Nat.reduceLT, Nat.reduceSub, Nat.reduceAdd, Int.reduceAdd, Int.reduceEq, Int.reduceLT, Int.reduceLE, arr_pos, arr_neg, ]
  intro g
  rw [← hK, dB_t]
  rw [← g]; exact getD_mem hi
 ·intro h
  simp (contextual := true) (maxSteps := 1000000) (disch := omega) only [↓Sd, ↓So, ↓Sk, ↓den, ↓denA, Sa, Sb, Sc, Se, O1.d, O2.d, O3.d, cmI, arI, envOf, putN, ↓reduceIte, Nat.reduceLT, Nat.reduceSub, Nat.reduceAdd, Int.reduceAdd, Int.reduceEq, Int.reduceLT, Int.reduceLE, arr_pos, arr_neg, ]
  rw [← hK, dB_f]
  intro hx
  exact all_get (d := 0) (p := fun y => ¬ y = x) h x hx rfl
theorem C_impl_FirstState (s : Sy) (hs : FewSy s) (hv : valid s) (Q : List AV → Prop) : mc.C f_impl_FirstState [⟨L V3, s.1⟩, ⟨L TR, s.2⟩] Q = Q [⟨L I, fst0 s.1⟩] := by
 refine Mc.Ends.c (mc.ends F_impl_FirstState ?_)
 simp (contextual := true) (maxSteps := 1000000) (disch := omega) only [↓Sd, ↓So, ↓Sk, ↓den, ↓denA, Sa, Sb, Sc, Se, O1.d, O2.d, O3.d, cmI, arI, envOf, putN, ↓reduceIte, Nat.reduceLT, Nat.reduceSub, Nat.reduceAdd, Int.reduceAdd, Int.reduceEq, Int.reduceLT, Int.reduceLE, arr_pos, arr_neg, tr_impl_FirstState, C_impl_SystemValid s hs, hv, C_impl_first s hv.1.2]
theorem C_impl_InRange (s : Sy) (st : List Int) (hs : FewSy s) (hv : valid s) (hl : st.length ≤ 1048576) (Q : List AV → Prop) : mc.C f_impl_InRange [⟨L V3, s.1⟩, ⟨L TR, s.2⟩, ⟨L I, st⟩] Q = Q [⟨B, decide (inR s.1 st)⟩] := by
 refine Mc.Ends.c (mc.ends F_impl_InRange ?_)
 simp (contextual := true) (maxSteps := 1000000) (disch := omega) only [↓Sd, ↓So, ↓Sk, ↓den, ↓denA, Sa, Sb, Sc, Se, O1.d, O2.d, O3.d, cmI, arI, envOf, putN, ↓reduceIte, Nat.reduceLT, Nat.reduceSub, Nat.reduceAdd, Int.reduceAdd, Int.reduceEq, Int.reduceLT, Int.reduceLE, arr_pos, arr_neg, tr_impl_InRange, C_impl_SystemValid s hs, hv, C_impl_inRange s st hv.1.2 hl]
theorem C_impl_NumberOf (s : Sy) (st : List Int) (hs : FewSy s) (hv : valid s) (hst : inR s.1 st) (Q : List AV → Prop) : mc.C f_impl_NumberOf [⟨L V3, s.1⟩, ⟨L TR, s.2⟩, ⟨L I, st⟩] Q = Q [⟨I, num s.1 st⟩] := by
 have hl : st.length ≤ 1048576 := by have := hst.1; have := hv.1.2; omega
 refine Mc.Ends.c (mc.ends F_impl_NumberOf ?_)
 simp (contextual := true) (maxSteps := 1000000) (disch := omega) only [↓Sd, ↓So, ↓Sk, ↓den, ↓denA, Sa, Sb, Sc, Se, O1.d, O2.d, O3.d, cmI, arI, envOf, putN, ↓reduceIte, Nat.reduceLT, Nat.reduceSub, Nat.reduceAdd, Int.reduceAdd, Int.reduceEq, Int.reduceLT, Int.reduceLE, arr_pos, arr_neg, tr_impl_NumberOf, C_impl_InRange s st hs hv hl, hst, C_impl_number s st hv.1.2 hv.2.2.1 hst]
theorem mix_mem {f : Bool → Bool → Bool} {a b : List Int} (hf : f false false = false) {x : Int} : x ∈ mix f a b ↔ (lset a 400 ∧ lset b 400) ∧ f (dB (x ∈ a)) (dB (x ∈ b)) = true := by
 unfold mix
 by_cases h : lset a 400 ∧ lset b 400
 ·rw [if_pos h, upTo_mem]
  constructor
  ·rintro ⟨k, h1, rfl, h2⟩; exact ⟨h, h2⟩
  ·rintro ⟨-, h2⟩
   have hx : 0 ≤ x ∧ x < 400 := by
    by_cases ha : x ∈ a
    ·exact lset_mem h.1 x ha
    ·by_cases hb : x ∈ b
     ·exact lset_mem h.2 x hb
     ·rw [dB_f ha, dB_f hb, hf] at h2; cases h2
   exact ⟨x.toNat, by omega, by omega, by rw [show ((x.toNat : Nat) : Int) = x by omega]; exact h2⟩
 ·rw [if_neg h]
  exact ⟨fun h => by simp at h, fun h2 => absurd h2.1 h⟩
theorem lset_lim {l : List Int} {n m : Int} (h : lset l n) (hm : ∀ x ∈ l, x < m) : lset l m := fun i hi => ⟨⟨(h i hi).1.1, by have := hm _ (getD_mem (d := 0) hi); omega⟩, (h i hi).2⟩
theorem mix_both {a b : List Int} (ha : lset a 400) (hb : lset b 400) : (mix (fun x y => x && y) a b).length = 0 ↔ ∀ x ∈ a, ¬ x ∈ b := by
 rw [mix, if_pos ⟨ha, hb⟩, upTo_nil]
 constructor
 ·intro h x hx hx2
  have h1 := lset_mem ha x hx
  have h2 := h x.toNat (by omega)
  rw [show ((x.toNat : Nat) : Int) = x by omega, dB_t hx, dB_t hx2] at h2
  cases h2
 ·intro h k _
  by_cases g : (k : Int) ∈ a
  ·rw [dB_t g, dB_f (h _ g)]; rfl
  ·rw [dB_f g]; rfl
theorem cubeS_mem {s : Sy} {c : List Int} (hv : valid s) (hc : cubeV c (bc s.1)) {x : Int} : x ∈ cubeS s c ↔ ∃ k : Nat, k < szn s.1 ∧ x = (k : Int) ∧ inC s c k = true := by
 rw [cubeS, if_pos ⟨hv, hc⟩, upTo_mem]
theorem law_FnBlockedBy (b : List Int) (hb : Byt b) (hl : Lt63 b) : mc.C f_laws_FnBlockedBy [⟨L U, b⟩] (· = [⟨B, true⟩]) := by
 refine mc.c_of F_laws_FnBlockedBy ?_
 simp (contextual := true) (maxSteps := 1000000) (disch := omega) only [↓Sd, ↓So, ↓Sk, ↓den, ↓denA, Sa, Sb, Sc, Se, O1.d, O2.d, O3.d, cmI, arI, envOf, putN, ↓reduceIte, Nat.reduceLT, Nat.reduceSub, Nat.reduceAdd, Int.reduceAdd, Int.reduceEq, Int.reduceLT, Int.reduceLE, arr_pos, arr_neg, tr_laws_FnBlockedBy]
 intro _
 refine D_DrawBlockedBy b hb hl fun s c F hs hc hF => ?_
 have hs := hs.few
 have h1 := @cubeS_len s c
 have h2 := @mix_len (fun x y => x && !y) F (cubeS s c)
 obtain ⟨X, hX⟩ : ∃ X, mix (fun x y => x && !y) F (cubeS s c) = X := ⟨_, rfl⟩
 rw [hX] at h2
 have h3 : (if setV s X then nextN s X else []).length ≤ 400 := ite_few fun h => upTo_few h.1
 simp (contextual := true) (maxSteps := 1000000) (disch := omega) only [↓Sd, ↓So, ↓Sk, ↓den, ↓denA, Sa, Sb, Sc, Se, O1.d, O2.d, O3.d, cmI, arI, envOf, putN, ↓reduceIte, Nat.reduceLT, Nat.reduceSub, Nat.reduceAdd, Int.reduceAdd, Int.reduceEq, Int.reduceLT, Int.reduceLE, arr_pos, arr_neg, C_impl_BlockedBy s F c hs (by omega) (by omega), C_spec_BlockedBy s F c hs (by omega) (by omega), C_impl_SetValid s F hs (by omega), C_spec_SetValid s F hs (by omega), C_impl_CubeStates s c hs (by omega), C_impl_SetWithout F (cubeS s c) (by omega) (by omega), hX, C_impl_NextNumbers s X hs (by omega)]
 intro h
 have hB : blkV s F c := Classical.byContradiction fun g => h (dB_f g)
 have hv := hB.1.1
 have hz := szn_eq hv
 have hXs : setV s X := by
  refine ⟨hv, ?_⟩
  rw [← hz.1]
  refine lset_lim (n := 400) (by rw [← hX]; exact mix_set) fun x hx => ?_
  rw [← hX, mix_mem rfl] at hx
  have h4 := hx.2
  by_cases g : x ∈ F
  ·exact (hB.1.mem x g).2
  ·rw [dB_f g] at h4; cases h4
 have hfi := fst0_in hv.2.2.1
 obtain ⟨m, hm, hmn⟩ := first_n hv
 simp (contextual := true) (maxSteps := 1000000) (disch := omega) only [↓Sd, ↓So, ↓Sk, ↓den, ↓denA, Sa, Sb, Sc, Se, O1.d, O2.d, O3.d, cmI, arI, envOf, putN, ↓reduceIte, Nat.reduceLT, Nat.reduceSub, Nat.reduceAdd, Int.reduceAdd, Int.reduceEq, Int.reduceLT, Int.reduceLE, arr_pos, arr_neg, if_pos hXs, C_impl_SetBoth (nextN s X) (cubeS s c) (by have := upTo_few (p := fun k => dB (behind (steps s) (fun k => dB ((k : Int) ∈ X)) (szn s.1) k)) hv; exact Nat.le_trans this (by omega)) (by omega), C_impl_FirstState s hs hv, C_impl_NumberOf s _ hs hv hfi, C_laws_wcHas (cubeS s c) _ (by omega), hm]
 have k1 : (mix (fun x y => x && y) (nextN s X) (cubeS s c)).length = 0 := by
  refine (mix_both (nextN_set hv) cubeS_set).2 fun x hx hx2 => ?_
  obtain ⟨k, a1, rfl, y, a2, a3⟩ := (nextN_mem hXs).1 hx
  obtain ⟨k', a4, a5, a6⟩ := (cubeS_mem hv hB.2.1).1 hx2
  have : k' = k := by omega
  subst this
  rw [← hX, mix_mem rfl] at a2
  have a7 := a2.2
  have yF : y ∈ F := by
   by_cases g : y ∈ F
   ·exact g
   ·rw [dB_f g] at a7; cases a7
  have yb := hB.1.mem y yF
  have yC : inC s c y.toNat = false := by
   cases hh : inC s c y.toNat with
   | false => rfl
   | true =>
    have : y ∈ cubeS s c := (cubeS_mem hv hB.2.1).2 ⟨y.toNat, by omega, by omega, hh⟩
    rw [dB_t yF, dB_t this] at a7
    cases a7
  have := hB.2.2.2 y yF yC _ a3
  rw [Int.toNat_natCast, a6] at this
  cases this
 have k2 : ¬ (m : Int) ∈ cubeS s c := fun h => by
  obtain ⟨k, a1, a2, a3⟩ := (cubeS_mem hv hB.2.1).1 h
  have a4 := hB.2.2.1
  rw [hm, Int.toNat_natCast, show m = k by omega, a3] at a4
  cases a4
 exact ⟨fun _ => dB_f k2, fun g => g (by omega)⟩
theorem D_DrawGeneralized (b : List Int) (hb : Byt b) (hl : Lt63 b) {Q : List AV → Prop} (h : ∀ (s : Sy) (l : List Int) (n : Int), SmSy s → l.length ≤ 401 → Q [⟨L V3, s.1⟩, ⟨L TR, s.2⟩, ⟨L I, l⟩, ⟨I, n⟩]) : mc.C f_spec_DrawGeneralized [⟨L U, b⟩] Q := by
 refine mc.c_of F_spec_DrawGeneralized ?_
 simp (contextual := true) (maxSteps := 1000000) (disch := omega) only [↓Sd, ↓So, ↓Sk, ↓den, ↓denA, Sa, Sb, Sc, Se, O1.d, O2.d, O3.d, cmI, arI, envOf, putN, ↓reduceIte, Nat.reduceLT, Nat.reduceSub, Nat.reduceAdd, Int.reduceAdd, Int.reduceEq, Int.reduceLT, Int.reduceLE, arr_pos, arr_neg, tr_spec_DrawGeneralized]
 refine D_open b hb hl fun b hb => ?_
 simp (contextual := true) (maxSteps := 1000000) (disch := omega) only [↓Sd, ↓So, ↓Sk, ↓den, ↓denA, Sa, Sb, Sc, Se, O1.d, O2.d, O3.d, cmI, arI, envOf, putN, ↓reduceIte, Nat.reduceLT, Nat.reduceSub, Nat.reduceAdd, Int.reduceAdd, Int.reduceEq, Int.reduceLT, Int.reduceLE, arr_pos, arr_neg, ]
 refine D_l2Any _ _ _ hb (by omega) fun s p1 hp1 hs => ?_
 have hf := hs.few
 simp (contextual := true) (maxSteps := 1000000) (disch := omega) only [↓Sd, ↓So, ↓Sk, ↓den, ↓denA, Sa, Sb, Sc, Se, O1.d, O2.d, O3.d, cmI, arI, envOf, putN, ↓reduceIte, Nat.reduceLT, Nat.reduceSub, Nat.reduceAdd, Int.reduceAdd, Int.reduceEq, Int.reduceLT, Int.reduceLE, arr_pos, arr_neg, C_spec_SizeOf s hf]
 refine D_l4Some _ _ _ hb (by omega) hf fun l p2 h1 h2 => ?_
 simp (contextual := true) (maxSteps := 1000000) (disch := omega) only [↓Sd, ↓So, ↓Sk, ↓den, ↓denA, Sa, Sb, Sc, Se, O1.d, O2.d, O3.d, cmI, arI, envOf, putN, ↓reduceIte, Nat.reduceLT, Nat.reduceSub, Nat.reduceAdd, Int.reduceAdd, Int.reduceEq, Int.reduceLT, Int.reduceLE, arr_pos, arr_neg, ]
 refine D_pick _ _ _ hb (by omega) fun x _ _ => ?_
 simp (contextual := true) (maxSteps := 1000000) (disch := omega) only [↓Sd, ↓So, ↓Sk, ↓den, ↓denA, Sa, Sb, Sc, Se, O1.d, O2.d, O3.d, cmI, arI, envOf, putN, ↓reduceIte, Nat.reduceLT, Nat.reduceSub, Nat.reduceAdd, Int.reduceAdd, Int.reduceEq, Int.reduceLT, Int.reduceLE, arr_pos, arr_neg, ]
 refine D_pick _ _ _ hb (by omega) fun y _ _ => ?_
 simp (contextual := true) (maxSteps := 1000000) (disch := omega) only [↓Sd, ↓So, ↓Sk, ↓den, ↓denA, Sa, Sb, Sc, Se, O1.d, O2.d, O3.d, cmI, arI, envOf, putN, ↓reduceIte, Nat.reduceLT, Nat.reduceSub, Nat.reduceAdd, Int.reduceAdd, Int.reduceEq, Int.reduceLT, Int.reduceLE, arr_pos, arr_neg, ]
 refine D_pick _ _ _ hb (by omega) fun z _ _ => ?_
 simp (contextual := true) (maxSteps := 1000000) (disch := omega) only [↓Sd, ↓So, ↓Sk, ↓den, ↓denA, Sa, Sb, Sc, Se, O1.d, O2.d, O3.d, cmI, arI, envOf, putN, ↓reduceIte, Nat.reduceLT, Nat.reduceSub, Nat.reduceAdd, Int.reduceAdd, Int.reduceEq, Int.reduceLT, Int.reduceLE, arr_pos, arr_neg, ]
 refine D_num _ _ _ hb (by omega) (by simp) (by simp) fun n n0 => ?_; simp (contextual := true) (maxSteps := 1000000) (disch := omega) only [↓Sd, ↓So, ↓Sk, ↓den, ↓denA, Sa, Sb, Sc, Se, O1.d, O2.d, O3.d, cmI, arI, envOf, putN, ↓reduceIte, Nat.reduceLT, Nat.reduceSub, Nat.reduceAdd, Int.reduceAdd, Int.reduceEq, Int.reduceLT, Int.reduceLE, arr_pos, arr_neg, ]
 simp (contextual := true) (maxSteps := 1000000) (disch := omega) only [↓Sd, ↓So, ↓Sk, ↓den, ↓denA, Sa, Sb, Sc, Se, O1.d, O2.d, O3.d, cmI, arI, envOf, putN, ↓reduceIte, Nat.reduceLT, Nat.reduceSub, Nat.reduceAdd, Int.reduceAdd, Int.reduceEq, Int.reduceLT, Int.reduceLE, arr_pos, arr_neg, ↓wpJoin, ]
 exact h s l n hs h2
theorem wdn_keep {P : List Int → Prop} {c : List Int} (h : P c) : ∀ {i : Nat}, P (wdn P c i)
 | 0 => h
 | i + 1 => by
  simp only [wdn]
  split
  ·rename_i g; exact dB_iff.1 g
  ·exact wdn_keep h
theorem wdn_has {P : List Int → Prop} {c : List Int} : ∀ {i : Nat}, cHas (wdn P c i) c
 | 0 => fun i _ => .inr rfl
 | i + 1 => by
  have ih := @wdn_has P c i
  simp only [wdn]
  split
  ·intro j hj
   rw [List.length_set] at hj
   by_cases e : i = j
   ·subst e; rw [getD_set_eq hj]; exact .inl rfl
   ·rw [getD_set_ne e]; exact ih j hj
  ·exact ih
theorem law_FnGeneralized (b : List Int) (hb : Byt b) (hl : Lt63 b) : mc.C f_laws_FnGeneralized [⟨L U, b⟩] (· = [⟨B, true⟩]) := by
 refine mc.c_of F_laws_FnGeneralized ?_
 simp (contextual := true) (maxSteps := 1000000) (disch := omega) only [↓Sd, ↓So, ↓Sk, ↓den, ↓denA, Sa, Sb, Sc, Se, O1.d, O2.d, O3.d, cmI, arI, envOf, putN, ↓reduceIte, Nat.reduceLT, Nat.reduceSub, Nat.reduceAdd, Int.reduceAdd, Int.reduceEq, Int.reduceLT, Int.reduceLE, arr_pos, arr_neg, tr_laws_FnGeneralized]
 intro _
 refine D_DrawGeneralized b hb hl fun s F n hss hF => ?_
 have hs := hss.few
 have hgl : (genV s F n).length ≤ 100 := by
  by_cases g : genOk s F n
  ·rw [genV_t g]
   have := @gen_len s F n.toNat
   have := bc12 g.1.1 hss.1
   omega
  ·rw [genV_f g]; simp
 obtain ⟨G, hG⟩ : ∃ G, genV s F n = G := ⟨_, rfl⟩
 rw [hG] at hgl
 simp (contextual := true) (maxSteps := 1000000) (disch := omega) only [↓Sd, ↓So, ↓Sk, ↓den, ↓denA, Sa, Sb, Sc, Se, O1.d, O2.d, O3.d, cmI, arI, envOf, putN, ↓reduceIte, Nat.reduceLT, Nat.reduceSub, Nat.reduceAdd, Int.reduceAdd, Int.reduceEq, Int.reduceLT, Int.reduceLE, arr_pos, arr_neg, C_impl_Generalized s F n hs (by omega), C_spec_Generalized s F n hs (by omega), hG, C_laws_wcInts G G (by omega) (by omega), C_impl_SetValid s F hs (by omega), C_spec_SetValid s F hs (by omega)]
 refine ⟨fun g => ?_, fun g => ?_⟩
 ·have : ¬ genOk s F n := fun h => by rw [dB_t h] at g; cases g
  rw [← hG, genV_f this]; rfl
 ·have hok : genOk s F n := Classical.byContradiction fun h => g (dB_f h)
  have hv := hok.1.1
  have hz := szn_eq hv
  have hbc := bc12 hv hss.1
  have hg := genV_t hok
  rw [hG] at hg
  have hlen : (G.length : Int) = bc s.1 := by rw [hg]; exact gen_len
  have hbits : ∀ x ∈ sb s (stN s n.toNat), x = 0 ∨ x = 1 := sbN_bit
  have hhas : cHas G (sb s (stN s n.toNat)) := by rw [hg]; exact wdn_has
  have hcv : cubeV G (bc s.1) := by
   refine ⟨hbc, hlen, fun i hi => ?_⟩
   have hi2 : i < (sb s (stN s n.toNat)).length := by have := @stN_sb_len s n.toNat; omega
   rcases hhas i hi with h | h
   ·omega
   ·have := hbits _ (getD_mem (d := 0) hi2); omega
  have hB : blkV s F G := ⟨hok.1, hcv, by rw [hg]; exact wdn_keep hok.2.2⟩
  have hn : n ∈ cubeS s G := (cubeS_mem hv hcv).2 ⟨n.toNat, by have := hok.2.1; omega, by have := hok.2.1; omega, dB_t hhas⟩
  have h1 := @cubeS_len s G
  simp (contextual := true) (maxSteps := 1000000) (disch := omega) only [↓Sd, ↓So, ↓Sk, ↓den, ↓denA, Sa, Sb, Sc, Se, O1.d, O2.d, O3.d, cmI, arI, envOf, putN, ↓reduceIte, Nat.reduceLT, Nat.reduceSub, Nat.reduceAdd, Int.reduceAdd, Int.reduceEq, Int.reduceLT, Int.reduceLE, arr_pos, arr_neg, C_impl_BlockedBy s F G hs (by omega) (by omega), dB_t hB, C_impl_CubeStates s G hs (by omega), C_laws_wcHas (cubeS s G) n (by omega), dB_t hn]
end Go.Proofs.YtmlicpnoccdcdaaGreat
