/- What is told by hand: what some functions of the library do; no condition. -/
import Derived.Test.YtlfinllnfggiiaaGreatSmTab0
import Derived.Test.YtlfinllnfggiiaaGreatSmLib3
import Derived.Shelf.Lay
import Derived.Ground.Names2Prog
import Derived.Shelf.Slices.CompactI
import Derived.Shelf.Sort.Plain
import Derived.Shelf.Slices.In.SortNone
import Derived.Ground.NamesProg
namespace Go.Proofs.YtlfinllnfggiiaaGreat
open Go Go.Sm Go.RowKit Go.Shelf Go.Sort
set_option linter.unusedVariables false
set_option linter.unusedSimpArgs false
shelf_lay Lays2.n20 Nm2 20 at Tryz as layCpt
theorem cpt_holds {w : World} {b off : Nat} {cur : Array Value} {ety : TypeId} {zs : List Int} (hb : w.heap[b]? = some (.cells cur ety (0, 0))) (ht : (cur.toList.drop off).take zs.length = zs.map (Value.int .i64)) : Holds (Value.int .i64) w b off zs.toArray := by
 intro j hj
 have hj : j < zs.length := by simpa using hj
 have h1 : ((cur.toList.drop off).take zs.length)[j]? = some (.int .i64 zs[j]) := by rw [ht]; simp [hj]
 rw [List.getElem?_take_of_lt hj, List.getElem?_drop] at h1
 have h2 : cur[off + j]? = some (.int .i64 zs[j]) := by simpa using h1
 refine ⟨?_, ?_⟩
 ·simp only [World.cell?, hb, h2]
  simp [hj]
 ·simp [World.frozen?, hb]
theorem cpt_put {w w0 : World} {b off : Nat} {cur : Array Value} {ety : TypeId} {ys : List Int} (hb : w.heap[b]? = some (.cells cur ety (0, 0))) (h0 : w0.heap = w.heap) (hfit : off + ys.length ≤ cur.size) :
  ∃ cur', (putRow (Value.int .i64) w0 b off ys.toArray).heap[b]? = some (.cells cur' ety (0, 0)) ∧ cur'.size = cur.size ∧ ∀ k, k ≤ ys.length → (cur'.toList.drop off).take k = (ys.take k).map (Value.int .i64) := by
 refine ⟨putCells (Value.int .i64) off ys.toArray cur, ?_, by simp [putCells], fun k hk => ?_⟩
 ·simp only [putRow, mapBlock]
  rw [Array.getElem?_modify, if_pos rfl, h0, hb]
  rfl
 ·apply List.ext_getElem?
  intro j
  by_cases hj : j < k
  ·rw [List.getElem?_take_of_lt hj, List.getElem?_drop, List.getElem?_map, List.getElem?_take_of_lt hj]
   have h2 : (putCells (Value.int .i64) off ys.toArray cur)[off + j]? = some (.int .i64 ys[j]) := by
    have h3 : off + j < cur.size := by omega
    simp only [putCells, Array.getElem?_mapIdx]
    rw [Array.getElem?_eq_getElem h3]
    simp only [Option.map_some, List.size_toArray]
    rw [if_pos (by omega)]
    simp [show j < ys.length by omega]
   rw [show (putCells (Value.int .i64) off ys.toArray cur).toList[off + j]? = (putCells (Value.int .i64) off ys.toArray cur)[off + j]? by simp, h2]
   simp [show j < ys.length by omega]
  ·rw [List.getElem?_eq_none (by rw [List.length_take]; omega), List.getElem?_eq_none (by rw [List.length_map, List.length_take]; omega)]
theorem cpt_else {w w0 : World} {b off : Nat} {ys : List Int} (h0 : w0.heap = w.heap) : (∀ k, k ≠ b → (putRow (Value.int .i64) w0 b off ys.toArray).heap[k]? = w.heap[k]?) ∧ (putRow (Value.int .i64) w0 b off ys.toArray).heap.size = w.heap.size := by
 refine ⟨fun k hk => ?_, ?_⟩
 ·simp only [putRow, mapBlock]
  rw [Array.getElem?_modify, if_neg (by omega), h0]
 ·simp [putRow, mapBlock, h0]
theorem cpt_snoc : ∀ (l : List Int) (x : Int), cptZ (l ++ [x]) = if l.getLast? = some x then cptZ l else cptZ l ++ [x]
 | [], x => rfl
 | [a], x => by
  show (if a = x then [x] else a :: [x]) = if some a = some x then [a] else [a] ++ [x]
  by_cases h : a = x
  ·rw [if_pos h, if_pos (by rw [h]), h]
  ·rw [if_neg h, if_neg (by simpa using h)]; rfl
 | a :: b :: m, x => by
  have ih := cpt_snoc (b :: m) x
  have e1 : cptZ (a :: b :: m ++ [x]) = if a = b then cptZ (b :: m ++ [x]) else a :: cptZ (b :: m ++ [x]) := rfl
  have e2 : cptZ (a :: b :: m) = if a = b then cptZ (b :: m) else a :: cptZ (b :: m) := rfl
  have e3 : (a :: b :: m).getLast? = (b :: m).getLast? := rfl
  rw [e1, e2, e3, ih]
  by_cases h : a = b
  ·rw [if_pos h, if_pos h]
  ·rw [if_neg h, if_neg h]
   split <;> rfl
theorem cpt_eq (zs : List Int) : Lib.compact zs = cptZ zs := by
 have key : ∀ m, m ≤ zs.length → Lib.compactUpTo zs.toArray m = cptZ (zs.take m) := by
  intro m
  induction m with
  | zero => intro _; rfl
  | succ m ih =>
   intro hm
   have hlt : m < zs.length := by omega
   rw [Lib.compactUpTo_succ, ih (by omega), List.take_succ_eq_append_getElem hlt, cpt_snoc]
   have e1 : zs.toArray[m]! = zs[m] := by simp [hlt]
   rw [e1]
   by_cases h0 : m = 0
   ·subst h0
    have : Lib.keeps zs.toArray 0 = true := by simp [Lib.keeps]
    rw [this]; simp
   ·have e2 : zs.toArray[m - 1]! = zs[m - 1]'(by omega) := by simp [show m - 1 < zs.length by omega]
    have e3 : (zs.take m).getLast? = some (zs[m - 1]'(by omega)) := by
     rw [List.getLast?_eq_getElem?, List.length_take, Nat.min_eq_left (by omega), List.getElem?_take_of_lt (by omega), List.getElem?_eq_getElem]
    rw [e3]
    by_cases h : zs[m - 1]'(by omega) = zs[m]
    ·have : Lib.keeps zs.toArray m = false := Lib.keeps_neg (by omega) (by rw [e1, e2, h])
     simp only [this, Bool.false_eq_true, if_false, List.append_nil]
     rw [if_pos (by rw [h])]
    ·have : Lib.keeps zs.toArray m = true := Lib.keeps_pos (by rw [e1, e2]; exact fun g => h g.symm)
     simp only [this, if_true]
     rw [if_neg (by simpa using h)]
 have := key zs.length (Nat.le_refl _)
 rw [List.take_length] at this
 exact this
theorem cpt_len : ∀ (zs : List Int), (cptZ zs).length ≤ zs.length
 | [] => Nat.le_refl _
 | [x] => Nat.le_refl _
 | x :: y :: l => by
  have ih := cpt_len (y :: l)
  show (if x = y then cptZ (y :: l) else x :: cptZ (y :: l)).length ≤ _
  split <;> simp only [List.length_cons] at ih ⊢ <;> omega
theorem cpt_none (w : World) (a : Option Addr) : Calls Tryz.prog 145 #[.slice a 0 0] w fun e w' => e = .returned (.slice a 0 0) ∧ w' = w := by
 have u3 := run_underlying Tryz.underlying3; have u49 := run_underlying Tryz.underlying31
 go_enter Tryz.func145, Tryz.ntmps145
 go_wp2
 go_ret
 exact ⟨rfl, rfl⟩
theorem cpt_run : CptRun Tryz.prog 145 := by
 refine ⟨⟨_, Tryz.func145, of_decide_eq_true (by kernel_rfl), by kernel_rfl⟩, ?_⟩
 intro w v o zs hown hl
 have hlim : (zs.length : Int) ≤ 549755813888 := hl
 obtain ⟨h1, h2⟩ := hown
 rcases h2 with ⟨a, rfl, hz, rfl⟩ | ⟨b, off, cap, cur, ety, rfl, rfl, hb, hnc, hcm, hfit, htk⟩
 ·have hz : zs = [] := List.eq_nil_of_length_eq_zero hz
  subst hz
  refine (cpt_none w a).mono ?_
  rintro e w' ⟨rfl, rfl⟩
  exact ⟨_, rfl, ⟨rfl, .inl ⟨a, rfl, rfl, rfl⟩⟩, fun _ _ _ => rfl, Nat.le_refl _, rfl, rfl, rfl⟩
 ·rw [Nat.mul_one] at htk hfit
  have h : Calls Tryz.prog 145 #[.slice (some ⟨b, off, none⟩) zs.length cap] w fun e w' => e = .returned (.slice (some ⟨b, off, none⟩) (Lib.compact zs).length cap) ∧ ∃ q, w' = putRow (Value.int .i64) (Sort.ahead w q) b off (Lib.compact zs ++ List.replicate (zs.length - (Lib.compact zs).length) 0).toArray :=
   Any.slices_Compact_int layCpt b off cap zs w (cpt_holds hb htk) (by omega) hnc
  refine h.mono ?_
  rintro e w' ⟨rfl, q, rfl⟩
  rw [cpt_eq]
  have hcl := cpt_len zs
  obtain ⟨ys, hys⟩ : ∃ ys, ys = cptZ zs ++ List.replicate (zs.length - (cptZ zs).length) 0 := ⟨_, rfl⟩
  have hyl : ys.length = zs.length := by rw [hys, List.length_append, List.length_replicate]; omega
  rw [← hys]
  obtain ⟨cur', c1, c2, c3⟩ := cpt_put (w0 := Sort.ahead w q) (ys := ys) (off := off) hb rfl (by omega)
  obtain ⟨d1, d2⟩ := cpt_else (w := w) (w0 := Sort.ahead w q) (b := b) (off := off) (ys := ys) rfl
  refine ⟨_, rfl, ⟨by rw [List.length_map, Nat.mul_one], .inr ⟨b, off, cap, cur', ety, rfl, rfl, c1, by omega, hcm, by omega, ?_⟩⟩, fun k _ hk => d1 k fun h => hk (by rw [h]), by rw [d2]; exact Nat.le_refl _, rfl, rfl, rfl⟩
  rw [Nat.mul_one, c3 (cptZ zs).length (by omega), hys, List.take_left']
  rfl
end Go.Proofs.YtlfinllnfggiiaaGreat
namespace Go.Proofs.YtlfinllnfggiiaaGreat
open Go Go.Sm Go.RowKit Go.Shelf Go.Sort
set_option linter.unusedVariables false
set_option linter.unusedSimpArgs false
shelf_lay Lays.n189 Nm 189 at Tryz as laySrt
theorem insZ_perm (x : Int) : ∀ l : List Int, (insZ x l).Perm (x :: l)
 | [] => List.Perm.refl _
 | y :: l => by
  unfold insZ
  split
  ·exact List.Perm.refl _
  ·exact ((insZ_perm x l).cons y).trans (List.Perm.swap x y l)
theorem srtZ_perm : ∀ l : List Int, (srtZ l).Perm l
 | [] => List.Perm.refl _
 | x :: l => (insZ_perm x (srtZ l)).trans ((srtZ_perm l).cons x)
theorem insZ_sorted (x : Int) : ∀ l : List Int, l.Pairwise (· ≤ ·) → (insZ x l).Pairwise (· ≤ ·)
 | [], _ => List.pairwise_singleton _ _
 | y :: l, h => by
  unfold insZ
  have h1 := List.pairwise_cons.1 h
  split
  ·rename_i hxy
   refine List.pairwise_cons.2 ⟨fun z hz => ?_, h⟩
   rcases List.mem_cons.1 hz with rfl | hz
   ·exact hxy
   ·exact Int.le_trans hxy (h1.1 z hz)
  ·rename_i hxy
   refine List.pairwise_cons.2 ⟨fun z hz => ?_, insZ_sorted x l h1.2⟩
   rcases List.mem_cons.1 ((insZ_perm x l).mem_iff.1 hz) with rfl | hz
   ·omega
   ·exact h1.1 z hz
theorem srtZ_sorted : ∀ l : List Int, (srtZ l).Pairwise (· ≤ ·)
 | [] => List.Pairwise.nil
 | x :: l => insZ_sorted x _ (srtZ_sorted l)
theorem srt_eq (zs : List Int) : (zs.mergeSort fun x y => decide (x ≤ y)) = srtZ zs := by
 have h1 : (zs.mergeSort fun x y => decide (x ≤ y)).Pairwise (· ≤ ·) := by
  have := List.pairwise_mergeSort (le := fun x y : Int => decide (x ≤ y)) (fun a b c h1 h2 => by simp only [decide_eq_true_eq] at *; omega) (fun a b => by simp only [Bool.or_eq_true, decide_eq_true_eq]; omega) zs
  exact this.imp fun h => by simpa using h
 exact List.Perm.eq_of_pairwise (fun a b _ _ h1 h2 => Int.le_antisymm h1 h2) h1 (srtZ_sorted zs) ((List.mergeSort_perm zs _).trans (srtZ_perm zs).symm)
theorem srt_run : SrtRun Tryz.prog 144 := by
 refine ⟨⟨_, Tryz.func144, of_decide_eq_true (by kernel_rfl), by kernel_rfl⟩, ?_⟩
 intro w v o zs hown hl
 have hlim : (zs.length : Int) ≤ 549755813888 := hl
 obtain ⟨h1, h2⟩ := hown
 rcases h2 with ⟨a, rfl, hz, rfl⟩ | ⟨b, off, cap, cur, ety, rfl, rfl, hb, hnc, hcm, hfit, htk⟩
 ·have hz : zs = [] := List.eq_nil_of_length_eq_zero hz
  subst hz
  have h : Calls Tryz.prog 144 #[.slice a 0 0] w fun e w' => e = .returned (.tuple #[]) ∧ w' = w := Any.slices_Sort_int_none laySrt a 0 w
  refine h.mono ?_
  rintro e w' ⟨rfl, rfl⟩
  exact ⟨rfl, ⟨rfl, .inl ⟨a, rfl, rfl, rfl⟩⟩, fun _ _ _ => rfl, Nat.le_refl _, rfl, rfl, rfl⟩
 ·rw [Nat.mul_one] at htk hfit
  have hbl := (Array.getElem?_eq_some_iff.1 hb).1
  have h : Calls Tryz.prog 144 #[.slice (some ⟨b, off, none⟩) zs.length cap] w fun e w' => e = .returned (.tuple #[]) ∧ ∃ n os, w' = grow (putRow (Value.int .i64) (Sort.ahead w n) b off (zs.mergeSort fun x y => decide (x ≤ y)).toArray) os :=
   Any.slices_Sort_int laySrt b off cap zs w (cpt_holds hb htk) hbl (by omega)
  refine h.mono ?_
  rintro e w' ⟨rfl, q, os, rfl⟩
  rw [srt_eq]
  have hsl : (srtZ zs).length = zs.length := (srtZ_perm zs).length_eq
  obtain ⟨cur', c1, c2, c3⟩ := cpt_put (w0 := Sort.ahead w q) (ys := srtZ zs) (off := off) hb rfl (by omega)
  obtain ⟨d1, d2⟩ := cpt_else (w := w) (w0 := Sort.ahead w q) (b := b) (off := off) (ys := srtZ zs) rfl
  have gr : ∀ (W : World) k, k < W.heap.size → (grow W os).heap[k]? = W.heap[k]? := fun W k hk => by
   show (W.heap ++ os)[k]? = _
   rw [Array.getElem?_append_left hk]
  refine ⟨rfl, ⟨by rw [List.length_map, Nat.mul_one], .inr ⟨b, off, cap, cur', ety, rfl, by rw [hsl], by rw [gr _ _ (by rw [d2]; exact hbl)]; exact c1, by omega, hcm, by omega, ?_⟩⟩, fun k hkl hk => ?_, ?_, rfl, rfl, rfl⟩
  ·rw [Nat.mul_one, c3 (srtZ zs).length (by omega), List.take_length]
  ·rw [gr _ _ (by rw [d2]; exact hkl)]
   exact d1 k fun h => hk (by rw [h])
  ·show w.heap.size ≤ ((putRow (Value.int .i64) (Sort.ahead w q) b off (srtZ zs).toArray).heap ++ os).size
   rw [Array.size_append, d2]; omega
end Go.Proofs.YtlfinllnfggiiaaGreat
namespace Go.Proofs.YtlfinllnfggiiaaGreat
open Go Go.Sm
theorem hnd_all : InsOK cx := hand_ok fun f ty h => by
 have h1 : inF f = some ty := h
 simp only [inF, inL] at h1
 obtain ⟨x, hx, h0⟩ := Option.map_eq_some_iff.1 h1
 have h2 := List.find?_some hx
 have h3 := List.mem_of_find?_eq_some hx
 simp only [List.mem_cons, List.not_mem_nil, or_false] at h3
 rcases h3 with rfl | rfl
 ·have h4 := beq_iff_eq.1 h2
  simp only at h4 h0
  subst h4 h0
  exact srt_run
 ·have h4 := beq_iff_eq.1 h2
  simp only at h4 h0
  subst h4 h0
  exact cpt_run
end Go.Proofs.YtlfinllnfggiiaaGreat
