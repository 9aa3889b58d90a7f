/- What the trees come to: plain mathematics; no condition. -/
import Derived.Test.YtboikipchhgdlaaGreatSmMath0
namespace Go.Proofs.YtboikipchhgdlaaGreat
open Go Go.Sm Go.Sm.Q
set_option linter.unusedSimpArgs false
set_option linter.unusedVariables false
theorem sbN_inj {s : Sy} (h : valid s) {a b : List Int} (ha : inR s.1 a) (hb : inR s.1 b) : ∀ {i : Nat}, i ≤ s.1.length → sbN s.1 a i = sbN s.1 b i → ∀ j, j < i → a.getD j 0 = b.getD j 0
 | 0, _, _, j, hj => absurd hj (Nat.not_lt_zero _)
 | i + 1, hi, he, j, hj => by
  simp only [sbN] at he
  have hl : (sbN s.1 a i).length = (sbN s.1 b i).length := by
   have h1 := @sbN_len s.1 a i
   have h2 := @sbN_len s.1 b i
   omega
  obtain ⟨h1, h2⟩ := List.append_inj he hl
  rcases Nat.lt_succ_iff_lt_or_eq.1 hj with hj | rfl
  ·exact sbN_inj h ha hb (by omega) h1 j hj
  ·have hv := h.2.2.1 _ (getD_mem (d := (0, 0, 0)) hi)
   have a1 := ha.2 j hi
   have b1 := hb.2 j hi
   unfold bw at h2
   generalize s.1.getD j (0, 0, 0) = v at hv a1 b1 h2
   unfold vOk at hv
   have hw : 1 ≤ wd v ∧ wd v ≤ 20 := by unfold wd; omega
   have hw2 := bn_lt hw
   have hwe : wd v = v.2.1 - v.1 + 1 := rfl
   have := vb_inj (by omega) (by omega) h2
   omega
theorem sb_inj {s : Sy} (h : valid s) {a b : List Int} (ha : inR s.1 a) (hb : inR s.1 b) (he : sb s a = sb s b) : a = b := by
 have h1 := sbN_inj h ha hb (Nat.le_refl _) he
 have la := ha.1
 have lb := hb.1
 refine List.ext_getElem (by omega) fun i h2 h3 => ?_
 have := h1 i (by omega)
 rwa [getD_lt h2, getD_lt h3] at this
def lastP (p : List Int) : Nat := (p.getD (p.length - 1) 0).toNat
theorem lastP_app {p : List Int} {x : Int} : lastP (p ++ [x]) = x.toNat := by simp [lastP]
def Lpq (T : List (List Int)) (g : Nat → Bool) : List Int → List Int → Prop
 | p, [] => g (lastP p) = false
 | p, x :: q => g (lastP p) = true ∧ x ∈ T.getD (lastP p) [] ∧ ¬ x ∈ p ∧ Lpq T g (p ++ [x]) q
theorem Lpq.mono {T : List (List Int)} {g : Nat → Bool} : ∀ {q p p' : List Int}, Lpq T g p q → (∀ y ∈ p', y ∈ p) → lastP p' = lastP p → Lpq T g p' q
 | [], p, p', h, h1, h2 => by
  have h : g (lastP p) = false := h
  show g (lastP p') = false
  rw [h2]; exact h
 | x :: q, p, p', h, h1, h2 => by
  obtain ⟨h3, h4, h5, h6⟩ := h
  refine ⟨by rw [h2]; exact h3, by rw [h2]; exact h4, fun h => h5 (h1 x h), h6.mono (fun y hy => ?_) (by rw [lastP_app, lastP_app])⟩
  rcases List.mem_append.1 hy with hy | hy
  ·exact List.mem_append_left _ (h1 y hy)
  ·exact List.mem_append_right _ hy
structure Tj where
 c : Nat
 o : Nat → Nat
 lw : Nat → Nat
 st : List Nat
 out : Nat → Int
structure TExt (s s' : Tj) : Prop where
 c : s.c ≤ s'.c
 old : ∀ k, s.o k ≠ 0 → s'.o k = s.o k ∧ s'.lw k = s.lw k ∧ s'.out k = s.out k
 new : ∀ k, s.o k = 0 → s'.o k ≠ 0 → s.c < s'.o k
theorem TExt.trans  {a b c : Tj} (h : TExt a b) (h2 : TExt b c) : TExt a c := by
 refine ⟨Nat.le_trans h.c h2.c, fun k hk => ?_, fun k hk hc => ?_⟩
 ·obtain ⟨e1, e2, e3⟩ := h.old k hk
  obtain ⟨f1, f2, f3⟩ := h2.old k (by rw [e1]; exact hk)
  exact ⟨f1.trans e1, f2.trans e2, f3.trans e3⟩
 ·by_cases hb : b.o k = 0
  ·exact Nat.lt_of_le_of_lt h.c (h2.new k hb hc)
  ·rw [(h2.old k hb).1]; exact h.new k hk hb
def Tj.push (s : Tj) (v : Nat) : Tj := ⟨s.c + 1, fun k => if k = v then s.c + 1 else s.o k, fun k => if k = v then s.c + 1 else s.lw k, s.st ++ [v], s.out⟩
def IsBot (l : List Int) (M : Int) : Prop := M ∈ l ∧ ∀ x ∈ l, M ≤ x
theorem IsBot.eq {l : List Int} {M N : Int} (h : IsBot l M) (h2 : IsBot l N) : M = N := Int.le_antisymm (h.2 _ h2.1) (h2.2 _ h.1)
def dvr (F : List (Int × Int × Int)) (V : Nat) (n : Int) : Int := if n < 2 then (V : Int) else (F.getD (n - 2).toNat (0, 0, 0)).1
def fkOk (F : List (Int × Int × Int)) (V i : Nat) (f : Int × Int × Int) : Prop :=
 (0 ≤ f.1 ∧ f.1 < (V : Int)) ∧ (0 ≤ f.2.1 ∧ f.2.1 ≤ (i : Int) + 1) ∧ (0 ≤ f.2.2 ∧ f.2.2 ≤ (i : Int) + 1) ∧ f.1 < dvr F V f.2.1 ∧ f.1 < dvr F V f.2.2 ∧ f.2.1 ≠ f.2.2
structure Dia (F : List (Int × Int × Int)) (V : Nat) : Prop where
 ok : ∀ i, i < F.length → fkOk F V i (F.getD i (0, 0, 0))
 nd : F.Nodup
inductive Cn (F : List (Int × Int × Int)) (V : Nat) : Int → Nat → Int → Prop
 | leaf {n : Int} {v : Nat} {c : Int} : n = 0 ∨ n = 1 → v ≤ V → c = n * 2 ^ (V - v) → Cn F V n v c
 | fork {n : Int} {v : Nat} {c : Int} {i w : Nat} {lo hi a b : Int} : n = (i : Int) + 2 → i < F.length → F.getD i (0, 0, 0) = ((w : Int), lo, hi) → v ≤ w → w < V → Cn F V lo (w + 1) a → Cn F V hi (w + 1) b → c = (a + b) * 2 ^ (w - v) → Cn F V n v c
theorem getD_app {α : Type} {F G : List α} {i : Nat} {d : α} (h : i < F.length) : (F ++ G).getD i d = F.getD i d := by
 rw [List.getD_eq_getElem?_getD, List.getElem?_append_left h, ← List.getD_eq_getElem?_getD]
theorem getD_app1 {α : Type} {F : List α} {f d : α} : (F ++ [f]).getD F.length d = f := by
 simp [List.getD_eq_getElem?_getD]
theorem dvr_app {F G : List (Int × Int × Int)} {V : Nat} {n : Int} (h : n ≤ (F.length : Int) + 1) : dvr (F ++ G) V n = dvr F V n := by
 unfold dvr
 split
 ·rfl
 ·rw [getD_app (by omega)]
theorem fkOk_app {F G : List (Int × Int × Int)} {V i : Nat} {f : Int × Int × Int} (h : fkOk F V i f) (hi : i ≤ F.length) : fkOk (F ++ G) V i f := by
 obtain ⟨h1, h2, h3, h4, h5, h6⟩ := h
 exact ⟨h1, h2, h3, by rw [dvr_app (by omega)]; exact h4, by rw [dvr_app (by omega)]; exact h5, h6⟩
theorem Dia.push {F : List (Int × Int × Int)} {V : Nat} {f : Int × Int × Int} (h : Dia F V) (hf : fkOk F V F.length f) (hn : f ∉ F) : Dia (F ++ [f]) V := by
 refine ⟨fun i hi => ?_, ?_⟩
 ·rw [List.length_append, List.length_singleton] at hi
  by_cases he : i = F.length
  ·rw [he, getD_app1]; exact fkOk_app hf (Nat.le_refl _)
  ·rw [getD_app (by omega)]; exact fkOk_app (h.ok i (by omega)) (by omega)
 ·rw [List.nodup_append]
  exact ⟨h.nd, by simp, fun a ha b hb g => hn (by rw [List.mem_singleton.1 hb] at g; rw [← g]; exact ha)⟩
theorem Cn.mono {F G : List (Int × Int × Int)} {V : Nat} {n : Int} {v : Nat} {c : Int} (h : Cn F V n v c) : Cn (F ++ G) V n v c := by
 induction h with
 | leaf h1 h2 h3 => exact .leaf h1 h2 h3
 | fork h1 h2 h3 h4 h5 _ _ h8 ih1 ih2 => exact .fork h1 (by rw [List.length_append]; omega) (by rw [getD_app h2]; exact h3) h4 h5 ih1 ih2 h8
theorem two_pow_pos (k : Nat) : (1 : Int) ≤ 2 ^ k := Int.pow_pos (by omega)
theorem Cn.bd {F : List (Int × Int × Int)} {V : Nat} {n : Int} {v : Nat} {c : Int} (h : Cn F V n v c) : (0 ≤ c ∧ c ≤ 2 ^ (V - v)) ∧ v ≤ V ∧ 0 ≤ n ∧ n ≤ (F.length : Int) + 1 := by
 induction h with
 | @leaf n v c h1 h2 h3 =>
  have := two_pow_pos (V - v)
  refine ⟨?_, h2, by omega, by omega⟩
  rcases h1 with rfl | rfl <;> omega
 | @fork n v c i w lo hi a b h1 h2 h3 h4 h5 _ _ h8 ih1 ih2 =>
  refine ⟨?_, by omega, by omega, by omega⟩
  obtain ⟨⟨a1, a2⟩, -⟩ := ih1
  obtain ⟨⟨b1, b2⟩, -⟩ := ih2
  have e : (2 : Int) ^ (V - v) = 2 ^ (V - (w + 1)) * 2 * 2 ^ (w - v) := by
   rw [← Int.pow_succ, ← Int.pow_add]; congr 1; omega
  have hp := two_pow_pos (w - v)
  rw [h8, e]
  exact ⟨Int.mul_nonneg (by omega) (by omega), Int.mul_le_mul_of_nonneg_right (by omega) (by omega)⟩
theorem Cn.up {F : List (Int × Int × Int)} {V : Nat} {n : Int} {v : Nat} {c : Int} (h : Cn F V n (v + 1) c) : Cn F V n v (c + c) := by
 have key : ∀ {u : Nat} {c : Int}, Cn F V n u c → u = v + 1 → Cn F V n v (c + c) := by
  intro u c h hu
  cases h with
  | leaf h1 h2 h3 =>
   refine .leaf h1 (by omega) ?_
   rw [h3, show V - v = (V - u) + 1 by omega, Int.pow_succ, ← Int.mul_assoc]; omega
  | @fork _ _ _ i w lo hi a b h1 h2 h3 h4 h5 h6 h7 h8 =>
   refine .fork h1 h2 h3 (by omega) h5 h6 h7 ?_
   rw [h8, show w - v = (w - u) + 1 by omega, Int.pow_succ, ← Int.mul_assoc]; omega
 exact key h rfl
theorem Cn.eq {F : List (Int × Int × Int)} {V : Nat} {n : Int} {v : Nat} {c : Int} (h : Cn F V n v c) : ∀ {d : Int}, Cn F V n v d → c = d := by
 induction h with
 | leaf h1 h2 h3 =>
  intro d hd
  cases hd with
  | leaf g1 g2 g3 => rw [h3, g3]
  | fork g1 g2 => omega
 | fork h1 h2 h3 h4 h5 _ _ h8 ih1 ih2 =>
  intro d hd
  cases hd with
  | leaf g1 g2 g3 => omega
  | @fork _ _ _ i w lo hi a b g1 g2 g3 g4 g5 g6 g7 g8 =>
   rename_i j x lo' hi' a' b' _ _
   have hij : j = i := by omega
   subst hij
   rw [h3] at g3
   simp only [Prod.mk.injEq] at g3
   obtain ⟨e1, e2, e3⟩ := g3
   have : x = w := by omega
   subst this
   subst e2; subst e3
   rw [h8, g8, ih1 g6, ih2 g7]
def bigC (F : List (Int × Int × Int)) (V : Nat) : Nat := (F.filter fun f => decide (f.1 + 3 ≤ (V : Int))).length
theorem bigC_push {F : List (Int × Int × Int)} {V : Nat} {f : Int × Int × Int} : bigC (F ++ [f]) V = bigC F V + if f.1 + 3 ≤ (V : Int) then 1 else 0 := by
 unfold bigC
 rw [List.filter_append, List.length_append]
 congr 1
 by_cases h : f.1 + 3 ≤ (V : Int)
 ·rw [if_pos h]; simp [h]
 ·rw [if_neg h]; simp [h]
def plc (F : List (Int × Int × Int)) (n : Int) : Nat := if n < 2 then n.toNat else if (F.getD (n - 2).toNat (0, 0, 0)).2.1 = 0 then 2 else 3
theorem Dia.last {F : List (Int × Int × Int)} {V : Nat} (h : Dia F V) {i : Nat} (hi : i < F.length) (hv : (F.getD i (0, 0, 0)).1 + 1 = (V : Int)) :
  F.getD i (0, 0, 0) = ((V : Int) - 1, 0, 1) ∨ F.getD i (0, 0, 0) = ((V : Int) - 1, 1, 0) := by
 have h1 := h.ok i hi
 have hle : ∀ n : Int, 0 ≤ n → n ≤ (i : Int) + 1 → (F.getD i (0, 0, 0)).1 < dvr F V n → n < 2 := by
  intro n g0 g1 g2
  refine Classical.byContradiction fun g => ?_
  unfold dvr at g2
  rw [if_neg g] at g2
  have := (h.ok (n - 2).toNat (by omega)).1
  omega
 generalize F.getD i (0, 0, 0) = f at h1 hv hle
 obtain ⟨x, lo, hi⟩ := f
 obtain ⟨h1, h2, h3, h4, h5, h6⟩ := h1
 dsimp only at *
 have := hle lo h2.1 h2.2 h4
 have := hle hi h3.1 h3.2 h5
 rcases (by omega : lo = 0 ∧ hi = 1 ∨ lo = 1 ∧ hi = 0) with ⟨rfl, rfl⟩ | ⟨rfl, rfl⟩
 ·left; rw [show x = (V : Int) - 1 by omega]
 ·right; rw [show x = (V : Int) - 1 by omega]
theorem getD_inj {F : List (Int × Int × Int)} (h : F.Nodup) {i j : Nat} (hi : i < F.length) (hj : j < F.length) (he : F.getD i (0, 0, 0) = F.getD j (0, 0, 0)) : i = j := by
 rw [getD_lt hi, getD_lt hj] at he
 exact (List.getElem_inj h).1 he
def nearE (F : List (Int × Int × Int)) (V : Nat) (n : Int) : Prop := (0 ≤ n ∧ n ≤ (F.length : Int) + 1) ∧ (V : Int) - 1 ≤ dvr F V n
theorem plc_lt {F : List (Int × Int × Int)} {V : Nat} {n : Int} (h : nearE F V n) : plc F n < 4 := by
 unfold plc
 have := h.1
 split
 ·omega
 ·split <;> omega
theorem plc_inj {F : List (Int × Int × Int)} {V : Nat} (hD : Dia F V) {n m : Int} (hn : nearE F V n) (hm : nearE F V m) (he : plc F n = plc F m) : n = m := by
 obtain ⟨n1, n2⟩ := hn
 obtain ⟨m1, m2⟩ := hm
 have hlast : ∀ k : Int, 2 ≤ k → k ≤ (F.length : Int) + 1 → (V : Int) - 1 ≤ dvr F V k → F.getD (k - 2).toNat (0, 0, 0) = ((V : Int) - 1, 0, 1) ∨ F.getD (k - 2).toNat (0, 0, 0) = ((V : Int) - 1, 1, 0) := fun k k1 k2 k3 => by
  refine hD.last (by omega) ?_
  unfold dvr at k3
  rw [if_neg (by omega)] at k3
  have := (hD.ok (k - 2).toNat (by omega)).1
  omega
 unfold plc at he
 by_cases a : n < 2
 ·rw [if_pos a] at he
  by_cases b : m < 2
  ·rw [if_pos b] at he; omega
  ·rw [if_neg b] at he
   split at he <;> omega
 ·rw [if_neg a] at he
  by_cases b : m < 2
  ·rw [if_pos b] at he
   split at he <;> omega
  ·rw [if_neg b] at he
   have e : F.getD (n - 2).toNat (0, 0, 0) = F.getD (m - 2).toNat (0, 0, 0) := by
    rcases hlast n (by omega) n1.2 n2 with g1 | g1 <;> rcases hlast m (by omega) m1.2 m2 with g2 | g2 <;> rw [g1, g2] at he ⊢ <;> simp at he
   have := getD_inj hD.nd (by omega) (by omega) e
   omega
theorem Dia.len {F : List (Int × Int × Int)} {V : Nat} (h : Dia F V) : F.length ≤ bigC F V + 32 := by
 rw [List.length_eq_countP_add_countP (fun f : Int × Int × Int => decide (f.1 + 3 ≤ (V : Int))), List.countP_eq_length_filter, List.countP_eq_length_filter]
 refine Nat.add_le_add_left ?_ _
 generalize hL : F.filter (fun a => decide ¬(fun f : Int × Int × Int => decide (f.1 + 3 ≤ (V : Int))) a = true) = L
 have hnd : L.Nodup := by rw [← hL]; exact List.filter_sublist.nodup h.nd
 have hmem : ∀ f ∈ L, f ∈ F ∧ (V : Int) ≤ f.1 + 2 ∧ f.1 < (V : Int) ∧ nearE F V f.2.1 ∧ nearE F V f.2.2 := by
  intro f hf
  rw [← hL, List.mem_filter] at hf
  obtain ⟨h1, h2⟩ := hf
  simp only [decide_eq_true_eq] at h2
  obtain ⟨i, hi, rfl⟩ := List.mem_iff_getElem.1 h1
  have h3 := h.ok i hi
  rw [getD_lt hi] at h3
  obtain ⟨a1, a2, a3, a4, a5, -⟩ := h3
  exact ⟨h1, by omega, by omega, ⟨by omega, by omega⟩, ⟨by omega, by omega⟩⟩
 let g : Int × Int × Int → Nat := fun f => (f.1 + 2 - (V : Int)).toNat * 16 + plc F f.2.1 * 4 + plc F f.2.2
 have hg : (L.map g).Nodup := by
  refine List.pairwise_map.2 (List.Pairwise.imp_of_mem (fun {a b} ha hb hab he => hab ?_) hnd)
  obtain ⟨-, a1, a2, a3, a4⟩ := hmem a ha
  obtain ⟨-, b1, b2, b3, b4⟩ := hmem b hb
  have p1 := plc_lt a3
  have p2 := plc_lt a4
  have p3 := plc_lt b3
  have p4 := plc_lt b4
  replace he : (a.1 + 2 - (V : Int)).toNat * 16 + plc F a.2.1 * 4 + plc F a.2.2 = (b.1 + 2 - (V : Int)).toNat * 16 + plc F b.2.1 * 4 + plc F b.2.2 := he
  have e1 := plc_inj h a3 b3 (by omega)
  have e2 := plc_inj h a4 b4 (by omega)
  obtain ⟨x, y, z⟩ := a
  obtain ⟨x', y', z'⟩ := b
  dsimp only at *
  rw [e1, e2, show x = x' by omega]
 have hs : L.map g ⊆ List.range 32 := by
  intro k hk
  obtain ⟨f, hf, rfl⟩ := List.mem_map.1 hk
  obtain ⟨-, a1, a2, a3, a4⟩ := hmem f hf
  have p1 := plc_lt a3
  have p2 := plc_lt a4
  refine List.mem_range.2 ?_
  show (f.1 + 2 - (V : Int)).toNat * 16 + plc F f.2.1 * 4 + plc F f.2.2 < 32
  omega
 have := hg.length_le_of_subset hs
 rw [List.length_map, List.length_range] at this
 exact this
def smL : List Int → Int
 | [] => 0
 | a :: l => a + smL l
theorem smL_app {l m : List Int} : smL (l ++ m) = smL l + smL m := by
 induction l with
 | nil => simp [smL]
 | cons a l ih => simp only [List.cons_append, smL, ih]; omega
theorem smL_set {l : List Int} {j : Nat} (hj : j < l.length) (h0 : l.getD j 0 = 0) {x : Int} : smL (l.set j x) = smL l + x := by
 induction l generalizing j with
 | nil => simp at hj
 | cons a l ih =>
  cases j with
  | zero => simp at h0; simp only [List.set_cons_zero, smL]; omega
  | succ j =>
   simp only [List.set_cons_succ, smL]
   rw [ih (by simpa using hj) (by simpa using h0)]; omega
theorem smL_zero {n : Nat} : smL (List.replicate n 0) = 0 := by
 induction n with
 | zero => rfl
 | succ n ih => simp only [List.replicate_succ, smL, ih]; rfl
theorem shl_eq {x : Int} {k : Nat} (hk : k ≤ 12) (hx : 0 ≤ x ∧ x ≤ 1048576) : shI true .i64 x (k : Int) = x * 2 ^ k := by
 have h : min (k : Int).toNat IntKind.i64.bits = k := by simp [IntKind.bits]; omega
 unfold shI
 rw [h]
 simp only [if_true]
 have h1 : (2 : Int) ^ k ≤ 4096 := by
  have h5 : 2 ^ k ≤ 2 ^ 12 := Nat.pow_le_pow_right (by omega) hk
  have e : ((2 ^ k : Nat) : Int) = (2 : Int) ^ k := by simp
  rw [← e]; omega
 have h2 := two_pow_pos k
 have h3 : x * 2 ^ k ≤ 1048576 * 4096 := Int.mul_le_mul hx.2 h1 (by omega) (by omega)
 have h4 : 0 ≤ x * 2 ^ k := Int.mul_nonneg hx.1 (by omega)
 exact wrap_id (by omega) (by omega)
theorem C_spec_l8Add (V : Nat) (F : List (Int × Int × Int)) (v lo hi : Int) (h : F.length < 2000) (hlo : 0 ≤ lo) (hhi : 0 ≤ hi) {Q : List AV → Prop} (h1 : lo = hi → Q [⟨I, (V : Int)⟩, ⟨L V3, F⟩, ⟨I, lo⟩])
  (h2 : lo ≠ hi → ∀ i, i < F.length → F.getD i (0, 0, 0) = (v, lo, hi) → Q [⟨I, (V : Int)⟩, ⟨L V3, F⟩, ⟨I, (i : Int) + 2⟩])
  (h3 : lo ≠ hi → (v, lo, hi) ∉ F → Q [⟨I, (V : Int)⟩, ⟨L V3, F ++ [(v, lo, hi)]⟩, ⟨I, (F.length : Int) + 2⟩]) :
  mc.C f_spec_l8Add [⟨I, (V : Int)⟩, ⟨L V3, F⟩, ⟨I, v⟩, ⟨I, lo⟩, ⟨I, hi⟩] Q := by
 refine mc.c_of F_spec_l8Add ?_
 by_cases he : lo = hi
 ·simp (contextual := true) (maxSteps := 1000000) (disch := omega) only [↓Sd, ↓So, ↓Sk, ↓den, ↓denA, Sa, Sb, Sc, Se, O1.d, O2.d, O3.d, cmI, arI, envOf, putN, ↓reduceIte, Nat.reduceLT, Nat.reduceSub, Nat.reduceAdd, Int.reduceAdd, Int.reduceEq, Int.reduceLT, Int.reduceLE, arr_pos, arr_neg, tr_spec_l8Add, he]
  rw [← he]; exact h1 he
 ·simp (contextual := true) (maxSteps := 1000000) (disch := omega) only [↓Sd, ↓So, ↓Sk, ↓den, ↓denA, Sa, Sb, Sc, Se, O1.d, O2.d, O3.d, cmI, arI, envOf, putN, ↓reduceIte, Nat.reduceLT, Nat.reduceSub, Nat.reduceAdd, Int.reduceAdd, Int.reduceEq, Int.reduceLT, Int.reduceLE, arr_pos, arr_neg, tr_spec_l8Add, he]
  refine lp_all (fun i => [⟨I, (i : Int)⟩, ⟨I, (V : Int)⟩, ⟨L V3, F⟩, ⟨I, 0⟩, ⟨I, v⟩, ⟨I, lo⟩, ⟨I, hi⟩]) (fun i => F.getD i (0, 0, 0) ≠ (v, lo, hi)) F.length _ rfl ?_ ?_
  ·intro i hi2
   by_cases hf : F.getD i (0, 0, 0) = (v, lo, hi)
   ·simp (contextual := true) (maxSteps := 1000000) (disch := omega) only [↓Sd, ↓So, ↓Sk, ↓den, ↓denA, Sa, Sb, Sc, Se, O1.d, O2.d, O3.d, cmI, arI, envOf, putN, ↓reduceIte, Nat.reduceLT, Nat.reduceSub, Nat.reduceAdd, Int.reduceAdd, Int.reduceEq, Int.reduceLT, Int.reduceLE, arr_pos, arr_neg, hf]
    exact ⟨fun _ => h2 he i hi2 hf, fun g => absurd (by simp) g⟩
   ·generalize hfe : F.getD i (0, 0, 0) = f at hf
    have hne : ¬ (f.1 = v ∧ f.2.1 = lo ∧ f.2.2 = hi) := fun g => hf (by obtain ⟨x, y, z⟩ := f; dsimp only at g; rw [g.1, g.2.1, g.2.2])
    simp (contextual := true) (maxSteps := 1000000) (disch := omega) only [↓Sd, ↓So, ↓Sk, ↓den, ↓denA, Sa, Sb, Sc, Se, O1.d, O2.d, O3.d, cmI, arI, envOf, putN, ↓reduceIte, Nat.reduceLT, Nat.reduceSub, Nat.reduceAdd, Int.reduceAdd, Int.reduceEq, Int.reduceLT, Int.reduceLE, arr_pos, arr_neg, hfe]
    exact ⟨fun g => by simp only [Bool.and_eq_true, beq_iff_eq] at g; exact absurd ⟨g.1, g.2.1, g.2.2⟩ hne, fun _ => hf⟩
  ·intro hall
   simp (contextual := true) (maxSteps := 1000000) (disch := omega) only [↓Sd, ↓So, ↓Sk, ↓den, ↓denA, Sa, Sb, Sc, Se, O1.d, O2.d, O3.d, cmI, arI, envOf, putN, ↓reduceIte, Nat.reduceLT, Nat.reduceSub, Nat.reduceAdd, Int.reduceAdd, Int.reduceEq, Int.reduceLT, Int.reduceLE, arr_pos, arr_neg, ↓wpJoin, ]
   rw [show (F.length : Int) + 1 + 1 = (F.length : Int) + 2 by omega]
   refine h3 he fun hm => ?_
   obtain ⟨i, hi2, e⟩ := List.mem_iff_getElem.1 hm
   exact hall i hi2 (by rw [getD_lt hi2]; exact e)
theorem C_spec_l8Rows (V : Nat) (hV : V ≤ 12) : ∀ (k v : Nat) (F : List (Int × Int × Int)) (l : List Int), v + k = V → l.length = 2 ^ k → (∀ x ∈ l, x = 0 ∨ x = 1) → Dia F V → bigC F V + (2 ^ (k - 2) - 1) ≤ 1023 → ∀ {Q : List AV → Prop},
  (∀ (G : List (Int × Int × Int)) (n : Int), Dia (F ++ G) V → bigC (F ++ G) V ≤ bigC F V + (2 ^ (k - 2) - 1) → (v : Int) ≤ dvr (F ++ G) V n → Cn (F ++ G) V n v (smL l) → Q [⟨I, (V : Int)⟩, ⟨L V3, F ++ G⟩, ⟨I, n⟩]) →
  mc.C f_spec_l8Rows [⟨I, (V : Int)⟩, ⟨L V3, F⟩, ⟨L I, l⟩, ⟨I, (v : Int)⟩] Q := by
 intro k
 induction k with
 | zero =>
  intro v F l hv hl hb hD hc Q hQ
  refine mc.c_of F_spec_l8Rows ?_
  obtain ⟨x, rfl⟩ : ∃ x, l = [x] := by
   rcases l with _ | ⟨x, _ | ⟨y, l⟩⟩
   ·simp at hl
   ·exact ⟨x, rfl⟩
   ·simp at hl
  have hx := hb x (List.mem_singleton_self x)
  have hvV : v = V := by omega
  subst hvV
  simp (contextual := true) (maxSteps := 1000000) (disch := omega) only [↓Sd, ↓So, ↓Sk, ↓den, ↓denA, Sa, Sb, Sc, Se, O1.d, O2.d, O3.d, cmI, arI, envOf, putN, ↓reduceIte, Nat.reduceLT, Nat.reduceSub, Nat.reduceAdd, Int.reduceAdd, Int.reduceEq, Int.reduceLT, Int.reduceLE, arr_pos, arr_neg, ↓wpJoin, tr_spec_l8Rows]
  have := hQ [] x (by rw [List.append_nil]; exact hD) (by rw [List.append_nil]; omega) (by unfold dvr; rw [if_pos (by omega)]; omega) (by rw [List.append_nil]; exact .leaf (by omega) (Nat.le_refl _) (by simp [smL]))
  rw [List.append_nil] at this
  exact this
 | succ k ih =>
  intro v F l hv hl hb hD hc Q hQ
  refine mc.c_of F_spec_l8Rows ?_
  have hkl : k ≤ 11 := by omega
  have hpk : 2 ^ k ≤ 2 ^ 11 := Nat.pow_le_pow_right (by omega) hkl
  have hp0 : 1 ≤ 2 ^ k := Nat.one_le_two_pow
  have hl2 : l.length = 2 ^ k + 2 ^ k := by rw [hl, Nat.pow_succ]; omega
  obtain ⟨H, hH⟩ : ∃ H, 2 ^ k = H := ⟨_, rfl⟩
  rw [hH] at hl2 hpk hp0
  have hhalf : (l.length : Int) / 2 = (H : Int) := by rw [hl2]; omega
  obtain ⟨vx, hvx⟩ : ∃ vx, v + 1 = vx := ⟨_, rfl⟩
  have hv1 : (v : Int) + 1 = (vx : Int) := by omega
  have hr2 : 2 ^ (k + 1 - 2) - 1 ≥ (2 ^ (k - 2) - 1) + (2 ^ (k - 2) - 1) + (if 2 ≤ k then 1 else 0) := by
   by_cases g : 2 ≤ k
   ·rw [if_pos g, show k + 1 - 2 = (k - 2) + 1 by omega, Nat.pow_succ]
    have : 1 ≤ 2 ^ (k - 2) := Nat.one_le_two_pow
    omega
   ·rw [if_neg g, show k - 2 = 0 by omega]; simp
  have hsm : smL l = smL (l.take H) + smL (l.drop H) := by rw [← smL_app, List.take_append_drop]
  have ht : (l.take H).length = 2 ^ k := by rw [List.length_take, hH]; omega
  have hd : (l.drop H).length = 2 ^ k := by rw [List.length_drop, hH]; omega
  simp (contextual := true) (maxSteps := 1000000) (disch := omega) only [↓Sd, ↓So, ↓Sk, ↓den, ↓denA, Sa, Sb, Sc, Se, O1.d, O2.d, O3.d, cmI, arI, envOf, putN, ↓reduceIte, Nat.reduceLT, Nat.reduceSub, Nat.reduceAdd, Int.reduceAdd, Int.reduceEq, Int.reduceLT, Int.reduceLE, arr_pos, arr_neg, tr_spec_l8Rows, hhalf, Int.toNat_natCast, hv1]
  refine ih vx F (l.take H) (by omega) ht (fun x hx => hb x (List.mem_of_mem_take hx)) hD (by omega) fun G lo hD1 hc1 hd1 hC1 => ?_
  rw [← hvx] at hd1 hC1
  have lo1 := hC1.bd.2.2
  simp (contextual := true) (maxSteps := 1000000) (disch := omega) only [↓Sd, ↓So, ↓Sk, ↓den, ↓denA, Sa, Sb, Sc, Se, O1.d, O2.d, O3.d, cmI, arI, envOf, putN, ↓reduceIte, Nat.reduceLT, Nat.reduceSub, Nat.reduceAdd, Int.reduceAdd, Int.reduceEq, Int.reduceLT, Int.reduceLE, arr_pos, arr_neg, ↓wpJoin, hv1, hhalf, Int.toNat_natCast]
  refine ih vx (F ++ G) (l.drop H) (by omega) hd (fun x hx => hb x (List.mem_of_mem_drop hx)) hD1 (by omega) fun G2 hi hD2 hc2 hd2 hC2 => ?_
  rw [← hvx] at hd2 hC2
  have hi1 := hC2.bd.2.2
  rw [List.append_assoc] at hD2 hc2 hd2 hC2 hi1 ⊢
  have hC1' := hC1.mono (G := G2)
  have hd1' : ((v + 1 : Nat) : Int) ≤ dvr (F ++ (G ++ G2)) V lo := by rw [← List.append_assoc, dvr_app lo1.2]; exact hd1
  rw [List.append_assoc] at hC1'
  have lo2 := hC1'.bd.2.2
  have hlen := hD2.len
  simp (contextual := true) (maxSteps := 1000000) (disch := omega) only [↓Sd, ↓So, ↓Sk, ↓den, ↓denA, Sa, Sb, Sc, Se, O1.d, O2.d, O3.d, cmI, arI, envOf, putN, ↓reduceIte, Nat.reduceLT, Nat.reduceSub, Nat.reduceAdd, Int.reduceAdd, Int.reduceEq, Int.reduceLT, Int.reduceLE, arr_pos, arr_neg, ↓wpJoin, ]
  refine C_spec_l8Add V (F ++ (G ++ G2)) (v : Int) lo hi (by omega) (by omega) (by omega) (fun e => ?_) (fun e i hi2 hf => ?_) (fun e hn => ?_)
  ·simp (contextual := true) (maxSteps := 1000000) (disch := omega) only [↓Sd, ↓So, ↓Sk, ↓den, ↓denA, Sa, Sb, Sc, Se, O1.d, O2.d, O3.d, cmI, arI, envOf, putN, ↓reduceIte, Nat.reduceLT, Nat.reduceSub, Nat.reduceAdd, Int.reduceAdd, Int.reduceEq, Int.reduceLT, Int.reduceLE, arr_pos, arr_neg, ]
   subst e
   have : smL l = smL (l.take H) + smL (l.take H) := by rw [hsm, hC2.eq hC1']
   exact hQ (G ++ G2) lo hD2 (by omega) (by omega) (by rw [this]; exact hC1'.up)
  ·simp (contextual := true) (maxSteps := 1000000) (disch := omega) only [↓Sd, ↓So, ↓Sk, ↓den, ↓denA, Sa, Sb, Sc, Se, O1.d, O2.d, O3.d, cmI, arI, envOf, putN, ↓reduceIte, Nat.reduceLT, Nat.reduceSub, Nat.reduceAdd, Int.reduceAdd, Int.reduceEq, Int.reduceLT, Int.reduceLE, arr_pos, arr_neg, ]
   refine hQ (G ++ G2) _ hD2 (by omega) ?_ (.fork rfl hi2 hf (Nat.le_refl _) (by omega) hC1' hC2 (by rw [hsm, Nat.sub_self]; omega))
   unfold dvr
   rw [if_neg (by omega), show ((i : Int) + 2 - 2).toNat = i by omega, hf]
   exact Int.le_refl _
  ·simp (contextual := true) (maxSteps := 1000000) (disch := omega) only [↓Sd, ↓So, ↓Sk, ↓den, ↓denA, Sa, Sb, Sc, Se, O1.d, O2.d, O3.d, cmI, arI, envOf, putN, ↓reduceIte, Nat.reduceLT, Nat.reduceSub, Nat.reduceAdd, Int.reduceAdd, Int.reduceEq, Int.reduceLT, Int.reduceLE, arr_pos, arr_neg, ]
   have hfk : fkOk (F ++ (G ++ G2)) V (F ++ (G ++ G2)).length ((v : Int), lo, hi) := ⟨by dsimp only; omega, by dsimp only; omega, by dsimp only; omega, by dsimp only; omega, by dsimp only; omega, e⟩
   have hD3 := hD2.push hfk hn
   have hbp := bigC_push (F := F ++ (G ++ G2)) (V := V) (f := ((v : Int), lo, hi))
   have e3 : F ++ (G ++ G2) ++ [((v : Int), lo, hi)] = F ++ (G ++ G2 ++ [((v : Int), lo, hi)]) := by rw [List.append_assoc]
   have hlast : (F ++ (G ++ G2) ++ [((v : Int), lo, hi)]).getD (F ++ (G ++ G2)).length (0, 0, 0) = ((v : Int), lo, hi) := getD_app1
   have hlt : (F ++ (G ++ G2)).length < (F ++ (G ++ G2) ++ [((v : Int), lo, hi)]).length := by rw [List.length_append (bs := [_]), List.length_singleton]; omega
   have hCn : Cn (F ++ (G ++ G2) ++ [((v : Int), lo, hi)]) V (((F ++ (G ++ G2)).length : Int) + 2) v (smL l) := .fork rfl hlt hlast (Nat.le_refl _) (by omega) hC1'.mono hC2.mono (by rw [hsm, Nat.sub_self]; omega)
   have hdv : (v : Int) ≤ dvr (F ++ (G ++ G2) ++ [((v : Int), lo, hi)]) V (((F ++ (G ++ G2)).length : Int) + 2) := by
    unfold dvr
    rw [if_neg (by omega), show (((F ++ (G ++ G2)).length : Int) + 2 - 2).toNat = (F ++ (G ++ G2)).length by omega, hlast]
    exact Int.le_refl _
   have hcc : bigC (F ++ (G ++ G2) ++ [((v : Int), lo, hi)]) V ≤ bigC F V + (2 ^ (k + 1 - 2) - 1) := by
    rw [hbp]
    dsimp only
    split at hr2 <;> split <;> omega
   have e4 : ((F ++ (G ++ G2)).length : Int) = (F.length : Int) + ((G.length : Int) + (G2.length : Int)) := by rw [List.length_append, List.length_append]; omega
   rw [e4] at hdv hCn
   rw [e3] at hD3 hCn hdv hcc ⊢
   exact hQ _ _ hD3 hcc hdv hCn
theorem C_spec_l8Var (V : Nat) (F : List (Int × Int × Int)) (n : Int) (hF : F.length ≤ 2000) (hn : 0 ≤ n ∧ n ≤ (F.length : Int) + 1) (Q : List AV → Prop) : mc.C f_spec_l8Var [⟨I, (V : Int)⟩, ⟨L V3, F⟩, ⟨I, n⟩] Q = Q [⟨I, dvr F V n⟩] := by
 refine Mc.Ends.c (mc.ends F_spec_l8Var ?_)
 by_cases h : n < 2
 ·simp (contextual := true) (maxSteps := 1000000) (disch := omega) only [↓Sd, ↓So, ↓Sk, ↓den, ↓denA, Sa, Sb, Sc, Se, O1.d, O2.d, O3.d, cmI, arI, envOf, putN, ↓reduceIte, Nat.reduceLT, Nat.reduceSub, Nat.reduceAdd, Int.reduceAdd, Int.reduceEq, Int.reduceLT, Int.reduceLE, arr_pos, arr_neg, tr_spec_l8Var, h, dvr]
 ·simp (contextual := true) (maxSteps := 1000000) (disch := omega) only [↓Sd, ↓So, ↓Sk, ↓den, ↓denA, Sa, Sb, Sc, Se, O1.d, O2.d, O3.d, cmI, arI, envOf, putN, ↓reduceIte, Nat.reduceLT, Nat.reduceSub, Nat.reduceAdd, Int.reduceAdd, Int.reduceEq, Int.reduceLT, Int.reduceLE, arr_pos, arr_neg, tr_spec_l8Var, h, dvr]
theorem C_spec_DiagramValid (V : Nat) (F : List (Int × Int × Int)) (hV : V ≤ 12) (hF : F.length ≤ 2000) (hD : Dia F V) (Q : List AV → Prop) : mc.C f_spec_DiagramValid [⟨I, (V : Int)⟩, ⟨L V3, F⟩] Q = Q [⟨B, true⟩] := by
 have hV1 : (0 : Int) ≤ (V : Int) ∧ (V : Int) ≤ 12 := by omega
 refine Mc.Ends.c (mc.ends F_spec_DiagramValid ?_)
 simp (contextual := true) (maxSteps := 1000000) (disch := omega) only [↓Sd, ↓So, ↓Sk, ↓den, ↓denA, Sa, Sb, Sc, Se, O1.d, O2.d, O3.d, cmI, arI, envOf, putN, ↓reduceIte, Nat.reduceLT, Nat.reduceSub, Nat.reduceAdd, Int.reduceAdd, Int.reduceEq, Int.reduceLT, Int.reduceLE, arr_pos, arr_neg, tr_spec_DiagramValid, C_spec_l1In, decide_eq_true hV1]
 refine mc.lp_for Unit (fun i _ => [⟨I, (i : Int)⟩, ⟨I, (V : Int)⟩, ⟨L V3, F⟩]) (fun _ _ => True) F.length 0 () _ rfl (Nat.zero_le _) trivial ?_ ?_
 ·rintro i _ hi -
  have hf := hD.ok i hi
  generalize hfe : F.getD i (0, 0, 0) = f at hf
  obtain ⟨x, lo, hi'⟩ := f
  obtain ⟨f1, f2, f3, f4, f5, f6⟩ := hf
  dsimp only at f1 f2 f3 f4 f5 f6
  have g1 : (0 : Int) ≤ x ∧ x ≤ (V : Int) - 1 := by omega
  simp (contextual := true) (maxSteps := 1000000) (disch := omega) only [↓Sd, ↓So, ↓Sk, ↓den, ↓denA, Sa, Sb, Sc, Se, O1.d, O2.d, O3.d, cmI, arI, envOf, putN, ↓reduceIte, Nat.reduceLT, Nat.reduceSub, Nat.reduceAdd, Int.reduceAdd, Int.reduceEq, Int.reduceLT, Int.reduceLE, arr_pos, arr_neg, hfe]
  refine mc.c_of F_spec_l8Fork ?_
  simp (contextual := true) (maxSteps := 1000000) (disch := omega) only [↓Sd, ↓So, ↓Sk, ↓den, ↓denA, Sa, Sb, Sc, Se, O1.d, O2.d, O3.d, cmI, arI, envOf, putN, ↓reduceIte, Nat.reduceLT, Nat.reduceSub, Nat.reduceAdd, Int.reduceAdd, Int.reduceEq, Int.reduceLT, Int.reduceLE, arr_pos, arr_neg, tr_spec_l8Fork, hfe, C_spec_l1In, decide_eq_true g1, decide_eq_true f2, decide_eq_true f3, C_spec_l8Var V F lo hF (by omega), C_spec_l8Var V F hi' hF (by omega), f4, f5, f6]
  refine mc.lp_for Unit (fun k _ => [⟨I, (i : Int)⟩, ⟨I, (k : Int)⟩, ⟨I, (V : Int)⟩, ⟨L V3, F⟩, ⟨I, x⟩, ⟨I, lo⟩, ⟨I, hi'⟩]) (fun _ _ => True) i 0 () _ rfl (Nat.zero_le _) trivial ?_ ?_
  ·rintro k _ hk -
   have hne : F.getD k (0, 0, 0) ≠ (x, lo, hi') := fun g => by
    have := getD_inj hD.nd (show k < F.length by omega) hi (g.trans hfe.symm)
    omega
   generalize hge : F.getD k (0, 0, 0) = g at hne
   have hne2 : ¬ (g.1 = x ∧ g.2.1 = lo ∧ g.2.2 = hi') := fun e => hne (by obtain ⟨a, b, c⟩ := g; dsimp only at e; rw [e.1, e.2.1, e.2.2])
   simp (contextual := true) (maxSteps := 1000000) (disch := omega) only [↓Sd, ↓So, ↓Sk, ↓den, ↓denA, Sa, Sb, Sc, Se, O1.d, O2.d, O3.d, cmI, arI, envOf, putN, ↓reduceIte, Nat.reduceLT, Nat.reduceSub, Nat.reduceAdd, Int.reduceAdd, Int.reduceEq, Int.reduceLT, Int.reduceLE, arr_pos, arr_neg, hge]
   intro g2
   simp only [Bool.and_eq_true, beq_iff_eq] at g2
   exact absurd ⟨g2.1, g2.2.1, g2.2.2⟩ hne2
  ·rintro _ -
   simp (contextual := true) (maxSteps := 1000000) (disch := omega) only [↓Sd, ↓So, ↓Sk, ↓den, ↓denA, Sa, Sb, Sc, Se, O1.d, O2.d, O3.d, cmI, arI, envOf, putN, ↓reduceIte, Nat.reduceLT, Nat.reduceSub, Nat.reduceAdd, Int.reduceAdd, Int.reduceEq, Int.reduceLT, Int.reduceLE, arr_pos, arr_neg, ]
 ·rintro _ -
  simp (contextual := true) (maxSteps := 1000000) (disch := omega) only [↓Sd, ↓So, ↓Sk, ↓den, ↓denA, Sa, Sb, Sc, Se, O1.d, O2.d, O3.d, cmI, arI, envOf, putN, ↓reduceIte, Nat.reduceLT, Nat.reduceSub, Nat.reduceAdd, Int.reduceAdd, Int.reduceEq, Int.reduceLT, Int.reduceLE, arr_pos, arr_neg, ]
theorem C_spec_l8Count (V : Nat) (F : List (Int × Int × Int)) (hV : V ≤ 12) (hF : F.length ≤ 2000) {n : Int} {v : Nat} {c : Int} (h : Cn F V n v c) : ∀ (Q : List AV → Prop), mc.C f_spec_l8Count [⟨I, (V : Int)⟩, ⟨L V3, F⟩, ⟨I, n⟩, ⟨I, (v : Int)⟩] Q = Q [⟨I, c⟩] := by
 induction h with
 | @leaf n v c h1 h2 h3 =>
  intro Q
  refine Mc.Ends.c (mc.ends F_spec_l8Count ?_)
  have e : (V : Int) - (v : Int) = ((V - v : Nat) : Int) := by omega
  simp (contextual := true) (maxSteps := 1000000) (disch := omega) only [↓Sd, ↓So, ↓Sk, ↓den, ↓denA, Sa, Sb, Sc, Se, O1.d, O2.d, O3.d, cmI, arI, envOf, putN, ↓reduceIte, Nat.reduceLT, Nat.reduceSub, Nat.reduceAdd, Int.reduceAdd, Int.reduceEq, Int.reduceLT, Int.reduceLE, arr_pos, arr_neg, tr_spec_l8Count, e, shl_eq (x := n) (show V - v ≤ 12 by omega) (by omega)]
  rw [h3]
 | @fork n v c i w lo hi a b h1 h2 h3 h4 h5 h6 h7 h8 ih1 ih2 =>
  intro Q
  refine Mc.Ends.c (mc.ends F_spec_l8Count ?_)
  have e : (w : Int) - (v : Int) = ((w - v : Nat) : Int) := by omega
  have e2 : n - 2 = (i : Int) := by omega
  have a1 := h6.bd.1
  have b1 := h7.bd.1
  have hp : (2 : Int) ^ (V - (w + 1)) ≤ 4096 := by
   have h5 : 2 ^ (V - (w + 1)) ≤ 2 ^ 12 := Nat.pow_le_pow_right (by omega) (by omega)
   have e : ((2 ^ (V - (w + 1)) : Nat) : Int) = (2 : Int) ^ (V - (w + 1)) := by simp
   rw [← e]; omega
  obtain ⟨wx, hwx⟩ : ∃ wx, w + 1 = wx := ⟨_, rfl⟩
  have w1 : (w : Int) + 1 = (wx : Int) := by omega
  rw [hwx] at ih1 ih2
  simp (contextual := true) (maxSteps := 1000000) (disch := omega) only [↓Sd, ↓So, ↓Sk, ↓den, ↓denA, Sa, Sb, Sc, Se, O1.d, O2.d, O3.d, cmI, arI, envOf, putN, ↓reduceIte, Nat.reduceLT, Nat.reduceSub, Nat.reduceAdd, Int.reduceAdd, Int.reduceEq, Int.reduceLT, Int.reduceLE, arr_pos, arr_neg, tr_spec_l8Count, e2, h3, w1, ih1, ih2, e, shl_eq (x := a + b) (show w - v ≤ 12 by omega) (by omega)]
  rw [h8]
theorem C_spec_DiagramCount (V : Nat) (F : List (Int × Int × Int)) (hV : V ≤ 12) (hF : F.length ≤ 2000) (hD : Dia F V) {n c : Int} (h : Cn F V n 0 c) (Q : List AV → Prop) : mc.C f_spec_DiagramCount [⟨I, (V : Int)⟩, ⟨L V3, F⟩, ⟨I, n⟩] Q = Q [⟨I, c⟩] := by
 have hb := h.bd.2.2
 refine Mc.Ends.c (mc.ends F_spec_DiagramCount ?_)
 simp (contextual := true) (maxSteps := 1000000) (disch := omega) only [↓Sd, ↓So, ↓Sk, ↓den, ↓denA, Sa, Sb, Sc, Se, O1.d, O2.d, O3.d, cmI, arI, envOf, putN, ↓reduceIte, Nat.reduceLT, Nat.reduceSub, Nat.reduceAdd, Int.reduceAdd, Int.reduceEq, Int.reduceLT, Int.reduceLE, arr_pos, arr_neg, tr_spec_DiagramCount, C_spec_DiagramValid V F hV hF hD]
 refine mc.c_of F_spec_l8Place ?_
 simp (contextual := true) (maxSteps := 1000000) (disch := omega) only [↓Sd, ↓So, ↓Sk, ↓den, ↓denA, Sa, Sb, Sc, Se, O1.d, O2.d, O3.d, cmI, arI, envOf, putN, ↓reduceIte, Nat.reduceLT, Nat.reduceSub, Nat.reduceAdd, Int.reduceAdd, Int.reduceEq, Int.reduceLT, Int.reduceLE, arr_pos, arr_neg, tr_spec_l8Place, C_spec_l1In, decide_eq_true hb]
 have hc : ∀ Q : List AV → Prop, mc.C f_spec_l8Count [⟨I, (V : Int)⟩, ⟨L V3, F⟩, ⟨I, n⟩, ⟨I, 0⟩] Q = Q [⟨I, c⟩] := C_spec_l8Count V F hV hF h
 simp (contextual := true) (maxSteps := 1000000) (disch := omega) only [↓Sd, ↓So, ↓Sk, ↓den, ↓denA, Sa, Sb, Sc, Se, O1.d, O2.d, O3.d, cmI, arI, envOf, putN, ↓reduceIte, Nat.reduceLT, Nat.reduceSub, Nat.reduceAdd, Int.reduceAdd, Int.reduceEq, Int.reduceLT, Int.reduceLE, arr_pos, arr_neg, hc]
theorem C_spec_DiagramCount_no (Q : List AV → Prop) : mc.C f_spec_DiagramCount [⟨I, 0⟩, ⟨L V3, []⟩, ⟨I, -1⟩] Q = Q [⟨I, -1⟩] := by
 have hD : Dia [] 0 := ⟨fun i hi => absurd hi (Nat.not_lt_zero _), List.nodup_nil⟩
 refine Mc.Ends.c (mc.ends F_spec_DiagramCount ?_)
 have hc : ∀ Q : List AV → Prop, mc.C f_spec_DiagramValid [⟨I, 0⟩, ⟨L V3, []⟩] Q = Q [⟨B, true⟩] := C_spec_DiagramValid 0 [] (by omega) (by simp) hD
 simp (contextual := true) (maxSteps := 1000000) (disch := omega) only [↓Sd, ↓So, ↓Sk, ↓den, ↓denA, Sa, Sb, Sc, Se, O1.d, O2.d, O3.d, cmI, arI, envOf, putN, ↓reduceIte, Nat.reduceLT, Nat.reduceSub, Nat.reduceAdd, Int.reduceAdd, Int.reduceEq, Int.reduceLT, Int.reduceLE, arr_pos, arr_neg, tr_spec_DiagramCount, hc]
 refine mc.c_of F_spec_l8Place ?_
 simp (contextual := true) (maxSteps := 1000000) (disch := omega) only [↓Sd, ↓So, ↓Sk, ↓den, ↓denA, Sa, Sb, Sc, Se, O1.d, O2.d, O3.d, cmI, arI, envOf, putN, ↓reduceIte, Nat.reduceLT, Nat.reduceSub, Nat.reduceAdd, Int.reduceAdd, Int.reduceEq, Int.reduceLT, Int.reduceLE, arr_pos, arr_neg, tr_spec_l8Place, C_spec_l1In]
def ilv (a b : List Int) : Nat → List Int
 | 0 => []
 | k + 1 => ilv a b k ++ [a.getD k 0, b.getD k 0]
theorem ilv_len {a b : List Int} : ∀ {k : Nat}, (ilv a b k).length = 2 * k
 | 0 => rfl
 | k + 1 => by simp only [ilv, List.length_append, @ilv_len a b k, List.length_cons, List.length_nil]; omega
theorem ilv_bit {a b : List Int} (ha : ∀ i, a.getD i 0 = 0 ∨ a.getD i 0 = 1) (hb : ∀ i, b.getD i 0 = 0 ∨ b.getD i 0 = 1) : ∀ {k : Nat}, ∀ x ∈ ilv a b k, x = 0 ∨ x = 1
 | 0, x, h => by simp [ilv] at h
 | k + 1, x, h => by
  simp only [ilv, List.mem_append, List.mem_cons, List.not_mem_nil, or_false] at h
  rcases h with h | h | h
  ·exact ilv_bit ha hb x h
  ·rw [h]; exact ha k
  ·rw [h]; exact hb k
theorem ilv_inj {a b c d : List Int} : ∀ {k : Nat}, ilv a b k = ilv c d k → ∀ j, j < k → a.getD j 0 = c.getD j 0 ∧ b.getD j 0 = d.getD j 0
 | 0, _, j, hj => absurd hj (Nat.not_lt_zero _)
 | k + 1, h, j, hj => by
  simp only [ilv] at h
  obtain ⟨h1, h2⟩ := List.append_inj h (by rw [ilv_len, ilv_len])
  simp only [List.cons.injEq, and_true] at h2
  rcases Nat.lt_succ_iff_lt_or_eq.1 hj with g | rfl
  ·exact ilv_inj h1 j g
  ·exact h2
def nbN (l : List Int) : Nat → Int
 | 0 => 0
 | k + 1 => nbN l k * 2 + l.getD k 0
def nbL (l : List Int) : Int := nbN l l.length
theorem bit_getD {l : List Int} (h : ∀ x ∈ l, x = 0 ∨ x = 1) (i : Nat) : l.getD i 0 = 0 ∨ l.getD i 0 = 1 := by
 by_cases hi : i < l.length
 ·exact h _ (getD_mem hi)
 ·left; rw [List.getD_eq_getElem?_getD, List.getElem?_eq_none (by omega)]; rfl
theorem nbN_bd {l : List Int} (h : ∀ i, l.getD i 0 = 0 ∨ l.getD i 0 = 1) : ∀ {k : Nat}, 0 ≤ nbN l k ∧ nbN l k < ((2 ^ k : Nat) : Int)
 | 0 => by simp [nbN]
 | k + 1 => by
  have h1 := @nbN_bd l h k
  have h2 := h k
  rw [Nat.pow_succ]
  simp only [nbN]
  omega
theorem nbN_inj {l m : List Int} (hl : ∀ i, l.getD i 0 = 0 ∨ l.getD i 0 = 1) (hm : ∀ i, m.getD i 0 = 0 ∨ m.getD i 0 = 1) : ∀ {k : Nat}, nbN l k = nbN m k → ∀ j, j < k → l.getD j 0 = m.getD j 0
 | 0, _, j, hj => absurd hj (Nat.not_lt_zero _)
 | k + 1, h, j, hj => by
  simp only [nbN] at h
  have h1 := hl k
  have h2 := hm k
  rcases Nat.lt_succ_iff_lt_or_eq.1 hj with g | rfl
  ·exact nbN_inj hl hm (by omega) j g
  ·omega
theorem ext_getD {l m : List Int} (h : l.length = m.length) (hj : ∀ j, j < l.length → l.getD j 0 = m.getD j 0) : l = m := by
 refine List.ext_getElem h fun i h1 h2 => ?_
 have := hj i h1
 rwa [getD_lt h1, getD_lt h2] at this
theorem mem_take_succ {α : Type} {l : List α} {i : Nat} {x d : α} (h : i < l.length) : x ∈ l.take (i + 1) ↔ x ∈ l.take i ∨ x = l.getD i d := by
 rw [← take_next (d := d) h, List.mem_append, List.mem_singleton]
theorem nbL_inj {l m : List Int} (hl : ∀ x ∈ l, x = 0 ∨ x = 1) (hm : ∀ x ∈ m, x = 0 ∨ x = 1) (hlen : l.length = m.length) (h : nbL l = nbL m) : l = m := by
 unfold nbL at h
 rw [← hlen] at h
 exact ext_getD hlen (nbN_inj (bit_getD hl) (bit_getD hm) h)
theorem C_spec_l6Number (l : List Int) (h : ∀ x ∈ l, x = 0 ∨ x = 1) (hl : l.length ≤ 12) (Q : List AV → Prop) : mc.C f_spec_l6Number [⟨L I, l⟩] Q = Q [⟨I, nbL l⟩] := by
 refine Mc.Ends.c (mc.ends F_spec_l6Number ?_)
 simp (contextual := true) (maxSteps := 1000000) (disch := omega) only [↓Sd, ↓So, ↓Sk, ↓den, ↓denA, Sa, Sb, Sc, Se, O1.d, O2.d, O3.d, cmI, arI, envOf, putN, ↓reduceIte, Nat.reduceLT, Nat.reduceSub, Nat.reduceAdd, Int.reduceAdd, Int.reduceEq, Int.reduceLT, Int.reduceLE, arr_pos, arr_neg, tr_spec_l6Number]
 refine mc.lp_for Int (fun i n => [⟨L I, l⟩, ⟨I, n⟩, ⟨I, (i : Int)⟩]) (fun i n => n = nbN l i) l.length 0 0 _ rfl (Nat.zero_le _) rfl ?_ ?_
 ·rintro i n hi rfl
  have h1 := @nbN_bd l (bit_getD h) i
  have h2 := bit_getD h i
  have h3 : 2 ^ i ≤ 2 ^ 12 := Nat.pow_le_pow_right (by omega) (by omega)
  simp (contextual := true) (maxSteps := 1000000) (disch := omega) only [↓Sd, ↓So, ↓Sk, ↓den, ↓denA, Sa, Sb, Sc, Se, O1.d, O2.d, O3.d, cmI, arI, envOf, putN, ↓reduceIte, Nat.reduceLT, Nat.reduceSub, Nat.reduceAdd, Int.reduceAdd, Int.reduceEq, Int.reduceLT, Int.reduceLE, arr_pos, arr_neg, ]
  rfl
 ·rintro n rfl
  simp (contextual := true) (maxSteps := 1000000) (disch := omega) only [↓Sd, ↓So, ↓Sk, ↓den, ↓denA, Sa, Sb, Sc, Se, O1.d, O2.d, O3.d, cmI, arI, envOf, putN, ↓reduceIte, Nat.reduceLT, Nat.reduceSub, Nat.reduceAdd, Int.reduceAdd, Int.reduceEq, Int.reduceLT, Int.reduceLE, arr_pos, arr_neg, ]
  rfl
theorem C_spec_l10Both (a b : List Int) (hab : a.length = b.length) (hl : a.length ≤ 100) (Q : List AV → Prop) : mc.C f_spec_l10Both [⟨L I, a⟩, ⟨L I, b⟩] Q = Q [⟨L I, ilv a b a.length⟩] := by
 refine Mc.Ends.c (mc.ends F_spec_l10Both ?_)
 simp (contextual := true) (maxSteps := 1000000) (disch := omega) only [↓Sd, ↓So, ↓Sk, ↓den, ↓denA, Sa, Sb, Sc, Se, O1.d, O2.d, O3.d, cmI, arI, envOf, putN, ↓reduceIte, Nat.reduceLT, Nat.reduceSub, Nat.reduceAdd, Int.reduceAdd, Int.reduceEq, Int.reduceLT, Int.reduceLE, arr_pos, arr_neg, tr_spec_l10Both]
 refine mc.lp_for (List Int) (fun i o => [⟨L I, a⟩, ⟨L I, b⟩, ⟨I, (i : Int)⟩, ⟨L I, o⟩]) (fun i o => o = ilv a b i) a.length 0 [] _ rfl (Nat.zero_le _) rfl ?_ ?_
 ·rintro i o hi rfl
  have := @ilv_len a b i
  simp (contextual := true) (maxSteps := 1000000) (disch := omega) only [↓Sd, ↓So, ↓Sk, ↓den, ↓denA, Sa, Sb, Sc, Se, O1.d, O2.d, O3.d, cmI, arI, envOf, putN, ↓reduceIte, Nat.reduceLT, Nat.reduceSub, Nat.reduceAdd, Int.reduceAdd, Int.reduceEq, Int.reduceLT, Int.reduceLE, arr_pos, arr_neg, this]
  rfl
 ·rintro o rfl
  simp (contextual := true) (maxSteps := 1000000) (disch := omega) only [↓Sd, ↓So, ↓Sk, ↓den, ↓denA, Sa, Sb, Sc, Se, O1.d, O2.d, O3.d, cmI, arI, envOf, putN, ↓reduceIte, Nat.reduceLT, Nat.reduceSub, Nat.reduceAdd, Int.reduceAdd, Int.reduceEq, Int.reduceLT, Int.reduceLE, arr_pos, arr_neg, ]
theorem bc_nat {s : Sy} (h : nar s) : ∃ w : Nat, bc s.1 = (w : Int) ∧ w ≤ 6 := by
 have := bc_bd h.1
 have := h.2
 exact ⟨(bc s.1).toNat, by omega, by omega⟩
def rowOf (s : Sy) (n y : Int) : List Int := ilv (sb s (stAt s.1 n)) (sb s (stAt s.1 y)) (bc s.1).toNat
theorem sb_bits {s : Sy} {st : List Int} : ∀ x ∈ sb s st, x = 0 ∨ x = 1 := fun x hx => sbN_bit x hx
theorem rowOf_len {s : Sy} {n y : Int} : (rowOf s n y).length = 2 * (bc s.1).toNat := ilv_len
theorem rowOf_bit {s : Sy} {n y : Int} : ∀ x ∈ rowOf s n y, x = 0 ∨ x = 1 := ilv_bit (bit_getD sb_bits) (bit_getD sb_bits)
theorem stAt_inj {s : Sy} (h : valid s) {x y : Int} (hx : 0 ≤ x ∧ x < (szn s.1 : Int)) (hy : 0 ≤ y ∧ y < (szn s.1 : Int)) (he : sb s (stAt s.1 x) = sb s (stAt s.1 y)) : x = y := by
 obtain ⟨a, rfl⟩ : ∃ a : Nat, x = (a : Int) := ⟨x.toNat, by omega⟩
 obtain ⟨b, rfl⟩ : ∃ b : Nat, y = (b : Int) := ⟨y.toNat, by omega⟩
 have h1 := sb_inj h (stN_in h (n := a) (by omega)) (stN_in h (n := b) (by omega)) he
 have h2 := num_stN h (k := a) (by omega)
 have h3 := num_stN h (k := b) (by omega)
 rw [h1, h3] at h2
 exact h2.symm
theorem rowOf_inj {s : Sy} (h : valid s) {n y m z : Int} (hn : 0 ≤ n ∧ n < (szn s.1 : Int)) (hy : 0 ≤ y ∧ y < (szn s.1 : Int)) (hm : 0 ≤ m ∧ m < (szn s.1 : Int)) (hz : 0 ≤ z ∧ z < (szn s.1 : Int)) (he : rowOf s n y = rowOf s m z) : n = m ∧ y = z := by
 have hb := bc_bd h
 have hi := ilv_inj he
 have hl : ∀ x : Int, (sb s (stAt s.1 x)).length = (bc s.1).toNat := fun x => by have := @sb_len s (stAt s.1 x); omega
 exact ⟨stAt_inj h hn hm (ext_getD (by rw [hl, hl]) fun j hj => (hi j (by rw [hl] at hj; exact hj)).1), stAt_inj h hy hz (ext_getD (by rw [hl, hl]) fun j hj => (hi j (by rw [hl] at hj; exact hj)).2)⟩
def srowN (s : Sy) : Nat → List (List Int)
 | 0 => []
 | n + 1 => srowN s n ++ ((steps s).getD n []).map (rowOf s n)
def lnN (T : List (List Int)) : Nat → Int
 | 0 => 0
 | n + 1 => lnN T n + (T.getD n []).length
theorem srowN_len {s : Sy} : ∀ {n : Nat}, ((srowN s n).length : Int) = lnN (steps s) n
 | 0 => rfl
 | n + 1 => by
  have := @srowN_len s n
  simp only [srowN, lnN, List.length_append, List.length_map]; omega
theorem lnN_bd {T : List (List Int)} {m : Nat} (h : Tb8 T m) : ∀ {n : Nat}, n ≤ m → 0 ≤ lnN T n ∧ lnN T n ≤ 8 * (n : Int)
 | 0, _ => by simp [lnN]
 | n + 1, hn => by
  have h1 := @lnN_bd T m h n (by omega)
  have h2 := h.2.2 _ (getD_mem (d := []) (i := n) (l := T) (by have := h.1.1; omega))
  simp only [lnN]; omega
theorem stepR_nd {s : Sy} (h : valid s) {n : Nat} : (stepR s n).Nodup := by
 unfold stepR
 refine List.pairwise_map.2 (List.Pairwise.imp_of_mem (fun {a b} ha hb hab he => ?_) (nxtN_asc (s := s) (st := stN s n) (k := s.2.length)))
 have h1 := stAt_num h.2.2.1 (nxt_in a ha)
 have h2 := stAt_num h.2.2.1 (nxt_in b hb)
 have : a = b := by rw [← h1, ← h2, he]
 subst this
 have : cmpL a a = 0 := cmpL_self a
 omega
theorem srowN_mem {s : Sy} {x : List Int} : ∀ {n : Nat}, x ∈ srowN s n → ∃ k, k < n ∧ ∃ y ∈ (steps s).getD k [], x = rowOf s k y
 | 0, h => by simp [srowN] at h
 | n + 1, h => by
  simp only [srowN, List.mem_append, List.mem_map] at h
  rcases h with h | ⟨y, hy, rfl⟩
  ·obtain ⟨k, h1, h2⟩ := srowN_mem h; exact ⟨k, by omega, h2⟩
  ·exact ⟨n, Nat.lt_succ_self _, y, hy, rfl⟩
theorem srowN_nd {s : Sy} (h : valid s) : ∀ {n : Nat}, n ≤ szn s.1 → (srowN s n).Nodup
 | 0, _ => List.nodup_nil
 | n + 1, hn => by
  have ht := (steps_tb8 h).1
  simp only [srowN]
  refine List.nodup_append.2 ⟨srowN_nd h (by omega), ?_, ?_⟩
  ·have e : (steps s).getD n [] = stepR s n := tab_get (by omega)
   have hnd := stepR_nd h (n := n)
   rw [← e] at hnd
   refine List.pairwise_map.2 (hnd.imp_of_mem fun {a b} ha hb hab he => hab ?_)
   exact (rowOf_inj h (by omega) (ht.row a ha) (by omega) (ht.row b hb) he).2
  ·intro a ha b hb he
   obtain ⟨k, hk, y, hy, rfl⟩ := srowN_mem ha
   obtain ⟨z, hz, rfl⟩ := List.mem_map.1 hb
   have := (rowOf_inj h (by omega) (ht.row y hy) (by omega) (ht.row z hz) he).1
   omega
theorem C_spec_l10Steps (s : Sy) (hs : FewSy s) (h : nar s) (Q : List AV → Prop) : mc.C f_spec_l10Steps [⟨L V3, s.1⟩, ⟨L TR, s.2⟩] Q = Q [⟨L (L I), srowN s (szn s.1)⟩] := by
 have hv := h.1
 have hz := szn_eq hv
 have ht := steps_tb8 hv
 have hTl := ht.1.1
 have hb := bc_bd hv
 have hsl : ∀ x : Int, (sb s (stAt s.1 x)).length = (bc s.1).toNat := fun x => by have := @sb_len s (stAt s.1 x); omega
 refine Mc.Ends.c (mc.ends F_spec_l10Steps ?_)
 simp (contextual := true) (maxSteps := 1000000) (disch := omega) only [↓Sd, ↓So, ↓Sk, ↓den, ↓denA, Sa, Sb, Sc, Se, O1.d, O2.d, O3.d, cmI, arI, envOf, putN, ↓reduceIte, Nat.reduceLT, Nat.reduceSub, Nat.reduceAdd, Int.reduceAdd, Int.reduceEq, Int.reduceLT, Int.reduceLE, arr_pos, arr_neg, tr_spec_l10Steps, C_spec_l4Steps s hs hv]
 refine mc.lp_for (List (List Int)) (fun i o => [⟨I, (i : Int)⟩, ⟨L V3, s.1⟩, ⟨L TR, s.2⟩, ⟨L (L I), o⟩, ⟨L (L I), steps s⟩]) (fun i o => o = srowN s i) (szn s.1) 0 [] _ rfl (Nat.zero_le _) rfl ?_ ?_
 ·rintro n o hn rfl
  have hr8 : ((steps s).getD n []).length ≤ 8 := ht.2.2 _ (getD_mem (by omega))
  have hb1 := lnN_bd ht (n := n) (by omega)
  have hb2 := @srowN_len s n
  simp (contextual := true) (maxSteps := 1000000) (disch := omega) only [↓Sd, ↓So, ↓Sk, ↓den, ↓denA, Sa, Sb, Sc, Se, O1.d, O2.d, O3.d, cmI, arI, envOf, putN, ↓reduceIte, Nat.reduceLT, Nat.reduceSub, Nat.reduceAdd, Int.reduceAdd, Int.reduceEq, Int.reduceLT, Int.reduceLE, arr_pos, arr_neg, hTl]
  refine mc.lp_for (List (List Int)) (fun i o => [⟨I, (n : Int)⟩, ⟨I, (i : Int)⟩, ⟨L V3, s.1⟩, ⟨L TR, s.2⟩, ⟨L (L I), o⟩, ⟨L (L I), steps s⟩]) (fun i o => o = srowN s n ++ (((steps s).getD n []).take i).map (rowOf s n)) ((steps s).getD n []).length 0 (srowN s n) _ rfl (Nat.zero_le _) (by simp) ?_ ?_
  ·rintro i o hi rfl
   have hy := ht.1.row _ (getD_mem (d := 0) hi)
   have hlt : (((steps s).getD n []).take i).length ≤ 8 := by rw [List.length_take]; omega
   simp (contextual := true) (maxSteps := 1000000) (disch := omega) only [↓Sd, ↓So, ↓Sk, ↓den, ↓denA, Sa, Sb, Sc, Se, O1.d, O2.d, O3.d, cmI, arI, envOf, putN, ↓reduceIte, Nat.reduceLT, Nat.reduceSub, Nat.reduceAdd, Int.reduceAdd, Int.reduceEq, Int.reduceLT, Int.reduceLE, arr_pos, arr_neg, hTl, C_spec_l4State s _ hs hv (by omega : (0 : Int) ≤ (n : Int) ∧ (n : Int) ≤ 3200000), C_spec_l6State s (stAt s.1 (n : Int)) hv (stAt_in hv.2.2.1 (by omega)), C_spec_l4State s (((steps s).getD n []).getD i 0) hs hv (by omega), C_spec_l6State s (stAt s.1 (((steps s).getD n []).getD i 0)) hv (stAt_in hv.2.2.1 (by omega)), C_spec_l10Both (sb s (stAt s.1 (n : Int))) (sb s (stAt s.1 (((steps s).getD n []).getD i 0))) (by rw [hsl, hsl]) (by rw [hsl]; omega), List.length_append, List.length_map]
   rw [← map_next (d := 0) hi, List.append_assoc, rowOf, hsl]
  ·rintro o rfl
   rw [List.take_length]
   simp (contextual := true) (maxSteps := 1000000) (disch := omega) only [↓Sd, ↓So, ↓Sk, ↓den, ↓denA, Sa, Sb, Sc, Se, O1.d, O2.d, O3.d, cmI, arI, envOf, putN, ↓reduceIte, Nat.reduceLT, Nat.reduceSub, Nat.reduceAdd, Int.reduceAdd, Int.reduceEq, Int.reduceLT, Int.reduceLE, arr_pos, arr_neg, hTl]
   rfl
 ·rintro o rfl
  simp (contextual := true) (maxSteps := 1000000) (disch := omega) only [↓Sd, ↓So, ↓Sk, ↓den, ↓denA, Sa, Sb, Sc, Se, O1.d, O2.d, O3.d, cmI, arI, envOf, putN, ↓reduceIte, Nat.reduceLT, Nat.reduceSub, Nat.reduceAdd, Int.reduceAdd, Int.reduceEq, Int.reduceLT, Int.reduceLE, arr_pos, arr_neg, hTl]
theorem C_spec_l10Of (V : Nat) (hV : V ≤ 12) (X : List (List Int)) (hX : X.length ≤ 10000) (hr : ∀ r ∈ X, r.length = V ∧ ∀ x ∈ r, x = 0 ∨ x = 1) (hnd : X.Nodup) {Q : List AV → Prop}
  (hQ : ∀ (F : List (Int × Int × Int)) (n : Int), Dia F V → F.length ≤ 2000 → Cn F V n 0 (X.length : Int) → Q [⟨I, (V : Int)⟩, ⟨L V3, F⟩, ⟨I, n⟩]) :
  mc.C f_spec_l10Of [⟨I, (V : Int)⟩, ⟨L (L I), X⟩] Q := by
 refine mc.c_of F_spec_l10Of ?_
 have hp : 2 ^ V ≤ 2 ^ 12 := Nat.pow_le_pow_right (by omega) hV
 obtain ⟨N, hN⟩ : ∃ N, 2 ^ V = N := ⟨_, rfl⟩
 have hsh : shI true .i64 1 (V : Int) = (N : Int) := by rw [shl_eq hV (by omega), ← hN]; simp
 rw [hN] at hp
 simp (contextual := true) (maxSteps := 1000000) (disch := omega) only [↓Sd, ↓So, ↓Sk, ↓den, ↓denA, Sa, Sb, Sc, Se, O1.d, O2.d, O3.d, cmI, arI, envOf, putN, ↓reduceIte, Nat.reduceLT, Nat.reduceSub, Nat.reduceAdd, Int.reduceAdd, Int.reduceEq, Int.reduceLT, Int.reduceLE, arr_pos, arr_neg, tr_spec_l10Of, hsh, Int.toNat_natCast]
 refine mc.lp_for (List Int) (fun i o => [⟨I, (V : Int)⟩, ⟨L (L I), X⟩, ⟨I, (i : Int)⟩, ⟨I, 0⟩, ⟨L I, o⟩])
  (fun i o => o.length = N ∧ (∀ x ∈ o, x = 0 ∨ x = 1) ∧ smL o = (i : Int) ∧ ∀ j, j < N → o.getD j 0 ≠ 0 → ∃ r ∈ X.take i, nbL r = (j : Int)) X.length 0 (List.replicate N 0) _ rfl (Nat.zero_le _) ⟨by simp, fun x hx => .inl (List.eq_of_mem_replicate hx), smL_zero, fun j hj g => absurd (by simp [List.getD_eq_getElem?_getD, hj]) g⟩ ?_ ?_
 ·rintro i o hi ⟨h1, h2, h3, h4⟩
  have hm := getD_mem (d := []) hi
  have hri := hr _ hm
  have hb := nbN_bd (bit_getD hri.2) (k := (X.getD i []).length)
  rw [hri.1, hN] at hb
  have hnb : nbL (X.getD i []) = nbN (X.getD i []) V := by rw [nbL, hri.1]
  rw [← hnb] at hb
  obtain ⟨c, hc⟩ : ∃ c : Nat, nbL (X.getD i []) = (c : Int) := ⟨(nbL (X.getD i [])).toNat, by omega⟩
  have hcN : c < N := by omega
  have h0 : o.getD c 0 = 0 := Classical.byContradiction fun g => by
   obtain ⟨r, hrm, he⟩ := h4 c hcN g
   have hr2 := hr r (List.mem_of_mem_take hrm)
   have := nbL_inj hr2.2 hri.2 (by rw [hr2.1, hri.1]) (he.trans hc.symm)
   obtain ⟨j, hj, hje⟩ := List.mem_iff_getElem.1 hrm
   rw [List.length_take] at hj
   rw [List.getElem_take] at hje
   rw [this, getD_lt hi] at hje
   have := (List.getElem_inj hnd).1 hje
   omega
  simp (contextual := true) (maxSteps := 1000000) (disch := omega) only [↓Sd, ↓So, ↓Sk, ↓den, ↓denA, Sa, Sb, Sc, Se, O1.d, O2.d, O3.d, cmI, arI, envOf, putN, ↓reduceIte, Nat.reduceLT, Nat.reduceSub, Nat.reduceAdd, Int.reduceAdd, Int.reduceEq, Int.reduceLT, Int.reduceLE, arr_pos, arr_neg, C_spec_l6Number (X.getD i []) hri.2 (by omega), hc, Int.toNat_natCast]
  refine ⟨by rw [List.length_set]; exact h1, fun x hx => ?_, ?_, fun j hj g => ?_⟩
  ·rcases List.mem_or_eq_of_mem_set hx with hx | hx
   ·exact h2 x hx
   ·right; exact hx
  ·rw [smL_set (by omega) h0, h3]
  ·by_cases hjc : j = c
   ·exact ⟨_, (mem_take_succ (d := []) hi).2 (.inr rfl), by rw [hc, hjc]⟩
   ·rw [getD_set_ne (fun e => hjc e.symm)] at g
    obtain ⟨r, hrm, he⟩ := h4 j hj g
    exact ⟨r, (mem_take_succ (d := []) hi).2 (.inl hrm), he⟩
 ·rintro o ⟨h1, h2, h3, -⟩
  have hD : Dia [] V := ⟨fun i hi => absurd hi (Nat.not_lt_zero _), List.nodup_nil⟩
  have hb0 : bigC [] V = 0 := rfl
  have hp2 : 2 ^ (V - 2) ≤ 2 ^ 10 := Nat.pow_le_pow_right (by omega) (by omega)
  simp (contextual := true) (maxSteps := 1000000) (disch := omega) only [↓Sd, ↓So, ↓Sk, ↓den, ↓denA, Sa, Sb, Sc, Se, O1.d, O2.d, O3.d, cmI, arI, envOf, putN, ↓reduceIte, Nat.reduceLT, Nat.reduceSub, Nat.reduceAdd, Int.reduceAdd, Int.reduceEq, Int.reduceLT, Int.reduceLE, arr_pos, arr_neg, ]
  refine C_spec_l8Rows V hV V 0 [] o (by omega) (by rw [h1, hN]) h2 hD (by omega) fun G n hD2 hc2 _ hC => ?_
  rw [List.nil_append] at hD2 hc2 hC ⊢
  have hl := hD2.len
  rw [h3] at hC
  simp (contextual := true) (maxSteps := 1000000) (disch := omega) only [↓Sd, ↓So, ↓Sk, ↓den, ↓denA, Sa, Sb, Sc, Se, O1.d, O2.d, O3.d, cmI, arI, envOf, putN, ↓reduceIte, Nat.reduceLT, Nat.reduceSub, Nat.reduceAdd, Int.reduceAdd, Int.reduceEq, Int.reduceLT, Int.reduceLE, arr_pos, arr_neg, ]
  exact hQ G n hD2 (by omega) hC
theorem C_spec_StepsCount (s : Sy) (hs : FewSy s) (Q : List AV → Prop) : mc.C f_spec_StepsCount [⟨L V3, s.1⟩, ⟨L TR, s.2⟩] Q = Q [⟨I, if nar s then lnN (steps s) (szn s.1) else -1⟩] := by
 refine Mc.Ends.c (mc.ends F_spec_StepsCount ?_)
 simp (contextual := true) (maxSteps := 1000000) (disch := omega) only [↓Sd, ↓So, ↓Sk, ↓den, ↓denA, Sa, Sb, Sc, Se, O1.d, O2.d, O3.d, cmI, arI, envOf, putN, ↓reduceIte, Nat.reduceLT, Nat.reduceSub, Nat.reduceAdd, Int.reduceAdd, Int.reduceEq, Int.reduceLT, Int.reduceLE, arr_pos, arr_neg, tr_spec_StepsCount]
 refine mc.c_of F_spec_StepDiagram ?_
 by_cases h : nar s
 ·obtain ⟨w, hw, hw6⟩ := bc_nat h
  have hv := h.1
  have hz := szn_eq hv
  have hbd := lnN_bd (steps_tb8 hv) (n := szn s.1) (Nat.le_refl _)
  have hlen := @srowN_len s (szn s.1)
  have e2 : 2 * (w : Int) = ((2 * w : Nat) : Int) := by omega
  obtain ⟨V, hVe⟩ : ∃ V, 2 * w = V := ⟨_, rfl⟩
  rw [hVe] at e2
  simp (contextual := true) (maxSteps := 1000000) (disch := omega) only [↓Sd, ↓So, ↓Sk, ↓den, ↓denA, Sa, Sb, Sc, Se, O1.d, O2.d, O3.d, cmI, arI, envOf, putN, ↓reduceIte, Nat.reduceLT, Nat.reduceSub, Nat.reduceAdd, Int.reduceAdd, Int.reduceEq, Int.reduceLT, Int.reduceLE, arr_pos, arr_neg, tr_spec_StepDiagram, C_spec_l10Wide s hs, if_pos h, hw, C_spec_l10Steps s hs h, e2]
  refine C_spec_l10Of V (by omega) (srowN s (szn s.1)) (by omega) (fun r hr => ?_) (srowN_nd hv (Nat.le_refl _)) fun F n hD hF hC => ?_
  ·obtain ⟨k, _, y, _, rfl⟩ := srowN_mem hr
   exact ⟨by rw [rowOf_len, hw]; omega, rowOf_bit⟩
  ·rw [hlen] at hC
   simp (contextual := true) (maxSteps := 1000000) (disch := omega) only [↓Sd, ↓So, ↓Sk, ↓den, ↓denA, Sa, Sb, Sc, Se, O1.d, O2.d, O3.d, cmI, arI, envOf, putN, ↓reduceIte, Nat.reduceLT, Nat.reduceSub, Nat.reduceAdd, Int.reduceAdd, Int.reduceEq, Int.reduceLT, Int.reduceLE, arr_pos, arr_neg, C_spec_DiagramCount V F (by omega) hF hD hC]
 ·simp (contextual := true) (maxSteps := 1000000) (disch := omega) only [↓Sd, ↓So, ↓Sk, ↓den, ↓denA, Sa, Sb, Sc, Se, O1.d, O2.d, O3.d, cmI, arI, envOf, putN, ↓reduceIte, Nat.reduceLT, Nat.reduceSub, Nat.reduceAdd, Int.reduceAdd, Int.reduceEq, Int.reduceLT, Int.reduceLE, arr_pos, arr_neg, tr_spec_StepDiagram, C_spec_l10Wide s hs, if_neg h]
  rw [C_spec_DiagramCount_no]
  simp (contextual := true) (maxSteps := 1000000) (disch := omega) only [↓Sd, ↓So, ↓Sk, ↓den, ↓denA, Sa, Sb, Sc, Se, O1.d, O2.d, O3.d, cmI, arI, envOf, putN, ↓reduceIte, Nat.reduceLT, Nat.reduceSub, Nat.reduceAdd, Int.reduceAdd, Int.reduceEq, Int.reduceLT, Int.reduceLE, arr_pos, arr_neg, ]
theorem C_impl_StepsCount (s : Sy) (hs : FewSy s) (Q : List AV → Prop) : mc.C f_impl_StepsCount [⟨L V3, s.1⟩, ⟨L TR, s.2⟩] Q = Q [⟨I, if nar s then lnN (steps s) (szn s.1) else -1⟩] := by
 refine Mc.Ends.c (mc.ends F_impl_StepsCount ?_)
 by_cases h : nar s
 ·have hv := h.1
  have hz := szn_eq hv
  have ht := steps_tb8 hv
  have hTl := ht.1.1
  rw [if_pos h]
  simp (contextual := true) (maxSteps := 1000000) (disch := omega) only [↓Sd, ↓So, ↓Sk, ↓den, ↓denA, Sa, Sb, Sc, Se, O1.d, O2.d, O3.d, cmI, arI, envOf, putN, ↓reduceIte, Nat.reduceLT, Nat.reduceSub, Nat.reduceAdd, Int.reduceAdd, Int.reduceEq, Int.reduceLT, Int.reduceLE, arr_pos, arr_neg, tr_impl_StepsCount, C_impl_halfNarrow s hs, decide_eq_true h, C_impl_nexts s hv, hTl]
  refine mc.lp_for Int (fun i n => [⟨I, n⟩, ⟨I, (szn s.1 : Int)⟩, ⟨I, (i : Int)⟩, ⟨L (L I), steps s⟩]) (fun i n => n = lnN (steps s) i) (szn s.1) 0 0 _ rfl (Nat.zero_le _) rfl ?_ ?_
  ·rintro i n hi rfl
   have h1 := lnN_bd ht (n := i) (by omega)
   have hr8 : ((steps s).getD i []).length ≤ 8 := ht.2.2 _ (getD_mem (by omega))
   simp (contextual := true) (maxSteps := 1000000) (disch := omega) only [↓Sd, ↓So, ↓Sk, ↓den, ↓denA, Sa, Sb, Sc, Se, O1.d, O2.d, O3.d, cmI, arI, envOf, putN, ↓reduceIte, Nat.reduceLT, Nat.reduceSub, Nat.reduceAdd, Int.reduceAdd, Int.reduceEq, Int.reduceLT, Int.reduceLE, arr_pos, arr_neg, hTl]
   rfl
  ·rintro n rfl
   simp (contextual := true) (maxSteps := 1000000) (disch := omega) only [↓Sd, ↓So, ↓Sk, ↓den, ↓denA, Sa, Sb, Sc, Se, O1.d, O2.d, O3.d, cmI, arI, envOf, putN, ↓reduceIte, Nat.reduceLT, Nat.reduceSub, Nat.reduceAdd, Int.reduceAdd, Int.reduceEq, Int.reduceLT, Int.reduceLE, arr_pos, arr_neg, ]
 ·simp (contextual := true) (maxSteps := 1000000) (disch := omega) only [↓Sd, ↓So, ↓Sk, ↓den, ↓denA, Sa, Sb, Sc, Se, O1.d, O2.d, O3.d, cmI, arI, envOf, putN, ↓reduceIte, Nat.reduceLT, Nat.reduceSub, Nat.reduceAdd, Int.reduceAdd, Int.reduceEq, Int.reduceLT, Int.reduceLE, arr_pos, arr_neg, tr_impl_StepsCount, C_impl_halfNarrow s hs, decide_eq_false h, if_neg h]
theorem law_FnExactStepsCount (s : Sy) (hs : LtSy s) : mc.C f_laws_FnExactStepsCount [⟨L V3, s.1⟩, ⟨L TR, s.2⟩] (· = [⟨B, true⟩]) := by
 refine mc.c_of F_laws_FnExactStepsCount ?_
 simp (contextual := true) (maxSteps := 1000000) (disch := omega) only [↓Sd, ↓So, ↓Sk, ↓den, ↓denA, Sa, Sb, Sc, Se, O1.d, O2.d, O3.d, cmI, arI, envOf, putN, ↓reduceIte, Nat.reduceLT, Nat.reduceSub, Nat.reduceAdd, Int.reduceAdd, Int.reduceEq, Int.reduceLT, Int.reduceLE, arr_pos, arr_neg, tr_laws_FnExactStepsCount]
 refine sz_System s _ (by omega) hs fun j h2 h3 => ?_
 simp (contextual := true) (maxSteps := 1000000) (disch := omega) only [↓Sd, ↓So, ↓Sk, ↓den, ↓denA, Sa, Sb, Sc, Se, O1.d, O2.d, O3.d, cmI, arI, envOf, putN, ↓reduceIte, Nat.reduceLT, Nat.reduceSub, Nat.reduceAdd, Int.reduceAdd, Int.reduceEq, Int.reduceLT, Int.reduceLE, arr_pos, arr_neg, ]
 intro h4
 have hs := h3 (by omega)
 simp (contextual := true) (maxSteps := 1000000) (disch := omega) only [↓Sd, ↓So, ↓Sk, ↓den, ↓denA, Sa, Sb, Sc, Se, O1.d, O2.d, O3.d, cmI, arI, envOf, putN, ↓reduceIte, Nat.reduceLT, Nat.reduceSub, Nat.reduceAdd, Int.reduceAdd, Int.reduceEq, Int.reduceLT, Int.reduceLE, arr_pos, arr_neg, to_System s hs, C_spec_StepsCount s hs, C_impl_StepsCount s hs, eq_System s hs]
end Go.Proofs.YtboikipchhgdlaaGreat
