/- A machine over symbols for loaded functions, and that it tells the truth; no condition. -/
import Derived.Test.YthapopegchnhlaaGreatSmLib2
import Derived.WalkKit
import Derived.ProofKit
import Derived.OpenShut
import Derived.ShutString
import Derived.ChangeOld
import Derived.Below
import Derived.SizedLaws
namespace Go.Sm
set_option linter.unusedVariables false
set_option linter.unusedSimpArgs false
theorem eqV_eq {t t' : Ty} {e : E t} {e' : E t'} (h : eqV e e' = true) : (⟨t, e⟩ : AE) = ⟨t', e'⟩ := by
 unfold eqV at h
 split at h
 ·simp only [Bool.and_eq_true, decide_eq_true_eq] at h
  obtain ⟨rfl, rfl⟩ := h
  rfl
 ·cases h
theorem eqVL_eq {t t' : Ty} {e : E t} {e' : E t'} (h : eqVL e e' = true) : (⟨t, e⟩ : AE) = ⟨t', e'⟩ := by
 unfold eqVL at h
 split at h
 ·simp only [Bool.and_eq_true, decide_eq_true_eq] at h
  obtain ⟨rfl, rfl⟩ := h
  rfl
 ·simp only [Bool.and_eq_true, decide_eq_true_eq] at h
  obtain ⟨rfl, rfl⟩ := h
  rfl
 ·simp only [beq_iff_eq] at h
  subst h
  rfl
 ·cases h
theorem eqA_eq {a b : Atom} (h : eqA a b = true) : a = b := by
 unfold eqA at h
 split at h
 ·rfl
 ·rfl
 ·rfl
 ·simp only [Bool.and_eq_true, decide_eq_true_eq] at h
  have := eqVL_eq h.2
  cases this; rfl
 ·simp only [Bool.and_eq_true, decide_eq_true_eq] at h
  obtain ⟨rfl, h⟩ := h
  have := eqV_eq h
  simp at this; rw [this]
 ·simp only [decide_eq_true_eq] at h; rw [h]
 ·simp only [Bool.and_eq_true, decide_eq_true_eq] at h; rw [h.1, h.2]
 ·simp only [Bool.and_eq_true, decide_eq_true_eq] at h
  obtain ⟨⟨⟨⟨rfl, rfl⟩, rfl⟩, h⟩, rfl⟩ := h
  have := eqV_eq h
  simp at this; rw [this]
 ·simp only [Bool.and_eq_true, decide_eq_true_eq] at h
  obtain ⟨⟨⟨⟨⟨rfl, rfl⟩, h1⟩, rfl⟩, h⟩, rfl⟩ := h
  have h2 := eqV_eq h
  have h3 := eqV_eq h1
  simp at h2 h3; rw [h2, h3]
 ·simp only [Bool.and_eq_true, decide_eq_true_eq] at h; rw [h.1, h.2]
 ·simp only [Bool.and_eq_true, decide_eq_true_eq] at h
  obtain ⟨⟨⟨⟨rfl, rfl⟩, rfl⟩, h⟩, rfl⟩ := h
  have := eqV_eq h
  simp at this; rw [this]
 ·simp only [Bool.and_eq_true, decide_eq_true_eq] at h
  obtain ⟨⟨⟨⟨⟨⟨⟨⟨rfl, rfl⟩, rfl⟩, h⟩, rfl⟩, rfl⟩, rfl⟩, h2⟩, rfl⟩ := h
  have h3 := eqV_eq h
  have h4 := eqV_eq h2
  simp at h3 h4; rw [h3, h4]
 ·cases h
theorem eqL_eq {α : Type} {p : α → α → Bool} (hp : ∀ a b, p a b = true → a = b) : ∀ {l m : List α}, eqL p l m = true → l = m
 | [], [], _ => rfl
 | a :: l, b :: m, h => by
  simp only [eqL, Bool.and_eq_true] at h
  rw [hp a b h.1, eqL_eq hp h.2]
 | [], _ :: _, h => by simp [eqL] at h
 | _ :: _, [], h => by simp [eqL] at h
theorem eqSV_eq {a b : SV} (h : eqSV a b = true) : a = b := by
 unfold eqSV at h
 split at h
 ·rw [eqA_eq h]
 ·rw [eqL_eq (fun a b h => eqA_eq h) h]
 ·rw [eqL_eq (fun c d h => ?_) h]
  simp only [Bool.and_eq_true, decide_eq_true_eq] at h
  exact Prod.ext h.1 (eqL_eq (fun a b h => eqA_eq h) h.2)
 ·cases h
theorem eqB_eq {a b : Blk} (h : eqB a b = true) : a = b := by
 unfold eqB at h
 split at h
 ·rw [eqL_eq (fun a b h => eqA_eq h) h]
 ·simp only [Bool.and_eq_true, decide_eq_true_eq] at h
  obtain ⟨⟨rfl, rfl⟩, h⟩ := h
  have := eqV_eq h
  simp at this; rw [this]
 ·simp only [Bool.and_eq_true, decide_eq_true_eq] at h
  obtain ⟨⟨⟨⟨⟨rfl, h⟩, rfl⟩, h2⟩, rfl⟩, h5⟩ := h
  have h3 := eqV_eq h
  have h4 := eqV_eq h2
  simp at h3 h4; rw [h3, h4, eqA_eq h5]
 ·cases h
theorem NS.eq_eq {a b : NS} (h : a.eq b = true) : a = b := by
 cases a; cases b
 simp only [NS.eq, Bool.and_eq_true, decide_eq_true_eq] at h
 obtain ⟨⟨⟨⟨h1, h2⟩, h3⟩, rfl⟩, rfl⟩ := h
 rw [eqL_eq (fun a b h => eqSV_eq h) h1, eqL_eq (fun a b h => eqL_eq (fun a b h => eqSV_eq h) h) h2, eqL_eq (fun a b h => eqB_eq h) h3]
theorem sub_len {a : Atom} {b : Bool} {n : Nat} : ((a.sub b n).es b).length = (a.es b).length := by
 cases a <;> simp only [Atom.sub, Atom.es] <;> try rfl
 rename_i t e
 by_cases hb : (b && isLit e) = true
 ·rw [if_pos hb]
 ·rw [if_neg hb, if_neg hb]
  simp only [isLit, Bool.and_false, Bool.false_eq_true, if_false]
  rfl
theorem subL_len {b : Bool} : ∀ {l : List Atom} {n : Nat}, (esL b (subL b n l)).length = (esL b l).length
 | [], _ => rfl
 | a :: l, n => by simp only [subL, esL, List.length_append, sub_len, subL_len]
theorem subC_len {b : Bool} : ∀ {l : List (Bool × List Atom)} {n : Nat}, (esC b (subC b n l)).length = (esC b l).length
 | [], _ => rfl
 | a :: l, n => by simp only [subC, esC, List.length_append, subL_len, subC_len]
theorem subV_len {b : Bool} {v : SV} {n : Nat} : ((v.sub b n).es b).length = (v.es b).length := by
 cases v <;> simp only [SV.sub, SV.es, sub_len, subL_len, subC_len]
theorem subS_len {b : Bool} : ∀ {l : List SV} {n : Nat}, (esS b (subS b n l)).length = (esS b l).length
 | [], _ => rfl
 | a :: l, n => by simp only [subS, esS, List.length_append, subV_len, subS_len]
theorem subSS_len : ∀ {l : List (List SV)} {n : Nat}, (esSS (subSS n l)).length = (esSS l).length
 | [], _ => rfl
 | a :: l, n => by simp only [subSS, esSS, List.length_append, subS_len, subSS_len]
theorem subBk_len {B : Blk} {n : Nat} : (B.sub n).es.length = B.es.length := by
 cases B <;> simp only [Blk.sub, Blk.es, subL_len, List.length_append, sub_len] <;> rfl
theorem subBs_len : ∀ {l : List Blk} {n : Nat}, (esB (subB n l)).length = (esB l).length
 | [], _ => rfl
 | a :: l, n => by simp only [subB, esB, List.length_append, subBk_len, subBs_len]
theorem norm_len {s : St} {vs : List AE} {n : NS} (hn : norm s = some (vs, n)) : vs.length ≤ n.base := by
 unfold norm at hn
 simp only at hn
 split at hn
 case isFalse => cases hn
 obtain ⟨hl, hb, h1⟩ := Option.map_eq_some_iff.1 hn
 simp only [Prod.mk.injEq] at h1
 obtain ⟨rfl, rfl⟩ := h1
 simp only [NS.base, subS_len, subSS_len, subBs_len, List.length_append]
 omega
section
variable {K : Sem1} {m : Nat}
def Turned (h : Hint) (k : Nat) (T : NS) (d : Nat) (out out' : Out) : Prop :=
 match out with
 | .leaf .normal s r => ∃ vs, meetAt h k s = some (vs, T) ∧ out' = .jump d (vs.map (denA · r))
 | o => out' = o
theorem loopN_turn {h : Hint} {k : Nat} {T : NS} {t : Tr} {d : Nat} (ih : ∀ r out', run K m (t.toJumps h k T (d + 1)) r = some out' → ∃ out, run K m t r = some out ∧ Turned h k T (d + 1) out out') :
  ∀ (n : Nat) (vs : List AV) (out' : Out), loopN (run K m (t.toJumps h k T (d + 1))) n vs = some out' → ∃ out, loopN (run K m t) n vs = some out ∧ Turned h k T d out out'
 | 0, _, _, h => by simp only [loopN] at h; cases h
 | n + 1, vs, out', h => by
  simp only [loopN] at h ⊢
  split at h
  ·rename_i us hr
   obtain ⟨out, h1, h2⟩ := ih _ _ hr
   unfold Turned at h2
   split at h2
   ·obtain ⟨_, _, h3⟩ := h2; cases h3
   ·subst h2; rw [h1]; exact loopN_turn ih n us out' h
  ·rename_i l us hr
   cases h
   obtain ⟨out, h1, h2⟩ := ih _ _ hr
   unfold Turned at h2
   split at h2
   ·rename_i s r
    obtain ⟨ws, h3, h4⟩ := h2
    cases h4
    rw [h1]
    exact ⟨.leaf .normal s r, rfl, ws, h3, rfl⟩
   ·subst h2; rw [h1]; exact ⟨.jump l us, rfl, rfl⟩
  ·rename_i x s r hr
   cases h
   obtain ⟨out, h1, h2⟩ := ih _ _ hr
   unfold Turned at h2
   split at h2
   ·obtain ⟨_, _, h3⟩ := h2; cases h3
   ·rename_i hne
    subst h2
    rw [h1]
    refine ⟨.leaf x s r, rfl, ?_⟩
    unfold Turned
    split
    ·rename_i heq; exact (hne _ _ heq).elim
    ·rfl
  ·rename_i us hr
   cases h
   obtain ⟨out, h1, h2⟩ := ih _ _ hr
   unfold Turned at h2
   split at h2
   ·obtain ⟨_, _, h3⟩ := h2; cases h3
   ·subst h2; rw [h1]; exact ⟨.ret us, rfl, rfl⟩
  ·cases h
theorem toJumps_ok {h : Hint} {k : Nat} {T : NS} : ∀ (t : Tr) (d : Nat) (r : Env) (out' : Out), run K m (t.toJumps h k T d) r = some out' → ∃ out, run K m t r = some out ∧ Turned h k T d out out'
 | .leaf x s, d, r, out', hr => by
  unfold Tr.toJumps at hr
  split at hr
  ·rename_i d s heq
   cases heq
   split at hr
   ·rename_i vs n hm
    split at hr
    ·rename_i hn
     simp only [run] at hr
     cases hr
     exact ⟨_, rfl, vs, by rw [hm, NS.eq_eq hn], rfl⟩
    ·simp only [run] at hr; cases hr
   ·simp only [run] at hr; cases hr
  ·rename_i x s hne heq
   cases heq
   simp only [run] at hr
   cases hr
   refine ⟨.leaf x s r, rfl, ?_⟩
   unfold Turned
   split
   ·rename_i heq; cases heq; exact (hne rfl).elim
   ·rfl
  all_goals (rename_i heq; cases heq)
 | .bad, d, r, out', hr => by simp only [Tr.toJumps, run] at hr; cases hr
 | .ite c a b, d, r, out', hr => by
  simp only [Tr.toJumps, run] at hr ⊢
  split at hr
  ·rename_i hc; simp only [hc, if_true]; exact toJumps_ok a d r out' hr
  ·rename_i hc; simp only [hc, if_false, Bool.false_eq_true]; exact toJumps_ok b d r out' hr
 | .guard c t, d, r, out', hr => by
  simp only [Tr.toJumps, run] at hr ⊢
  split at hr
  ·rename_i hc; simp only [hc, if_true]; exact toJumps_ok t d r out' hr
  ·cases hr
 | .call g ins b t, d, r, out', hr => by
  simp only [Tr.toJumps, run] at hr ⊢
  split at hr
  ·exact toJumps_ok t d _ out' hr
  ·cases hr
 | .jump l vs, d, r, out', hr => by
  simp only [Tr.toJumps, run] at hr ⊢
  cases hr
  exact ⟨_, rfl, rfl⟩
 | .ret vs, d, r, out', hr => by
  simp only [Tr.toJumps, run] at hr ⊢
  cases hr
  exact ⟨_, rfl, rfl⟩
 | .join t u, d, r, out', hr => by
  simp only [Tr.toJumps, run] at hr ⊢
  split at hr
  ·rename_i us hr'
   obtain ⟨out, h1, h2⟩ := toJumps_ok t (d + 1) _ _ hr'
   unfold Turned at h2
   split at h2
   ·obtain ⟨_, _, h3⟩ := h2; cases h3
   ·subst h2; rw [h1]; exact toJumps_ok u d _ _ hr
  ·rename_i l us hr'
   cases hr
   obtain ⟨out, h1, h2⟩ := toJumps_ok t (d + 1) _ _ hr'
   unfold Turned at h2
   split at h2
   ·rename_i s r
    obtain ⟨ws, h3, h4⟩ := h2
    cases h4
    rw [h1]
    exact ⟨.leaf .normal s r, rfl, ws, h3, rfl⟩
   ·subst h2; rw [h1]; exact ⟨.jump l us, rfl, rfl⟩
  ·rename_i x s r hr'
   cases hr
   obtain ⟨out, h1, h2⟩ := toJumps_ok t (d + 1) _ _ hr'
   unfold Turned at h2
   split at h2
   ·obtain ⟨_, _, h3⟩ := h2; cases h3
   ·rename_i hne
    subst h2
    rw [h1]
    refine ⟨.leaf x s r, rfl, ?_⟩
    unfold Turned
    split
    ·rename_i heq; exact (hne _ _ heq).elim
    ·rfl
  ·rename_i us hr'
   cases hr
   obtain ⟨out, h1, h2⟩ := toJumps_ok t (d + 1) _ _ hr'
   unfold Turned at h2
   split at h2
   ·obtain ⟨_, _, h3⟩ := h2; cases h3
   ·subst h2; rw [h1]; exact ⟨.ret us, rfl, rfl⟩
  ·cases hr
 | .loop i b, d, r, out', hr => by
  simp only [Tr.toJumps, run] at hr ⊢
  exact loopN_turn (fun r out' h => toJumps_ok b (d + 1) r out' h) m _ out' hr
end
end Go.Sm
namespace Go.Sm
set_option linter.unusedVariables false
set_option linter.unusedSimpArgs false
def Rel (l : List (Nat × Nat × Nat)) (r r' : Env) : Prop := ∀ i j, alV l i j = true → r i = r' j
theorem rel_nil (r : Env) : Rel [] r r := fun i j h => by
 simp only [alV, decide_eq_true_eq] at h
 rw [h]
theorem rel_eq {r r' : Env} (h : Rel [] r r') : r = r' := funext fun i => h i i (by simp [alV])
theorem rel_put {l : List (Nat × Nat × Nat)} {r r' : Env} (h : Rel l r r') {a b : Nat} {vs : List AV} : Rel ((a, b, vs.length) :: l) (putN r a vs) (putN r' b vs) := by
 intro i j hij
 simp only [alV] at hij
 by_cases h1 : a ≤ i ∧ i < a + vs.length
 ·rw [if_pos h1] at hij
  simp only [decide_eq_true_eq] at hij
  subst hij
  simp only [putN]
  rw [if_neg (by omega), if_pos (by omega), if_neg (by omega), if_pos (by omega)]
  congr 1
  omega
 ·rw [if_neg h1] at hij
  by_cases h2 : b ≤ j ∧ j < b + vs.length
  ·rw [if_pos h2] at hij; cases hij
  ·rw [if_neg h2] at hij
   have := h i j hij
   simp only [putN]
   have e1 : (if i < a then r i else if i - a < vs.length then vs.getD (i - a) dflt else r i) = r i := by
    by_cases h3 : i < a
    ·rw [if_pos h3]
    ·rw [if_neg h3, if_neg (by omega)]
   have e2 : (if j < b then r' j else if j - b < vs.length then vs.getD (j - b) dflt else r' j) = r' j := by
    by_cases h3 : j < b
    ·rw [if_pos h3]
    ·rw [if_neg h3, if_neg (by omega)]
   rw [e1, e2, this]
theorem alO2_den {a b c a' b' c' : Ty} (o : O2 a b c) (p : O2 a' b' c') (h : alO2 o p = true) (x : a.D) (y : a'.D) (hxy : (⟨a, x⟩ : AV) = ⟨a', y⟩) (u : b.D) (v : b'.D) (huv : (⟨b, u⟩ : AV) = ⟨b', v⟩) :
  (⟨c, o.d x u⟩ : AV) = ⟨c', p.d y v⟩ := by
 by_cases h0 : eqO2 o p = true
 ·exact eqO2_den o p h0 x y hxy u v huv
 cases o <;> cases p <;> simp only [alO2, h0, Bool.and_eq_true, decide_eq_true_eq, Bool.false_eq_true] at h <;>
  first
  | exact h.elim
  | (subst h; cases hxy; cases huv; rfl)
  | (obtain ⟨rfl, rfl⟩ := h; cases hxy; cases huv; rfl)
  | (obtain ⟨⟨rfl, rfl⟩, rfl⟩ := h; cases hxy; cases huv; rfl)
  | (cases hxy; cases huv; rfl)
theorem alO3_den {a b c d a' b' c' d' : Ty} (o : O3 a b c d) (p : O3 a' b' c' d') (h : alO3 o p = true) (x : a.D) (y : a'.D) (hxy : (⟨a, x⟩ : AV) = ⟨a', y⟩) (u : b.D) (v : b'.D) (huv : (⟨b, u⟩ : AV) = ⟨b', v⟩)
  (e : c.D) (f : c'.D) (hef : (⟨c, e⟩ : AV) = ⟨c', f⟩) : (⟨d, o.d x u e⟩ : AV) = ⟨d', p.d y v f⟩ := by
 cases o <;> cases p <;> simp only [alO3, Bool.and_eq_true, decide_eq_true_eq, Bool.false_eq_true] at h <;>
  first
  | (subst h; cases hxy; cases huv; cases hef; rfl)
  | (obtain ⟨rfl, rfl⟩ := h; cases hxy; cases huv; cases hef; rfl)
section
variable {l : List (Nat × Nat × Nat)} {r r' : Env}
theorem alE_den (hr : Rel l r r') : ∀ {t t' : Ty} (x : E t) (y : E t'), alE l x y = true → (⟨t, den x r⟩ : AV) = ⟨t', den y r'⟩ := by
 intro t t' x
 induction x generalizing t' with
 | var t i =>
  intro y h
  cases y <;> simp only [alE, Bool.and_eq_true, decide_eq_true_eq, Bool.false_eq_true] at h
  obtain ⟨rfl, h⟩ := h
  simp only [den, hr _ _ h]
 | int k n => intro y h; cases y <;> simp only [alE, Bool.and_eq_true, decide_eq_true_eq, Bool.false_eq_true] at h; obtain ⟨rfl, rfl⟩ := h; rfl
 | bool b => intro y h; cases y <;> simp only [alE, beq_iff_eq, Bool.false_eq_true] at h; subst h; rfl
 | str b => intro y h; cases y <;> simp only [alE, decide_eq_true_eq, Bool.false_eq_true] at h; subst h; rfl
 | nil c e => intro y h; cases y <;> simp only [alE, Bool.and_eq_true, decide_eq_true_eq, Bool.false_eq_true] at h; obtain ⟨rfl, rfl⟩ := h; rfl
 | z t => intro y h; cases y <;> simp only [alE, decide_eq_true_eq, Bool.false_eq_true] at h; subst h; rfl
 | o1 o x ih =>
  intro y h
  cases y <;> simp only [alE, Bool.and_eq_true, Bool.false_eq_true] at h
  exact eqO1_den o _ h.1 _ _ (ih _ h.2)
 | o2 o x y ihx ihy =>
  intro z h
  cases z <;> simp only [alE, Bool.and_eq_true, Bool.false_eq_true] at h
  exact alO2_den o _ h.1.1 _ _ (ihx _ h.1.2) _ _ (ihy _ h.2)
 | o3 o x y z ihx ihy ihz =>
  intro u h
  cases u <;> simp only [alE, Bool.and_eq_true, Bool.false_eq_true] at h
  exact alO3_den o _ h.1.1.1 _ _ (ihx _ h.1.1.2) _ _ (ihy _ h.1.2) _ _ (ihz _ h.2)
theorem set_swap {α : Type} (l : List α) (i j : Nat) (u : α) : (l.set i u).set j u = (l.set j u).set i u := by
 by_cases h : i = j
 ·rw [h]
 ·exact List.set_comm u u h
theorem asSet_den {a : Ty} {e : E a} {p : SetV} (h : asSet e = some p) (r : Env) : (⟨a, den e r⟩ : AV) = ⟨.sl false p.t, List.set (α := p.t.D) (den p.x r) (Int.toNat (den p.i r)) (den p.u r)⟩ := by
 unfold asSet at h
 split at h
 case h_2 => cases h
 cases h
 rfl
theorem asSet_ty {t : Ty} {e : E (.sl false t)} {p : SetV} (h : asSet e = some p) : p.t = t := by
 have := congrArg Sigma.fst (asSet_den h (fun _ => dflt))
 simp at this
 exact this.symm
theorem swapE_den (hr : Rel l r r') {t t' : Ty} (x : E t) (y : E t') (h : swapE l x y = true) : (⟨t, den x r⟩ : AV) = ⟨t', den y r'⟩ := by
 unfold swapE at h
 split at h
 case h_2 => cases h
 rename_i p q hp hq
 split at h
 case h_2 => cases h
 rename_i p' q' hp' hq'
 simp only [Bool.and_eq_true, decide_eq_true_eq] at h
 obtain ⟨⟨⟨⟨⟨⟨h0, hx⟩, hi⟩, hj⟩, h1⟩, h2⟩, h3⟩ := h
 rw [asSet_den hp r, asSet_den hq r']
 have f1 := asSet_den hp' r
 have f2 := asSet_den hq' r'
 have t1 := asSet_ty hp'
 have t2 := asSet_ty hq'
 clear hp hq hp' hq'
 obtain ⟨tp, kp, xp, ip, up⟩ := p
 obtain ⟨tq, kq, xq, iq, uq⟩ := q
 obtain ⟨tp', kp', xp', ip', up'⟩ := p'
 obtain ⟨tq', kq', xq', iq', uq'⟩ := q'
 simp only at h0 hx hi hj h1 h2 h3 f1 f2 t1 t2 ⊢
 subst h0; subst t1; subst t2
 have ex := alE_den hr _ _ hx
 have e1 := alE_den hr _ _ h1
 have e2 := alE_den hr _ _ h2
 have e3 := alE_den hr _ _ h3
 have nI : ∀ {k k' : IntKind} {x : Int} {y : Int}, ((⟨.int k, x⟩ : AV) = ⟨.int k', y⟩) → x = y := by
  intro k k' x y hxy; cases hxy; rfl
 have ei := congrArg Int.toNat (nI (alE_den hr _ _ hi))
 have ej := congrArg Int.toNat (nI (alE_den hr _ _ hj))
 simp only [Sigma.mk.injEq, heq_eq_eq, true_and] at ex e1 e2 e3 f1 f2 ⊢
 rw [f1, f2, ex, ei, ej, e2, e3, ← e1, e3]
 exact set_swap _ _ _ _
theorem alA_den (hr : Rel l r r') {a b : AE} (h : alA l a b = true) : denA a r = denA b r' := by
 simp only [alA, Bool.or_eq_true] at h
 rcases h with h | h
 ·exact alE_den hr _ _ h
 ·exact swapE_den hr _ _ h
theorem alAs_den (hr : Rel l r r') : ∀ {as bs : List AE}, eqL (alA l) as bs = true → as.map (denA · r) = bs.map (denA · r')
 | [], [], _ => rfl
 | a :: as, b :: bs, h => by
  simp only [eqL, Bool.and_eq_true] at h
  simp only [List.map_cons, alA_den hr h.1, alAs_den hr h.2]
 | [], _ :: _, h => by simp [eqL] at h
 | _ :: _, [], h => by simp [eqL] at h
end
def OR : Out → Out → Prop
 | .leaf x _ r, .leaf x' _ r' => x = x' ∧ r = r'
 | .jump l us, .jump l' us' => l = l' ∧ us = us'
 | .ret us, .ret us' => us = us'
 | _, _ => False
theorem loopN_al {f f' : Env → Option Out} (h : ∀ r out, f r = some out → ∃ out', f' r = some out' ∧ OR out out') : ∀ (n : Nat) (vs : List AV) (out : Out), loopN f n vs = some out → ∃ out', loopN f' n vs = some out' ∧ OR out out'
 | 0, _, _, hl => by simp only [loopN] at hl; cases hl
 | n + 1, vs, out, hl => by
  simp only [loopN] at hl ⊢
  split at hl
  ·rename_i us hr
   obtain ⟨o, h1, h2⟩ := h _ _ hr
   cases o <;> simp only [OR] at h2
   obtain ⟨rfl, rfl⟩ := h2
   rw [h1]
   exact loopN_al h n us out hl
  ·rename_i k us hr
   cases hl
   obtain ⟨o, h1, h2⟩ := h _ _ hr
   cases o <;> simp only [OR] at h2
   obtain ⟨rfl, rfl⟩ := h2
   rw [h1]
   exact ⟨_, rfl, rfl, rfl⟩
  ·rename_i x s r hr
   cases hl
   obtain ⟨o, h1, h2⟩ := h _ _ hr
   cases o <;> simp only [OR] at h2
   obtain ⟨rfl, rfl⟩ := h2
   rw [h1]
   exact ⟨_, rfl, rfl, rfl⟩
  ·rename_i us hr
   cases hl
   obtain ⟨o, h1, h2⟩ := h _ _ hr
   cases o <;> simp only [OR] at h2
   subst h2
   rw [h1]
   exact ⟨_, rfl, rfl⟩
  ·cases hl
theorem noV_den {b : Nat} {vs : List AV} {r : Env} : ∀ {t : Ty} (e : E t), e.noV b vs.length = true → den e (putN r b vs) = den e r := by
 intro t e
 induction e with
 | var t i =>
  intro h
  simp only [E.noV, Bool.not_eq_true', Bool.and_eq_false_iff, decide_eq_false_iff_not] at h
  simp only [den, putN]
  by_cases h1 : i < b
  ·rw [if_pos h1]
  ·rw [if_neg h1, if_neg (by omega)]
 | o1 o x ih => intro h; simp only [den, ih h]
 | o2 o x y ihx ihy => intro h; simp only [E.noV, Bool.and_eq_true] at h; simp only [den, ihx h.1, ihy h.2]
 | o3 o x y z ihx ihy ihz => intro h; simp only [E.noV, Bool.and_eq_true] at h; simp only [den, ihx h.1.1, ihy h.1.2, ihz h.2]
 | _ => intro _; simp only [den]
theorem spineG_ok {c : Cx} {K : Sem1} {m : Nat} (hlen : LenOK c K) : ∀ (t : Tr) (r : Env) (out : Out), run K m t r = some out → ∀ e ∈ spineG c t, den e r = true := by
 intro t
 induction t with
 | guard c1 t ih =>
  intro r out h e he
  simp only [run] at h
  split at h
  ·rename_i hc
   rcases List.mem_cons.1 he with rfl | he
   ·exact hc
   ·exact ih r out h e he
  ·cases h
 | call f ins b t ih =>
  intro r out h e he
  simp only [run] at h
  split at h
  case h_2 => cases h
  rename_i vs hv
  simp only [spineG] at he
  split at he
  ·rename_i g hg
   obtain ⟨h1, h2⟩ := List.mem_filter.1 he
   rw [← hlen f g _ _ hg hv] at h2
   rw [← noV_den e h2 (r := r)]
   exact ih _ out h e h1
  ·cases he
 | _ => intro r out h e he; cases he
theorem stripG_ok {K : Sem1} {m : Nat} {l : List (Nat × Nat × Nat)} {r r' : Env} (hr : Rel l r r') {gs : List (E .bool)} (hg : ∀ e ∈ gs, den e r = true) : ∀ (t' : Tr), run K m t' r' = run K m (stripG l gs t') r' := by
 intro t'
 induction t' with
 | guard e t ih =>
  simp only [stripG]
  cases hc : gs.any fun g => alE l g e
  ·rfl
  ·obtain ⟨g, h1, h2⟩ := List.any_eq_true.1 hc
   have h3 := alE_den hr _ _ h2
   simp only [Sigma.mk.injEq, heq_eq_eq, true_and] at h3
   simp only [cond_true, run]
   rw [← h3, hg g h1, if_pos rfl]
   exact ih
 | _ => rfl
theorem alT_ok {c : Cx} {K : Sem1} {m : Nat} (hlen : LenOK c K) : ∀ (t t' : Tr) (l : List (Nat × Nat × Nat)) (gs : List (E .bool)) (r r' : Env) (out : Out), alT c l gs t t' = true → Rel l r r' → (∀ e ∈ gs, den e r = true) → run K m t r = some out → ∃ out', run K m t' r' = some out' ∧ OR out out' := by
 intro t
 induction t with
 | leaf x s =>
  intro t' l gs r r' out h hr hgs hrun
  simp only [alT] at h
  rw [stripG_ok hr hgs t']
  split at h
  case h_2 => cases h
  rename_i x' s' he
  rw [he]
  simp only [Bool.and_eq_true, List.isEmpty_iff, decide_eq_true_eq] at h
  obtain ⟨rfl, rfl⟩ := h
  simp only [run] at hrun ⊢
  cases hrun
  exact ⟨_, rfl, rfl, rel_eq hr⟩
 | bad => intro t' l gs r r' out h hr hgs hrun; simp only [run] at hrun; cases hrun
 | ite c1 a b iha ihb =>
  intro t' l gs r r' out h hr hgs hrun
  simp only [alT] at h
  rw [stripG_ok hr hgs t']
  split at h
  case h_2 => cases h
  rename_i c2 a' b' he
  rw [he]
  simp only [Bool.and_eq_true] at h
  obtain ⟨⟨h1, h2⟩, h3⟩ := h
  have hc := alE_den hr _ _ h1
  simp only [Sigma.mk.injEq, heq_eq_eq, true_and] at hc
  simp only [run] at hrun ⊢
  rw [← hc]
  split at hrun
  ·rename_i hh; simp only [hh, if_true]; exact iha _ _ _ _ _ _ h2 hr hgs hrun
  ·rename_i hh; simp only [hh, if_false, Bool.false_eq_true]; exact ihb _ _ _ _ _ _ h3 hr hgs hrun
 | guard c1 t ih =>
  intro t' l gs r r' out h hr hgs hrun
  simp only [alT] at h
  simp only [run] at hrun
  split at hrun
  ·rename_i hh
   refine ih _ _ _ _ _ _ h hr (fun e he => ?_) hrun
   rcases List.mem_cons.1 he with rfl | he
   ·exact hh
   ·exact hgs e he
  ·cases hrun
 | call f ins b t ih =>
  intro t' l gs r r' out h hr hgs hrun
  simp only [alT] at h
  split at h
  case h_2 => cases h
  rename_i g hg
  have hsp := spineG_ok hlen (.call f ins b t) r out hrun
  simp only [spineG, hg] at hsp
  rw [stripG_ok hr (gs := gs ++ (spineG c t).filter fun e => e.noV b g.outs) (fun e he => by
   rcases List.mem_append.1 he with he | he
   ·exact hgs e he
   ·exact hsp e he) t']
  split at h
  case h_2 => cases h
  rename_i f' ins' b' t'' he
  rw [he]
  simp only [Bool.and_eq_true, decide_eq_true_eq] at h
  obtain ⟨⟨rfl, h2⟩, h3⟩ := h
  simp only [run] at hrun ⊢
  rw [← alAs_den hr h2]
  split at hrun
  case h_2 => cases hrun
  rename_i vs hv
  rw [← hlen f g _ _ hg hv] at h3
  refine ih _ _ _ _ _ _ h3 (rel_put hr) (fun e he => ?_) hrun
  obtain ⟨h4, h5⟩ := List.mem_filter.1 he
  rw [noV_den e h5]
  exact hgs e h4
 | jump n vs =>
  intro t' l gs r r' out h hr hgs hrun
  simp only [alT] at h
  rw [stripG_ok hr hgs t']
  split at h
  case h_2 => cases h
  rename_i n' vs' he
  rw [he]
  simp only [Bool.and_eq_true, decide_eq_true_eq] at h
  obtain ⟨rfl, h2⟩ := h
  simp only [run] at hrun ⊢
  cases hrun
  exact ⟨_, rfl, rfl, alAs_den hr h2⟩
 | ret vs =>
  intro t' l gs r r' out h hr hgs hrun
  simp only [alT] at h
  rw [stripG_ok hr hgs t']
  split at h
  case h_2 => cases h
  rename_i vs' he
  rw [he]
  simp only [run] at hrun ⊢
  cases hrun
  exact ⟨_, rfl, alAs_den hr h⟩
 | join t k iht ihk =>
  intro t' l gs r r' out h hr hgs hrun
  simp only [alT] at h
  rw [stripG_ok hr hgs t']
  split at h
  case h_2 => cases h
  rename_i t'' k' he
  rw [he]
  simp only [Bool.and_eq_true] at h
  simp only [run] at hrun ⊢
  split at hrun
  ·rename_i us hh
   obtain ⟨o, h1, h2⟩ := iht _ _ _ _ _ _ h.1 hr hgs hh
   cases o <;> simp only [OR] at h2
   obtain ⟨rfl, rfl⟩ := h2
   rw [h1]
   exact ihk _ _ _ _ _ _ h.2 (rel_nil _) (fun e he => by cases he) hrun
  ·rename_i n us hh
   cases hrun
   obtain ⟨o, h1, h2⟩ := iht _ _ _ _ _ _ h.1 hr hgs hh
   cases o <;> simp only [OR] at h2
   obtain ⟨rfl, rfl⟩ := h2
   rw [h1]
   exact ⟨_, rfl, rfl, rfl⟩
  ·rename_i x s r1 hh
   cases hrun
   obtain ⟨o, h1, h2⟩ := iht _ _ _ _ _ _ h.1 hr hgs hh
   cases o <;> simp only [OR] at h2
   obtain ⟨rfl, rfl⟩ := h2
   rw [h1]
   exact ⟨_, rfl, rfl, rfl⟩
  ·rename_i us hh
   cases hrun
   obtain ⟨o, h1, h2⟩ := iht _ _ _ _ _ _ h.1 hr hgs hh
   cases o <;> simp only [OR] at h2
   subst h2
   rw [h1]
   exact ⟨_, rfl, rfl⟩
  ·cases hrun
 | loop i b ih =>
  intro t' l gs r r' out h hr hgs hrun
  simp only [alT] at h
  rw [stripG_ok hr hgs t']
  split at h
  case h_2 => cases h
  rename_i i' b' he
  rw [he]
  simp only [Bool.and_eq_true] at h
  simp only [run] at hrun ⊢
  rw [← alAs_den hr h.1]
  exact loopN_al (fun r out hh => ih _ _ _ _ _ _ h.2 (rel_nil r) (fun e he => by cases he) hh) m _ out hrun
section
variable {c : Cx} {K : Sem1} {m : Nat} {inl : Inl} {fn : FuncId} {rid : Nat} {ops : Array Oper} {bd : Bd} {st : List (Array Value)}
theorem meetOut_ok {N : Nat → Prop} {s : St} {r : Env} {g : Nat → G} {tm : Array Value} {w : World} (h : R bd N s r g tm st w) {hi : Hint} {k : Nat} {vs : List AE} {T : NS} (hm : meetOut hi k s = some (vs, T)) : ∃ g', R bd (· < T.base) (T.toSt T.base) (envOf (vs.map (denA · r))) g' tm st w := by
 obtain ⟨g2, h2⟩ := norm_ok (h.keep (hi.liveOut k)) hm T.base
 exact ⟨g2, h2.mono fun i hi => Nat.lt_of_lt_of_le hi (norm_len hm)⟩
theorem formAt_get {n : NS} : ∀ {l : List NS} {i : Nat}, formAt n l = some i → l[i]? = some n
 | [], i, h => by simp [formAt] at h
 | T :: l, i, h => by
  unfold formAt at h
  split at h
  ·rename_i hT
   have := NS.eq_eq hT
   subst this
   cases h
   rfl
  ·obtain ⟨j, hj, rfl⟩ := Option.map_eq_some_iff.1 h
   simpa using formAt_get hj
theorem anyEnd_leafy {h : Hint} {Ts : List NS} (s : St) : Leafy K m (anyEnd h rid Ts s) := by
 unfold anyEnd
 split
 ·split
  ·intro r out hr
   simp only [run] at hr
   cases hr
   exact ⟨_, _, _, rfl⟩
  ·exact Leafy.bad
 ·exact Leafy.bad
theorem anyOps_closed (hcl : InlCl K m inl) {t : List (List Nat)} {all : Bool} {k : St → Tr} (hk : ∀ s', Leafy K m (k s')) : ∀ (n i : Nat) (listed : Array Bool) (s : St), Leafy K m (anyOps c fn rid inl ops t all k n i listed s)
 | 0, i, listed, s => by
  unfold anyOps
  split
  ·exact hk s
  ·exact Leafy.bad
 | n + 1, i, listed, s => by
  have ih := fun i listed s => anyOps_closed hcl (t := t) (all := all) hk n i listed s
  unfold anyOps
  split
  ·split
   ·exact symStep_closed hcl (fun s' => ih _ _ s') s
   ·exact Leafy.bad
  ·split
   ·exact Leafy.bad
   ·split
    ·split
     ·exact symStep_closed hcl (fun s' => ih _ _ s') s
     ·exact Leafy.bad
    ·exact Leafy.bad
theorem anyOps_ok (hcall : CallOK c K) (hinl : InlOK c K m inl) (hcl : InlCl K m inl) {h : Hint} {Ts : List NS} {ix : Nat} {T : NS} (hTs : Ts[ix]? = some T) {re : Env} {Q : Exit → Act → World → Prop} (hQp : ∀ ch a w, ¬ Q (.panic ch) a w) {df : List Deferred}
  (hQ : ∀ (a' : Act) (w' : World), a'.defers = df → (∃ g', R bd (· < T.base) (T.toSt T.base) re g' a'.tmps st w') → Q .normal a' w')
  (hsel : Region.noSelect ops = true) {t : List (List Nat)} (ht : ancOk ops t = true) :
  ∀ (n i : Nat) (listed : Array Bool) (a : Act) (w : World) (out : Out), (∃ S, out = .leaf (.exit ix) S re) → ClosedL ops listed →
   Nx K m bd st df i (anyOps c fn rid inl ops t true (anyEnd h rid Ts) n i listed) out a w → wpAnyE c.P ops Q (fun j => match ops[j]? with | some oj => lateB c oj | none => false) n listed a w
 | 0, i, listed, a, w, out, hout, hc, hx => by
  obtain ⟨hdf, s, r, g, hR, hrun⟩ := hx
  unfold anyOps at hrun
  split at hrun
  case isFalse => simp only [run] at hrun; cases hrun
  rename_i he
  refine ⟨by simpa using he, hQ a w hdf ?_⟩
  unfold anyEnd at hrun
  split at hrun
  case h_2 => simp only [run] at hrun; cases hrun
  rename_i vs n' hm
  split at hrun
  case h_2 => simp only [run] at hrun; cases hrun
  rename_i i' hT
  have hT := formAt_get hT
  simp only [run] at hrun
  cases hrun
  obtain ⟨S, hh⟩ := hout
  cases hh
  rw [hTs] at hT
  cases hT
  exact meetOut_ok hR hm
 | n + 1, i, listed, a, w, out, hout, hc, hx => by
  obtain ⟨hdf, s, r, g, hR, hrun⟩ := hx
  have step : ∀ (j : Nat) (o : Oper) (out : Out), (∃ S, out = .leaf (.exit ix) S re) → j ∈ Region.ready .any ops listed → run K m (symStep c fn rid inl ops i o (restOf ops (listed.setIfInBounds j true)) (anyOps c fn rid inl ops t true (anyEnd h rid Ts) n (i + 1) (listed.setIfInBounds j true)) s) r = some out →
    StepP c ops a o w fun a' w' => wpAnyE c.P ops Q (fun j => match ops[j]? with | some oj => lateB c oj | none => false) n (listed.setIfInBounds j true) a' w' := by
   intro j o out hout hmem hrun
   have hs := symStep_ok hcall hinl (fun s' => anyOps_closed hcl anyEnd_leafy n (i + 1) (listed.setIfInBounds j true) s') hR hrun
   rw [hdf] at hs
   have ih := fun a' w' h' => anyOps_ok (h := h) hcall hinl hcl hTs hQp hQ hsel ht n (i + 1) _ a' w' out hout (hc.set hmem) h'
   rcases hs with ⟨hw, hk⟩ | ⟨hw, hd⟩
   ·exact .inl ⟨hw, ih _ _ hk⟩
   ·exact .inr ⟨hw, hd.mono fun v w' hk => ih _ _ hk⟩
  unfold anyOps at hrun
  split at hrun
  ·rename_i j hfind
   have hj := List.find?_some hfind
   have hmem := List.mem_of_find?_eq_some hfind
   split at hrun
   case h_2 => simp only [run] at hrun; cases hrun
   rename_i o hoj
   rw [hoj] at hj
   simp only [Bool.and_eq_true] at hj
   obtain ⟨hpk, hj⟩ := hj
   obtain ⟨ld, hld⟩ := Option.isSome_iff_exists.1 hpk
   have hs := step j o out hout hmem hrun
   unfold takeOk at hj
   rw [hld] at hj
   simp only [Bool.and_eq_true, Bool.or_eq_true, Bool.not_eq_true'] at hj
   obtain ⟨hfree, hlate⟩ := hj
   have hlate' : ld = true → ∀ listed', ClosedL ops listed' → (∀ k, listed.getD k true = true → listed'.getD k true = true) → listed'.getD j true = false → ∀ x ∈ Region.ready .any ops listed', (match ops[x]? with | some oj => lateB c oj | none => false) = false := by
    intro hl listed' hc' hsub hun x hx
    rcases hlate with hlate | hlate
    ·rw [hl] at hlate; cases hlate
    obtain ⟨hxun, ox, hox, hxall⟩ := mem_ready.1 hx
    have hxs : x < ops.size := (Array.getElem?_eq_some_iff.1 hox).1
    simp only [List.all_eq_true, List.mem_range, Bool.or_eq_true] at hlate
    have h0 := hlate x hxs
    simp only [hox] at h0 ⊢
    rcases h0 with h1 | h1
    ·rw [hsub x h1] at hxun; cases hxun
    ·rcases Bool.or_eq_true .. ▸ h1 with h1 | h1
     ·simpa using h1
     ·have := anc_listed ht hc' (x + 1) x (by omega) hxs (fun oj hoj e he hb => by rw [hox] at hoj; cases hoj; exact hxall e he hb) j (by simpa using h1)
      rw [getD_false_of_true hun] at this; cases this
   rcases hs with ⟨hw, hk⟩ | ⟨hw, hp, -⟩
   ·exact wpAnyE_first hoj (Region.noSelect_spec hsel) hQp n listed a w (Region.free_spec hoj hfree) hc hlate' hmem (.inr ⟨hw, rfl⟩) hk
   ·obtain ⟨v, h1, h2⟩ := hp ld hld
    exact wpAnyE_first hoj (Region.noSelect_spec hsel) hQp n listed a w (Region.free_spec hoj hfree) hc hlate' hmem (.inl ⟨hw, h1⟩) h2
  ·split at hrun
   ·simp only [run] at hrun; cases hrun
   ·rename_i j js hrd
    split at hrun
    case h_2 => simp only [run] at hrun; cases hrun
    rename_i o hoj
    split at hrun
    case isFalse => simp only [run] at hrun; cases hrun
    rename_i hall
    simp only [Bool.not_true, Bool.false_or, List.all_eq_true] at hall
    have one : ∀ (j : Nat) (o : Oper) (out : Out), ops[j]? = some o → (∃ S, out = .leaf (.exit ix) S re) → j ∈ Region.ready .any ops listed → run K m (symStep c fn rid inl ops i o (restOf ops (listed.setIfInBounds j true)) (anyOps c fn rid inl ops t true (anyEnd h rid Ts) n (i + 1) (listed.setIfInBounds j true)) s) r = some out →
      wpOp c.P ops Q j (fun a' w' => ((match ops[j]? with | some oj => lateB c oj | none => false) = false → Ext w w') ∧ wpAnyE c.P ops Q (fun j => match ops[j]? with | some oj => lateB c oj | none => false) n (listed.setIfInBounds j true) a' w') a w := by
     intro j o out hoj hout hmem hrun
     unfold wpOp
     simp only [hoj]
     rcases step j o out hout hmem hrun with ⟨hw, hk⟩ | ⟨hw, hp, hd⟩
     ·simp only [hw, Bool.false_eq_true, if_false]
      exact ⟨fun _ => Ext.refl w, hk⟩
     ·simp only [hw, if_true]
      cases hpk : pureKind o.op with
      | some ld =>
       obtain ⟨v, h1, h2⟩ := hp ld hpk
       exact .inl (Done.upon (.val v w (.inl (h1 w fun _ => Ext.refl w)) ⟨fun _ => Ext.refl w, h2⟩))
      | none =>
       refine .inl (Done.upon (hd.mono ?_))
       rintro a' w' ⟨hf, v, rfl, hk⟩
       refine ⟨fun hl => hf ?_, hk⟩
       simp only [lateB, hpk, Option.isNone_none, Bool.true_and, Bool.not_eq_false'] at hl
       exact hl
    refine ⟨fun h0 => absurd (hrd ▸ h0) (by simp), fun j' hj' => ?_⟩
    have hj1 : j' = j ∨ j' ∈ js := by rw [hrd] at hj'; simpa using hj'
    rcases hj1 with rfl | hj1
    ·exact one j' o out hoj hout hj' hrun
    ·have h2 := hall j' hj1
     cases ho' : ops[j']? with
     | none => rw [ho'] at h2; cases h2
     | some o' =>
      rw [ho'] at h2
      simp only at h2
      obtain ⟨out', h3, h4⟩ := alT_ok hcall.1.2 _ _ _ _ _ _ _ h2 (rel_nil r) (fun e he => by cases he) hrun
      obtain ⟨S, rfl⟩ := hout
      cases out' <;> simp only [OR] at h4
      obtain ⟨rfl, rfl⟩ := h4
      exact one j' o' _ ho' ⟨_, rfl⟩ hj' h3
theorem anyRegion_leafy (hcl : InlCl K m inl) (s : St) : Leafy K m (anyRegion c fn inl rid ops s) := by
 unfold anyRegion
 split
 ·refine Leafy.bind (anyOps_closed hcl (fun s => anyEnd_leafy s) _ _ _ _) fun x _ => ?_
  split
  ·split
   ·exact Leafy.leaf _ _
   ·exact Leafy.bad
  ·exact Leafy.bad
 ·exact Leafy.bad
end
end Go.Sm
namespace Go.Sm
set_option linter.unusedVariables false
set_option linter.unusedSimpArgs false
section
variable {P : Program} {bd : Bd} {N : Nat → Prop} {s : St} {r : Env} {g : Nat → G} {tm : Array Value} {st : List (Array Value)} {w : World}
theorem R.same (h : R bd N s r g tm st w) {w' : World} (hh : ∀ b : Nat, w'.heap[b]? = w.heap[b]?) (hsz : w'.heap.size = w.heap.size) (hos : w'.os = w.os) (htp : w'.tape = w.tape) (hout : w'.output = w.output) : R bd N s r g tm st w' := by
 have hk : Kept w (Mt bd.Z s.heap g) w' (Mt bd.Z s.heap g) := ⟨fun b _ _ => hh b, fun _ _ h => h⟩
 have ha : ∀ a v, a.ok N s.heap → ARep w (Mt bd.Z s.heap g) g r a v → ARep w' (Mt bd.Z s.heap g) g r a v := fun a v ha hv => ARep.keep hk (fun _ _ => rfl) ha.vs (fun _ _ => ⟨rfl, rfl⟩) (fun _ _ _ => ⟨rfl, fun _ _ _ _ _ => hh _⟩) hv
 have h1 := h.step (g' := g) (w' := w') (N' := N) (r' := r) id s.heap s.base ha (fun a ha => ha) (fun i B hB => ?_) h.inj h.nodup h.own (fun i B hB b hb => by rw [hsz]; exact h.lt i B hB b hb)
  ⟨hos.trans h.world.os, htp.trans h.world.tape, hout.trans h.world.output, by rw [hsz]; exact h.world.size, fun k hk hM => (hh k).trans (h.world.heap k hk hM), h.world.zone⟩ (fun c hc => (cell_congr (hh _) _).trans (h.kept c hc)) (fun _ _ => ⟨rfl, rfl⟩) (fun c hc => (h.kpl c hc).2) h.nheap
 ·have e1 : s.cur.map (SV.map id) = s.cur := by rw [List.map_congr_left (fun v _ => SV.map_id id (fun _ => rfl) v)]; simp
  have e2 : s.stk.map (List.map (SV.map id)) = s.stk := by
   rw [List.map_congr_left (g := fun l => l) (fun l _ => by rw [List.map_congr_left (fun v _ => SV.map_id id (fun _ => rfl) v)]; simp)]; simp
  rw [e1, e2] at h1
  exact h1
 ·have := (h.heap i B hB).keep (f := id) (h0 := s.heap) hk (fun _ _ => rfl) ha (h.nheap i B hB) rfl (fun b _ => hh b)
  rwa [Blk.map_id id (fun _ => rfl)] at this
theorem meet_ok (h : R bd N s r g tm st w) {hi : Hint} {k : Nat} {vs : List AE} {T : NS} (hm : meetAt hi k s = some (vs, T)) : ∃ g', R bd (· < T.base) (T.toSt T.base) (envOf (vs.map (denA · r))) g' tm st w := by
 unfold meetAt at hm
 obtain ⟨g1, h1⟩ := applyActs_ok ((s.base + 1000000)) (hi.act k) (h.keep (hi.liveIn k))
 obtain ⟨g2, h2⟩ := norm_ok h1 hm T.base
 exact ⟨g2, h2.mono fun i hi => Nat.lt_of_lt_of_le hi (norm_len hm)⟩
theorem single_rep {M : Nat → Prop} : ∀ {l : List SV} {vs : List Value} {v : SV}, SReps w M g r l vs → single l = some v → ∃ u, (if h : vs.toArray.size = 1 then vs.toArray[0] else .tuple vs.toArray) = u ∧ SRep w M g r v u := by
 have hc : ∀ {l : List SV} {vs : List Value} {c : List (Bool × List Atom)}, SReps w M g r l vs → comps l = some c → CReps w M g r c vs := by
  intro l
  induction l with
  | nil => intro vs c h hc; cases vs with
   | nil => simp only [comps, Option.some.injEq] at hc; subst hc; trivial
   | cons => exact h.elim
  | cons x l ih =>
   intro vs c h hc
   cases vs with
   | nil => exact h.elim
   | cons u vs =>
    cases x with
    | a x =>
     simp only [comps] at hc
     obtain ⟨c', h1, rfl⟩ := Option.map_eq_some_iff.1 hc
     exact ⟨by simp only [CRep, Bool.false_eq_true, if_false]; exact ⟨h.1, trivial⟩, ih h.2 h1⟩
    | agg m =>
     simp only [comps] at hc
     obtain ⟨c', h1, rfl⟩ := Option.map_eq_some_iff.1 hc
     exact ⟨by simp only [CRep, if_true]; exact h.1, ih h.2 h1⟩
    | tup m => simp [comps] at hc
 intro l vs v h hs
 match l, vs, h with
 | [x], [u], h =>
  simp only [single, Option.some.injEq] at hs
  subst hs
  exact ⟨u, by simp, h.1⟩
 | [], [], h =>
  simp only [single] at hs
  obtain ⟨c, h1, rfl⟩ := Option.map_eq_some_iff.1 hs
  exact ⟨.tuple #[], by simp, #[], rfl, hc h h1⟩
 | x :: y :: l, u :: z :: vs, h =>
  simp only [single] at hs
  obtain ⟨c, h1, rfl⟩ := Option.map_eq_some_iff.1 hs
  exact ⟨.tuple (u :: z :: vs).toArray, by simp, _, rfl, hc h h1⟩
 | [x], [], h => exact h.elim
 | [x], u :: z :: vs, h => exact h.2.elim
 | [], _ :: _, h => exact h.elim
 | x :: y :: l, [], h => exact h.elim
 | x :: y :: l, [u], h => exact h.2.elim
theorem single_all {p : Atom → Prop} : ∀ {l : List SV} {v : SV}, (∀ x ∈ l, x.all p) → single l = some v → v.all p := by
 have hc : ∀ {l : List SV} {c : List (Bool × List Atom)}, (∀ x ∈ l, x.all p) → comps l = some c → ∀ d ∈ c, ∀ a ∈ d.2, p a := by
  intro l
  induction l with
  | nil => intro c h hc; simp only [comps, Option.some.injEq] at hc; subst hc; simp
  | cons x l ih =>
   intro c h hc
   cases x with
   | a x =>
    simp only [comps] at hc
    obtain ⟨c', h1, rfl⟩ := Option.map_eq_some_iff.1 hc
    intro d hd a ha
    rcases List.mem_cons.1 hd with rfl | hd
    ·simp only [List.mem_singleton] at ha; subst ha; exact h (.a _) (List.mem_cons_self ..)
    ·exact ih (fun x hx => h x (List.mem_cons_of_mem _ hx)) h1 d hd a ha
   | agg m =>
    simp only [comps] at hc
    obtain ⟨c', h1, rfl⟩ := Option.map_eq_some_iff.1 hc
    intro d hd a ha
    rcases List.mem_cons.1 hd with rfl | hd
    ·exact h (.agg m) (List.mem_cons_self ..) a ha
    ·exact ih (fun x hx => h x (List.mem_cons_of_mem _ hx)) h1 d hd a ha
   | tup m => simp [comps] at hc
 intro l v h hs
 match l with
 | [x] => simp only [single, Option.some.injEq] at hs; subst hs; exact h x (List.mem_cons_self ..)
 | [] =>
  simp only [single] at hs
  obtain ⟨c, h1, rfl⟩ := Option.map_eq_some_iff.1 hs
  exact hc h h1
 | x :: y :: l =>
  simp only [single] at hs
  obtain ⟨c, h1, rfl⟩ := Option.map_eq_some_iff.1 hs
  exact hc h h1
def resF (tm : Array Value) : ResultVar → Sem Value
 | .tmp t => pure (tm.getD t undef)
 | .cell a t => do loadVar t (← asAddr (tm.getD a undef))
theorem results_eq (fn : Func) (tm : Array Value) : results fn tm = (do let vs ← fn.results.mapM (resF tm); pure (if h : vs.size = 1 then vs[0] else .tuple vs)) := by
 unfold results
 congr 2
theorem resSV_ok {a : Act} (h : R bd N s r g a.tmps st w) {rv : ResultVar} {sv : SV} (hs : resSV P s rv = some sv) :
  ∃ v, (resF a.tmps rv).run P w = .ok v w ∧ SRep w (Mt bd.Z s.heap g) g r sv v ∧ sv.all (Atom.ok N s.heap) := by
 cases rv with
 | tmp t =>
  simp only [resSV] at hs
  obtain ⟨v, hv, hr⟩ := h.cur.get hs
  refine ⟨v, ?_, hr, h.ncur sv (List.mem_of_getElem? hs)⟩
  have : a.tmps.getD t undef = v := by
   rw [Array.getD_eq_getD_getElem?, ← Array.getElem?_toList, hv]; rfl
  simp only [resF, this]
  rfl
 | cell x t =>
  simp only [resSV] at hs
  split at hs
  ·rename_i id j ag i hx hag hi
   split at hs
   ·rename_i l hid
    have hx' := cur_get hx (by simp)
    obtain ⟨v, hv, hr⟩ := h.cur.get hx'
    simp only [SRep, ARep] at hr
    have hv' : a.tmps.getD x undef = .pointer (some ⟨(g id).blk, j, none⟩) := by
     rw [Array.getD_eq_getD_getElem?, ← Array.getElem?_toList, hv, hr]; rfl
    obtain ⟨-, c, ty, hc, hl⟩ := h.heap id _ hid
    obtain ⟨u, h1, h2⟩ := part_loadVar (P := P) (o := 0) (b := (g id).blk) hl (fun k u hk => by rw [Nat.zero_add, cell_eq, hc]; simpa using hk) hag hi hs
    refine ⟨u, ?_, h2, part_all hs (h.nheap id _ hid)⟩
    simp only [resF, hv']
    rw [run_bind_ok (v := ⟨(g id).blk, j, none⟩) (w' := w) rfl]
    have := h1 w (fun k u hk => by rw [Nat.zero_add, cell_eq, hc]; simpa using hk)
    rwa [Nat.zero_add] at this
   ·cases hs
  ·cases hs
theorem resSVs_ok {a : Act} (h : R bd N s r g a.tmps st w) : ∀ {rs : List ResultVar} {l : List SV}, resSVs P s rs = some l →
  ∃ vs, (rs.mapM (resF a.tmps)).run P w = .ok vs w ∧ SReps w (Mt bd.Z s.heap g) g r l vs ∧ ∀ v ∈ l, v.all (Atom.ok N s.heap)
 | [], l, hs => by
  simp only [resSVs, Option.some.injEq] at hs
  subst hs
  exact ⟨[], rfl, trivial, fun v hv => by cases hv⟩
 | rv :: rs, l, hs => by
  unfold resSVs at hs
  split at hs
  case h_2 => cases hs
  rename_i v vs hv hvs
  cases hs
  obtain ⟨u, h1, h2, h3⟩ := resSV_ok h hv
  obtain ⟨us, h4, h5, h6⟩ := resSVs_ok h hvs
  refine ⟨u :: us, ?_, ⟨h2, h5⟩, fun x hx => ?_⟩
  ·rw [List.mapM_cons]
   rw [run_bind_ok h1, run_bind_ok h4]
   rfl
  ·rcases List.mem_cons.1 hx with rfl | hx
   ·exact h3
   ·exact h6 x hx
theorem results_ok {a : Act} {fn : Func} (h : R bd N s r g a.tmps st w) {l : List SV} {v : SV} (hs : resSVs P s fn.results.toList = some l) (hv : single l = some v) :
  ∃ u, (results fn a.tmps).run P w = .ok u w ∧ SRep w (Mt bd.Z s.heap g) g r v u ∧ v.all (Atom.ok N s.heap) := by
 obtain ⟨vs, h1, h2, h3⟩ := resSVs_ok h hs
 obtain ⟨u, h4, h5⟩ := single_rep h2 hv
 refine ⟨u, ?_, h5, single_all h3 hv⟩
 rw [results_eq, Array.mapM_eq_mapM_toList, map_eq_pure_bind, bind_assoc, run_bind_ok h1]
 simp only [pure_bind]
 rw [h4]
 rfl
end
section
variable {c : Cx} {K : Sem1} {m : Nat} {inl : Inl} {fn : FuncId} {bd : Bd} {st : List (Array Value)}
theorem bind_leafy {x : Ex → St → Tr} {t : Tr} (ht : Leafy K m t) (hx : ∀ e s, Leafy K m (x e s)) {r : Env} {out : Out} (h : run K m (t.bind x) r = some out) : ∃ e s r', run K m t r = some (.leaf e s r') ∧ run K m (x e s) r' = some out := by
 rcases run_bind (fun x s => (hx x s).closed) t r _ h with ⟨l', us, h1, h2⟩ | ⟨us, h1, h2⟩ | h1
 ·obtain ⟨_, _, _, h3⟩ := ht _ _ h1; cases h3
 ·obtain ⟨_, _, _, h3⟩ := ht _ _ h1; cases h3
 ·exact h1
theorem toJumps_leafy {t : Tr} (ht : Leafy K m t) {h : Hint} {k : Nat} {T : NS} {r : Env} {out' : Out} (hr : run K m (t.toJumps h k T 0) r = some out') :
  ∃ x s r', run K m t r = some (.leaf x s r') ∧ ((x = .normal ∧ ∃ vs, meetAt h k s = some (vs, T) ∧ out' = .jump 0 (vs.map (denA · r'))) ∨ (x ≠ .normal ∧ out' = .leaf x s r')) := by
 obtain ⟨out, h1, h2⟩ := toJumps_ok t 0 r out' hr
 obtain ⟨x, s, r', rfl⟩ := ht _ _ h1
 refine ⟨x, s, r', h1, ?_⟩
 unfold Turned at h2
 split at h2
 ·rename_i heq; cases heq; exact .inl ⟨rfl, h2⟩
 ·rename_i hne
  refine .inr ⟨fun hx => ?_, h2⟩
  subst hx
  exact hne _ _ rfl
theorem loop_leafy {t : Tr} (ht : Leafy K m t) {h : Hint} {k : Nat} {T : NS} : ∀ (n : Nat) (vs : List AV) (out : Out), loopN (run K m (t.toJumps h k T 0)) n vs = some out → ∃ x s r', out = .leaf x s r'
 | 0, _, _, h => by simp only [loopN] at h; cases h
 | n + 1, vs, out, h => by
  simp only [loopN] at h
  split at h
  ·exact loop_leafy ht n _ out h
  ·rename_i l us hr
   obtain ⟨x, s, r', _, ⟨_, _, _, h3⟩ | ⟨_, h3⟩⟩ := toJumps_leafy ht hr
   ·cases h3
   ·cases h3
  ·cases h; exact ⟨_, _, _, rfl⟩
  ·rename_i us hr
   obtain ⟨x, s, r', _, ⟨_, _, _, h3⟩ | ⟨_, h3⟩⟩ := toJumps_leafy ht hr
   ·cases h3
   ·cases h3
  ·cases h
theorem code_leafy (hcl : InlCl K m inl) : ∀ (x : Code) (s : St), Leafy K m (symCode c fn inl x s) := by
 intro x
 induction x with
 | skip => intro s; exact Leafy.leaf _ _
 | label l => intro s; exact Leafy.leaf _ _
 | ret => intro s; exact Leafy.leaf _ _
 | exit id => intro s; exact Leafy.leaf _ _
 | seq a b iha ihb =>
  intro s
  have hf : ∀ (x : Ex) (s' : St), Leafy K m (match x with | .normal => symCode c fn inl b s' | x => .leaf x s') := by
   intro x s'
   split
   ·exact ihb _
   ·exact Leafy.leaf _ _
  simp only [symCode]
  split
  ·exact iha s
  ·exact (iha s).bind hf
  ·split
   ·exact (iha s).bind hf
   ·split
    ·intro r out h
     simp only [run] at h
     split at h
     ·exact ihb _ _ _ h
     ·rename_i l us hr
      obtain ⟨x, s, r', _, ⟨_, _, _, h3⟩ | ⟨_, h3⟩⟩ := toJumps_leafy (iha _) hr
      ·cases h3
      ·cases h3
     ·cases h; exact ⟨_, _, _, rfl⟩
     ·rename_i us hr
      obtain ⟨x, s, r', _, ⟨_, _, _, h3⟩ | ⟨_, h3⟩⟩ := toJumps_leafy (iha _) hr
      ·cases h3
      ·cases h3
     ·cases h
    ·exact Leafy.bad
 | cond x a b iha ihb =>
  intro s
  simp only [symCode]
  split
  ·split
   ·exact iha _
   ·exact ihb _
   ·exact Leafy.ite (iha _) (ihb _)
  ·exact Leafy.bad
 | block id b ih =>
  intro s
  simp only [symCode]
  refine (ih s).bind fun x s' => ?_
  split
  ·split <;> exact Leafy.leaf _ _
  ·exact Leafy.leaf _ _
 | loop b ih =>
  intro s
  simp only [symCode]
  split
  ·exact Leafy.bad
  ·split
   ·intro r out h
    simp only [run] at h
    exact loop_leafy (ih _) m _ out h
   ·exact Leafy.bad
 | region id ops draw =>
  intro s
  cases draw
  ·simp only [symCode]; exact symOps_closed hcl (fun _ => Leafy.leaf _ _) _ _ _
  ·simp only [symCode]
   split
   ·exact symOps_closed hcl (fun _ => Leafy.leaf _ _) _ _ _
   ·exact anyRegion_leafy hcl s
 | _ => intro s; simp only [symCode]; exact Leafy.bad
def QOut (bd : Bd) (st : List (Array Value)) (df : List Deferred) (out : Out) : Exit → Act → World → Prop := fun e a w =>
 a.defers = df ∧ ∃ x s r g, out = .leaf x s r ∧ R bd (· < s.base) s r g a.tmps st w ∧ e = (match x with | .normal => Exit.normal | .exit id => .exit id | .ret => .ret)
theorem orderFrom_len {c : Cx} {ops : Array Oper} {t : List (List Nat)} : ∀ {n : Nat} {listed : Array Bool} {l : List Oper}, orderFrom c ops t n listed = some l → l.length = n
 | 0, listed, l, h => by
  unfold orderFrom at h
  split at h
  ·cases h; rfl
  ·cases h
 | n + 1, listed, l, h => by
  unfold orderFrom at h
  split at h
  ·split at h
   ·obtain ⟨l', h1, rfl⟩ := Option.map_eq_some_iff.1 h
    simp [orderFrom_len h1]
   ·cases h
  ·cases h
theorem normals_run : ∀ (t : Tr) (r : Env) (s : St) (r' : Env), run K m t r = some (.leaf .normal s r') → t.normals ≠ []
 | .leaf x s, r, s', r', h => by simp only [run] at h; cases h; simp [Tr.normals]
 | .bad, r, s', r', h => by simp only [run] at h; cases h
 | .ite c a b, r, s', r', h => by
  simp only [run] at h
  simp only [Tr.normals, ne_eq, List.append_eq_nil_iff, not_and]
  split at h
  ·intro h1; exact (normals_run a _ _ _ h h1).elim
  ·intro _; exact normals_run b _ _ _ h
 | .guard c t, r, s', r', h => by
  simp only [run] at h
  split at h
  ·exact normals_run t _ _ _ h
  ·cases h
 | .call f ins b t, r, s', r', h => by
  simp only [run] at h
  split at h
  ·exact normals_run t _ _ _ h
  ·cases h
 | .jump l vs, r, s', r', h => by simp only [run] at h; cases h
 | .ret vs, r, s', r', h => by simp only [run] at h; cases h
 | .join t k, r, s', r', h => by
  simp only [run] at h
  simp only [Tr.normals, ne_eq, List.append_eq_nil_iff, not_and]
  split at h
  ·intro _; exact normals_run k _ _ _ h
  ·cases h
  ·rename_i hr; cases h; intro h1; exact (normals_run t _ _ _ hr h1).elim
  ·cases h
  ·cases h
 | .loop i b, r, s', r', h => by
  simp only [run] at h
  have key : ∀ n vs, loopN (run K m b) n vs = some (.leaf .normal s' r') → b.normals ≠ [] := by
   intro n
   induction n with
   | zero => intro vs h; simp only [loopN] at h; cases h
   | succ n ih =>
    intro vs h
    simp only [loopN] at h
    split at h
    ·exact ih _ h
    ·cases h
    ·rename_i hr; cases h; exact normals_run b _ _ _ hr
    ·cases h
    ·cases h
  exact key _ _ h
theorem region_ok (hm : c.P.follows .mixedOrders = true) (hcall : CallOK c K) (hinl : InlOK c K m inl) (hcl : InlCl K m inl) {id : Nat} {ops : Array Oper} {draw : Bool} {s : St} {r : Env} {g : Nat → G} {a : Act} {w : World} {out : Out}
  (h : R bd (· < s.base) s r g a.tmps st w) (hrun : run K m (symCode c fn inl (.region id ops draw) s) r = some out) : (Code.region id ops draw).wp c.P (QOut bd st a.defers out) a w := by
 have hk : ∀ s' : St, Leafy K m (.leaf .normal { s' with base := s'.base + 64 * ops.size }) := fun _ => Leafy.leaf _ _
 have fin : ∀ (l : List Oper), l.length = ops.size → ∀ a' w', Nx K m bd st a.defers (0 + l.length) (fun s' => .leaf .normal { s' with base := s'.base + 64 * ops.size }) out a' w' → QOut bd st a.defers out .normal a' w' := by
  rintro l hl a' w' ⟨h1, s', r', g', h2, h3⟩
  simp only [run] at h3
  cases h3
  refine ⟨h1, .normal, _, r', g', rfl, ?_, rfl⟩
  rw [Nat.zero_add, hl] at h2
  exact h2.based _
 have start : ∀ {w : World} {l : List Oper}, R bd (· < s.base) s r g a.tmps st w → run K m (symOps c fn id inl ops (fun s' => .leaf .normal { s' with base := s'.base + 64 * ops.size }) 0 l s) r = some out →
   Nx K m bd st a.defers 0 (symOps c fn id inl ops (fun s' => .leaf .normal { s' with base := s'.base + 64 * ops.size }) 0 l) out a w := fun h hr => ⟨rfl, s, r, g, by simpa using h, hr⟩
 cases draw with
 | false =>
  simp only [symCode] at hrun
  refine wp_region_list ?_
  exact symOps_ok hcall hinl hcl hk ops.toList 0 a w (fin ops.toList (by simp)) (start h hrun)
 | true =>
  simp only [symCode] at hrun
  have hw : R bd (· < s.base) s r g a.tmps st { w with drawn := w.drawn + 1 } := h.same (fun _ => rfl) rfl rfl rfl rfl
  have hcl0 : ClosedL ops (Array.replicate ops.size false) := by
   intro j oj _ hj
   exfalso
   rw [Array.getD_eq_getD_getElem?] at hj
   by_cases hlt : j < ops.size
   ·simp [hlt] at hj
   ·simp [Nat.not_lt.1 hlt] at hj
  split at hrun
  case h_2 =>
   unfold anyRegion at hrun
   split at hrun
   case isFalse => simp only [run] at hrun; cases hrun
   rename_i hok
   simp only [Bool.and_eq_true] at hok
   simp only [] at hrun
   generalize formsOf (c.hint fn) id (anyOps c fn id inl ops (ancs ops) false (fun s' => Tr.leaf Ex.normal s') ops.size 0 (Array.replicate ops.size false) s).normals [] = Ts at hrun
   obtain ⟨x, S, re, h1, h2⟩ := bind_leafy (anyOps_closed hcl (fun s => anyEnd_leafy s) _ _ _ _) (fun x _ => by
    split
    ·split
     ·exact Leafy.leaf _ _
     ·exact Leafy.bad
    ·exact Leafy.bad) hrun
   split at h2
   case h_2 => simp only [run] at h2; cases h2
   rename_i ix
   split at h2
   case h_2 => simp only [run] at h2; cases h2
   rename_i T hTs
   simp only [run] at h2
   cases h2
   have main := anyOps_ok hcall hinl hcl hTs (Q := fun e a' w' => e = .normal ∧ QOut bd st a.defers (.leaf .normal (T.toSt T.base) re) .normal a' w') (df := a.defers) (fun ch a w hq => by cases hq.1)
    (fun a' w' hd ⟨g', hR⟩ => ⟨rfl, hd, .normal, _, re, g', rfl, hR, rfl⟩) hok.1 hok.2 ops.size 0 _ a { w with drawn := w.drawn + 1 } _ ⟨S, rfl⟩ hcl0 ⟨rfl, s, r, g, by simpa using hw, h1⟩
   refine Code.wp_mono ?_ (wp_region_any hm (wpAny_of_E _ _ _ _ main))
   rintro e a' w' ⟨rfl, hq⟩
   exact hq
  rename_i l hl
  unfold orderOf at hl
  split at hl
  case isFalse => cases hl
  rename_i hok
  simp only [Bool.and_eq_true] at hok
  have hlen := orderFrom_len hl
  have main := orderFrom_ok hcall hinl hcl hk (Q := fun e a' w' => e = .normal ∧ QOut bd st a.defers out .normal a' w') (fun ch a w hq => by cases hq.1) hok.1 hok.2 ops.size 0 _ l a { w with drawn := w.drawn + 1 } hl hcl0
   (fun a' w' hn => ⟨rfl, fin l hlen a' w' hn⟩) (start hw hrun)
  refine Code.wp_mono ?_ (wp_region_any hm (wpAny_of_E _ _ _ _ main))
  rintro e a' w' ⟨rfl, hq⟩
  exact hq
theorem code_ok (hm : c.P.follows .mixedOrders = true) (hcall : CallOK c K) (hinl : InlOK c K m inl) (hcl : InlCl K m inl) : ∀ (x : Code) (s : St) (r : Env) (g : Nat → G) (a : Act) (w : World) (out : Out),
  R bd (· < s.base) s r g a.tmps st w → run K m (symCode c fn inl x s) r = some out → x.wp c.P (QOut bd st a.defers out) a w := by
 intro x
 induction x with
 | skip => intro s r g a w out h hr; simp only [symCode, run] at hr; cases hr; exact wp_skip ⟨rfl, _, _, _, _, rfl, h, rfl⟩
 | label l => intro s r g a w out h hr; simp only [symCode, run] at hr; cases hr; exact wp_label ⟨rfl, _, _, _, _, rfl, h, rfl⟩
 | ret => intro s r g a w out h hr; simp only [symCode, run] at hr; cases hr; exact wp_ret ⟨rfl, _, _, _, _, rfl, h, rfl⟩
 | exit id => intro s r g a w out h hr; simp only [symCode, run] at hr; cases hr; exact wp_exit ⟨rfl, _, _, _, _, rfl, h, rfl⟩
 | seq x y ihx ihy =>
  intro s r g a w out h hr
  have hf : ∀ (x : Ex) (s' : St), Leafy K m (match x with | .normal => symCode c fn inl y s' | x => .leaf x s') := by
   intro x s'
   split
   ·exact code_leafy hcl _ _
   ·exact Leafy.leaf _ _
  have hbind : run K m ((symCode c fn inl x s).bind fun x s' => match x with | .normal => symCode c fn inl y s' | x => .leaf x s') r = some out → (Code.seq x y).wp c.P (QOut bd st a.defers out) a w := by
   intro hr
   obtain ⟨e, s1, r1, h1, h2⟩ := bind_leafy (code_leafy hcl _ _) hf hr
   refine wp_seq (Code.wp_mono ?_ (ihx s r g a w _ h h1))
   rintro e' a' w' ⟨hd, x', s', r', g', heq, hR, he⟩
   cases heq
   subst he
   split at h2
   ·have := ihy _ _ _ a' w' out hR h2
    rw [hd] at this
    exact this
   ·rename_i hne
    simp only [run] at h2
    cases h2
    cases e with
    | normal => exact (hne rfl).elim
    | exit id => exact ⟨hd, _, _, _, _, rfl, hR, rfl⟩
    | ret => exact ⟨hd, _, _, _, _, rfl, hR, rfl⟩
  simp only [symCode] at hr
  split at hr
  ·rename_i hnorm
   obtain ⟨e, s1, r1, rfl⟩ := code_leafy hcl _ _ _ _ hr
   refine wp_seq (Code.wp_mono ?_ (ihx s r g a w _ h hr))
   rintro e' a' w' ⟨hd, x', s', r', g', heq, hR, he⟩
   cases heq
   subst he
   cases e with
   | normal => exact absurd hnorm (normals_run _ _ _ _ hr)
   | exit id => exact ⟨hd, _, _, _, _, rfl, hR, rfl⟩
   | ret => exact ⟨hd, _, _, _, _, rfl, hR, rfl⟩
  ·exact hbind hr
  ·split at hr
   ·exact hbind hr
   ·split at hr
    case h_2 => simp only [run] at hr; cases hr
    rename_i k hk _ vs0 T hmeet
    simp only [run] at hr
    have fin : ∀ out1, run K m ((symCode c fn inl x s).toJumps (c.hint fn) k T 0) r = some out1 →
      (∀ us, out1 = .jump 0 us → run K m (symCode c fn inl y (T.toSt T.base)) (envOf us) = some out) → (∀ x s r, out1 = .leaf x s r → out = .leaf x s r) → (Code.seq x y).wp c.P (QOut bd st a.defers out) a w := by
     intro out1 hr1 hj hl
     obtain ⟨e, s1, r1, h1, h2⟩ := toJumps_leafy (code_leafy hcl _ _) hr1
     refine wp_seq (Code.wp_mono ?_ (ihx s r g a w _ h h1))
     rintro e' a' w' ⟨hd, x', s', r', g', heq, hR, he⟩
     cases heq
     subst he
     rcases h2 with ⟨rfl, vs, h3, h4⟩ | ⟨hne, h3⟩
     ·obtain ⟨g2, hR2⟩ := meet_ok hR h3
      have := ihy _ _ _ a' w' out hR2 (hj _ h4)
      rw [hd] at this
      exact this
     ·have := hl _ _ _ h3
      subst this
      cases e with
      | normal => exact (hne rfl).elim
      | exit id => exact ⟨hd, _, _, _, _, rfl, hR, rfl⟩
      | ret => exact ⟨hd, _, _, _, _, rfl, hR, rfl⟩
    split at hr
    ·rename_i us hr1
     exact fin _ hr1 (fun us' he => by cases he; exact hr) (fun _ _ _ he => by cases he)
    ·rename_i l us hr1
     obtain ⟨_, _, _, _, ⟨_, _, _, h3⟩ | ⟨_, h3⟩⟩ := toJumps_leafy (code_leafy hcl _ _) hr1
     ·cases h3
     ·cases h3
    ·rename_i x1 s1 r1 hr1
     cases hr
     exact fin _ hr1 (fun us' he => by cases he) (fun _ _ _ he => he)
    ·rename_i us hr1
     obtain ⟨_, _, _, _, ⟨_, _, _, h3⟩ | ⟨_, h3⟩⟩ := toJumps_leafy (code_leafy hcl _ _) hr1
     ·cases h3
     ·cases h3
    ·cases hr
 | cond x p q ihp ihq =>
  intro s r g a w out h hr
  simp only [symCode] at hr
  split at hr
  case h_2 => simp only [run] at hr; cases hr
  rename_i e hx
  have hv := bool_of (get_a h hx).1
  split at hr
  ·rename_i hl
   refine wp_cond_true (by rw [hv, litB_eq hl r]) (ihp _ _ _ _ _ _ h hr)
  ·rename_i hl
   refine wp_cond_false (by rw [hv, litB_eq hl r]) (ihq _ _ _ _ _ _ h hr)
  ·simp only [run] at hr
   split at hr
   ·rename_i hd
    exact wp_cond_true (by rw [hv, hd]) (ihp (s.asm e true) _ _ _ _ _ (h.asm hd) hr)
   ·rename_i hd
    have hd : den e r = false := by simpa using hd
    exact wp_cond_false (by rw [hv, hd]) (ihq (s.asm e false) _ _ _ _ _ (h.asm hd) hr)
 | block id b ih =>
  intro s r g a w out h hr
  simp only [symCode] at hr
  obtain ⟨e, s1, r1, h1, h2⟩ := bind_leafy (code_leafy hcl _ _) (fun x s' => by
   split
   ·split <;> exact Leafy.leaf _ _
   ·exact Leafy.leaf _ _) hr
  refine wp_block (Code.wp_mono ?_ (ih s r g a w _ h h1))
  rintro e' a' w' ⟨hd, x', s', r', g', heq, hR, he⟩
  cases heq
  subst he
  cases e with
  | normal => simp only [run] at h2; cases h2; exact ⟨hd, _, _, _, _, rfl, hR, rfl⟩
  | ret => simp only [run] at h2; cases h2; exact ⟨hd, _, _, _, _, rfl, hR, rfl⟩
  | exit j =>
   simp only [Exit.inBlock] at h2 ⊢
   split at h2
   ·rename_i hj
    rw [if_pos hj]
    simp only [run] at h2; cases h2; exact ⟨hd, _, _, _, _, rfl, hR, rfl⟩
   ·rename_i hj
    rw [if_neg hj]
    simp only [run] at h2; cases h2; exact ⟨hd, _, _, _, _, rfl, hR, rfl⟩
 | loop b ih =>
  intro s r g a w out h hr
  simp only [symCode] at hr
  split at hr
  ·simp only [run] at hr; cases hr
  split at hr
  case h_2 => simp only [run] at hr; cases hr
  rename_i k hk _ vs0 T hmeet
  simp only [run] at hr
  obtain ⟨g0, h0⟩ := meet_ok h hmeet
  have key : ∀ (n : Nat) (us : List AV) (g : Nat → G) (a' : Act) (w : World), a'.defers = a.defers → R bd (· < T.base) (T.toSt T.base) (envOf us) g a'.tmps st w → loopN (run K m ((symCode c fn inl b (T.toSt T.base)).toJumps (c.hint fn) k T 0)) n us = some out →
    ∀ (fr : Frame) (kk : List Item) (cs : List Frame), ∃ e a2 w2, QOut bd st a.defers out e a2 w2 ∧ Arrives c.P (lone (fr.at a' (.code b :: .inLoop b :: kk)) cs w) fr kk cs e a2 w2 := by
   intro n
   induction n with
   | zero => intro us g a' w _ _ hl; simp only [loopN] at hl; cases hl
   | succ n ihn =>
    intro us g a' w hd hR hl fr kk cs
    simp only [loopN] at hl
    have round : ∀ out1, run K m ((symCode c fn inl b (T.toSt T.base)).toJumps (c.hint fn) k T 0) (envOf us) = some out1 →
      (∀ us', out1 = .jump 0 us' → loopN (run K m ((symCode c fn inl b (T.toSt T.base)).toJumps (c.hint fn) k T 0)) n us' = some out) → (∀ x s r, out1 = .leaf x s r → out = .leaf x s r) →
      ∃ e a2 w2, QOut bd st a.defers out e a2 w2 ∧ Arrives c.P (lone (fr.at a' (.code b :: .inLoop b :: kk)) cs w) fr kk cs e a2 w2 := by
     intro out1 hr1 hj hlf
     obtain ⟨x1, s1, r1, h1, h2⟩ := toJumps_leafy (code_leafy hcl _ _) hr1
     obtain ⟨e, a1, w1, ⟨hd1, x', s', r', g', heq, hR1, he⟩, harr⟩ := ih _ _ _ a' w _ hR h1 fr (.inLoop b :: kk) cs
     cases heq
     subst he
     rcases h2 with ⟨rfl, vs, h3, h4⟩ | ⟨hne, h3⟩
     ·obtain ⟨g2, hR2⟩ := meet_ok hR1 h3
      obtain ⟨e2, a2, w2, hq, harr2⟩ := ihn _ _ a1 w1 (hd1.trans hd) hR2 (hj _ h4) fr kk cs
      exact ⟨e2, a2, w2, hq, .of_steps (Steps.trans harr (.one step_inLoop)) harr2⟩
     ·have hout := hlf _ _ _ h3
      subst hout
      cases x1 with
      | normal => exact (hne rfl).elim
      | exit id => exact ⟨_, a1, w1, ⟨hd1.trans hd, _, _, _, _, rfl, hR1, rfl⟩, .pass (x := .inLoop b) rfl (fun _ _ => .inl (by simp)) harr⟩
      | ret => exact ⟨_, a1, w1, ⟨hd1.trans hd, _, _, _, _, rfl, hR1, rfl⟩, .pass (x := .inLoop b) rfl (fun _ _ => .inl (by simp)) harr⟩
    split at hl
    ·rename_i us' hr1
     exact round _ hr1 (fun us2 he => by cases he; exact hl) (fun _ _ _ he => by cases he)
    ·rename_i l us' hr1
     obtain ⟨_, _, _, _, ⟨_, _, _, h3⟩ | ⟨_, h3⟩⟩ := toJumps_leafy (code_leafy hcl _ _) hr1
     ·cases h3
     ·cases h3
    ·rename_i x1 s1 r1 hr1
     cases hl
     exact round _ hr1 (fun us' he => by cases he) (fun _ _ _ he => he)
    ·rename_i us' hr1
     obtain ⟨_, _, _, _, ⟨_, _, _, h3⟩ | ⟨_, h3⟩⟩ := toJumps_leafy (code_leafy hcl _ _) hr1
     ·cases h3
     ·cases h3
    ·cases hl
  intro fr kk cs
  obtain ⟨e, a2, w2, hq, harr⟩ := key m _ g0 a w rfl h0 hr fr kk cs
  exact ⟨e, a2, w2, hq, .of_steps (.one step_loop) harr⟩
 | region id ops draw => intro s r g a w out h hr; exact region_ok hm hcall hinl hcl h hr
 | _ => intro s r g a w out h hr; simp only [symCode, run] at hr; cases hr
end
end Go.Sm
namespace Go.Sm
set_option linter.unusedVariables false
set_option linter.unusedSimpArgs false
section
variable {c : Cx} {K : Sem1} {m : Nat}
theorem inl_leafy : ∀ n, InlCl K m (symInl c n)
 | 0 => fun f args s k hk => Leafy.bad
 | n + 1 => fun f args s k hk => by
  simp only [symInl]
  split
  ·split
   ·split
    ·refine (code_leafy (inl_leafy n) _ _).bind fun x s' => ?_
     split
     ·exact Leafy.bad
     ·split
      ·split
       ·exact hk _ _
       ·exact Leafy.bad
      ·exact Leafy.bad
     ·exact Leafy.bad
    ·exact Leafy.bad
   ·exact Leafy.bad
  ·exact Leafy.bad
theorem SReps.uns {w : World} {M : Nat → Prop} {g : Nat → G} {r : Env} : ∀ n, SReps w M g r (List.replicate n (.a .un)) (List.replicate n undef)
 | 0 => trivial
 | n + 1 => ⟨rfl, SReps.uns n⟩
theorem inl_ok (hm : c.P.follows .mixedOrders = true) (hcall : CallOK c K) : ∀ n, InlOK c K m (symInl c n)
 | 0 => fun f args s k bd r g tm st w vs out _ _ _ _ hr => by simp only [symInl, run] at hr; cases hr
 | n + 1 => fun f args s k bd r g tm st w vs out h hargs hall hk hr => by
  simp only [symInl] at hr
  split at hr
  case h_2 => simp only [run] at hr; cases hr
  rename_i fn hfn
  split at hr
  case h_2 => simp only [run] at hr; cases hr
  rename_i b hbody
  split at hr
  case isFalse => simp only [run] at hr; cases hr
  rename_i hok
  have hlen := hargs.length
  have hf : ∀ (x : Ex) (s' : St), Leafy K m (match x, s'.stk with
    | .exit _, _ => .bad
    | _, cur :: stk =>
     match resSVs c.P s' fn.results.toList with
     | some l => match single l with
      | some v => k v ⟨cur, stk, s'.heap, s'.base, s'.np, s'.kp⟩
      | none => .bad
     | none => .bad
    | _, [] => .bad) := by
   intro x s'
   split
   ·exact Leafy.bad
   ·split
    ·split
     ·exact hk _ _
     ·exact Leafy.bad
    ·exact Leafy.bad
   ·exact Leafy.bad
  obtain ⟨e, s1, r1, h1, h2⟩ := bind_leafy (code_leafy (inl_leafy n) _ _) hf hr
  have hR : R bd (· < s.base) ⟨args ++ List.replicate (fn.ntmps - args.length) (.a .un), s.cur :: s.stk, s.heap, s.base, s.np, s.kp⟩ r g (vs.toArray ++ Array.replicate (fn.ntmps - vs.toArray.size) undef) (tm :: st) w := by
   refine h.slots (cur := args ++ List.replicate (fn.ntmps - args.length) (.a .un)) (stk := s.cur :: s.stk) (st' := tm :: st) ?_ ⟨h.cur, h.stk⟩ (fun v hv => ?_) (fun f hf => ?_)
   ·rw [Array.toList_append, Array.toList_replicate, List.size_toArray, ← hlen]
    exact hargs.app (SReps.uns _)
   ·rcases List.mem_append.1 hv with hv | hv
    ·exact hall v hv
    ·rw [(List.mem_replicate.1 hv).2]; trivial
   ·rcases List.mem_cons.1 hf with rfl | hf
    ·exact h.ncur
    ·exact h.nstk f hf
  refine ⟨⟨fn, hfn, hok.2, by rw [hbody]; rfl⟩, ?_⟩
  refine calls_of_wp hfn hbody (Code.wp_mono ?_ (code_ok hm hcall (inl_ok hm hcall n) (inl_leafy n) b _ r g { tmps := vs.toArray ++ Array.replicate (fn.ntmps - vs.toArray.size) undef, defers := [] } w _ hR h1))
  rintro e' a' w' ⟨hd, x', s', r', g', heq, hR', he⟩
  cases heq
  subst he
  have body : (∃ cur stk, s1.stk = cur :: stk ∧ run K m (match resSVs c.P s1 fn.results.toList with
        | some l => match single l with
         | some v => k v ⟨cur, stk, s1.heap, s1.base, s1.np, s1.kp⟩
         | none => .bad
        | none => .bad) r1 = some out) → a'.defers = [] ∧ ∃ v, (results fn a'.tmps).run c.P w' = .ok v w' ∧
    ∃ v_1 sv s' r' g', Ending.returned v = Ending.returned v_1 ∧ R bd (· < s'.base) s' r' g' tm st w' ∧ SRep w' (Mt bd.Z s'.heap g') g' r' sv v_1 ∧ sv.all (Atom.ok (· < s'.base) s'.heap) ∧ run K m (k sv s') r' = some out := by
   rintro ⟨cur, stk, hstk, hrun⟩
   split at hrun
   case h_2 => simp only [run] at hrun; cases hrun
   rename_i l hl
   split at hrun
   case h_2 => simp only [run] at hrun; cases hrun
   rename_i v hv
   obtain ⟨u, e1, e2, e3⟩ := results_ok hR' hl hv
   have hs := hR'.stk
   rw [hstk] at hs
   refine ⟨hd, u, e1, u, v, ⟨cur, stk, s1.heap, s1.base, s1.np, s1.kp⟩, r1, g', rfl, ?_, e2, e3, hrun⟩
   exact hR'.slots (cur := cur) (stk := stk) hs.1 hs.2 (fun v hv => hR'.nstk cur (by rw [hstk]; exact List.mem_cons_self ..) v hv) (fun f hf => hR'.nstk f (by rw [hstk]; exact List.mem_cons_of_mem _ hf))
  cases e with
  | exit id => simp only [run] at h2; cases h2
  | normal =>
   cases hstk : s1.stk with
   | nil => simp only [hstk, run] at h2; cases h2
   | cons cur stk => simp only [hstk] at h2; exact body ⟨cur, stk, hstk, h2⟩
  | ret =>
   cases hstk : s1.stk with
   | nil => simp only [hstk, run] at h2; cases h2
   | cons cur stk => simp only [hstk] at h2; exact body ⟨cur, stk, hstk, h2⟩
end
end Go.Sm
namespace Go.Sm
set_option linter.unusedVariables false
set_option linter.unusedSimpArgs false
section
variable {bd bd' : Bd} {N N' : Nat → Prop} {s s' : St} {r r' : Env} {g : Nat → G} {tm tm' : Array Value} {st st' : List (Array Value)} {w : World} {ρ : Nat → Option Nat} {M' : Nat → Prop}
theorem R.view (h : R bd N s r g tm st w) (hdom : ∀ k B', s'.heap k = some B' → ∀ i, ρ k = some i → ∃ B, s.heap i = some B)
  (hinj : ∀ k k' i, (s'.heap k).isSome = true → (s'.heap k').isSome = true → ρ k = some i → ρ k' = some i → k = k')
  (hheap : ∀ k B', s'.heap k = some B' → BRep w (Mt bd'.Z s'.heap (gren ρ g)) (gren ρ g) r' k B')
  (hcur : SReps w (Mt bd'.Z s'.heap (gren ρ g)) (gren ρ g) r' s'.cur tm'.toList) (hstk : SRepss w (Mt bd'.Z s'.heap (gren ρ g)) (gren ρ g) r' s'.stk st')
  (hown : ∀ k B, s'.heap k = some B → ∀ b ∈ (gren ρ g k).foot, bd'.M0 b ∨ bd'.w0.heap.size ≤ b) (hw : Wd bd' w) (hpin : ∀ k p, bd'.pins[k]? = some p → k < s'.np → (gren ρ g k).blk = p.blk ∧ (gren ρ g k).val = p.val)
  (hnp : s'.np = bd'.pins.length) (hkp : s'.kp = bd'.kp) (hkept : ∀ c ∈ bd'.kp, cell w (gren ρ g c.1).blk c.2 = bd'.kept c.1 c.2) (hkpl : ∀ c ∈ bd'.kp, c.1 < s'.np ∧ ∃ l, s'.heap c.1 = some (.box l))
  (n1 : ∀ v ∈ s'.cur, v.all (Atom.ok N' s'.heap)) (n2 : ∀ f ∈ s'.stk, ∀ v ∈ f, v.all (Atom.ok N' s'.heap)) (n3 : ∀ id B, s'.heap id = some B → B.ok N' s'.heap) :
  R bd' N' s' r' (gren ρ g) tm' st' w := by
 have foot : ∀ k B', s'.heap k = some B' → ∀ b ∈ (gren ρ g k).foot, ∃ i B, ρ k = some i ∧ s.heap i = some B ∧ b ∈ (g i).foot := by
  intro k B' hk b hb
  cases hi : ρ k with
  | none => simp [gren, hi, nilG] at hb
  | some i =>
   obtain ⟨B, hB⟩ := hdom k B' hk i hi
   rw [gren_some hi] at hb
   exact ⟨i, B, rfl, hB, hb⟩
 refine { cur := hcur, stk := hstk, heap := hheap, inj := ?_, nodup := ?_, own := hown, lt := ?_, world := hw, pin := hpin, np := hnp, kp := hkp, kept := hkept, kpl := hkpl, ncur := n1, nstk := n2, nheap := n3 }
 ·intro k k' B B' b hk hk' hb hb'
  obtain ⟨i, C, e1, e2, e3⟩ := foot k B hk b hb
  obtain ⟨i', C', e1', e2', e3'⟩ := foot k' B' hk' b hb'
  have := h.inj i i' C C' b e2 e2' e3 e3'
  subst this
  exact hinj k k' i (by simp [hk]) (by simp [hk']) e1 e1'
 ·intro k B hk
  cases hi : ρ k with
  | none => simp [gren, hi, nilG]
  | some i =>
   obtain ⟨B, hB⟩ := hdom k B hk i hi
   rw [gren_some hi]
   exact h.nodup i B hB
 ·intro k B hk b hb
  obtain ⟨i, C, e1, e2, e3⟩ := foot k B hk b hb
  exact h.lt i C e2 b e3
theorem toE_view (h : R bd N s r g tm st w) (hM : ∀ b, M' b → Mt bd.Z s.heap g b) {b : Atom} {v : Value} {t : Ty} {e : E t} (hv : ARep w (Mt bd.Z s.heap g) g r b v) (he : b.toE s.heap t = some e)
  (hrd : ∀ i ∈ refsOf [b], ∀ B, s.heap i = some B → ∀ x ∈ (g i).foot, ¬ M' x) : Rep w M' t (den e r) [v] := by
 have hk : Kept w (Mt bd.Z s.heap g) w M' := ⟨fun _ _ _ => rfl, fun b _ h => hM b h⟩
 cases b with
 | x u e' => exact (coe_rep he hv).keep hk
 | xc u e' => exact (coe_rep he hv.1).keep hk
 | nil =>
  simp only [Atom.toE] at he
  split at he
  ·cases he
   simp only [ARep] at hv
   subst hv
   exact ⟨none, 0, rfl, Nat.le_refl _, fun _ => by simp [den], fun _ => rfl, fun p hp => by cases hp⟩
  ·cases he
 | ref id =>
  simp only [Atom.toE] at he
  split at he
  ·rename_i dp u e' hid
   simp only [ARep] at hv
   have hr := OwnA.rep (h.heap id _ hid) hk (hrd id (by simp [refsOf]) _ hid)
   rw [← hv] at hr
   exact coe_rep he hr
  ·cases he
 | nref id u k i j =>
  simp only [Atom.toE] at he
  obtain ⟨a, ha, h2⟩ := Option.bind_eq_some_iff.1 he
  unfold nestE at ha
  split at ha
  ·rename_i t' e' hid
   split at ha
   ·rename_i ht
    subst ht
    exact coe_rep h2 (nref_x (h.heap id _ hid) hk (hrd id (by simp [refsOf]) _ hid) ha hv)
   ·cases ha
  ·cases ha
 | _ => cases he
theorem matchE_view (h : R bd N s r g tm st w) (hM : ∀ b, M' b → Mt bd.Z s.heap g b) {b : Atom} {v : Value} {t : Ty} {e : E t} {gs : List (E .bool)} (hv : ARep w (Mt bd.Z s.heap g) g r b v) (he : matchE s.heap t b = some (gs, e))
  (hg : ∀ c ∈ gs, den c r = true) (hrd : ∀ i ∈ refsOf [b], ∀ B, s.heap i = some B → ∀ x ∈ (g i).foot, ¬ M' x) : Rep w M' t (den e r) [v] := by
 unfold matchE at he
 split at he
 ·rename_i e' h1
  simp only [Option.some.injEq, Prod.mk.injEq] at he
  obtain ⟨rfl, rfl⟩ := he
  exact toE_view h hM hv h1 hrd
 ·split at he
  ·rename_i u
   obtain ⟨e', h1, h2⟩ := Option.map_eq_some_iff.1 he
   simp only [Prod.mk.injEq] at h2
   obtain ⟨rfl, rfl⟩ := h2
   obtain ⟨x, cp, a1, a2, a3, a4, a5⟩ := toE_view h hM hv h1 hrd
   have hne := hg _ (List.mem_singleton.2 rfl)
   simp only [den, O1.d, Bool.not_eq_true', List.isEmpty_eq_false_iff] at hne
   refine ⟨x, cp, a1, a2, fun _ => ⟨fun hx => ?_, fun hx => (hne hx).elim⟩, a4, a5⟩
   have h0 := a4 hx
   have hpos := List.length_pos_iff.2 hne
   omega
  ·cases he
theorem den_at {t : Ty} {d : t.D} {i : Nat} (h : r' i = ⟨t, d⟩) : den (.var t i) r' = d := by
 simp only [den]; rw [h]; exact AV.as_mk t d
theorem mkE_view (h : R bd N s r g tm st w) (hM : ∀ b, M' b → Mt bd.Z s.heap g b) : ∀ {t : Ty} {l rest : List Atom} {u : E t} {vs : List Value}, mkE s.heap t l = some (u, rest) → AReps w (Mt bd.Z s.heap g) g r l vs →
  (∀ b ∈ l, ∀ i ∈ refsOf [b], ∀ B, s.heap i = some B → ∀ x ∈ (g i).foot, ¬ M' x) → ∃ us ws, vs = us ++ ws ∧ Rep w M' t (den u r) us ∧ AReps w (Mt bd.Z s.heap g) g r rest ws ∧ ∀ b ∈ rest, b ∈ l := by
 intro t
 have leaf : ∀ {t : Ty}, (∀ (l : List Atom), mkE s.heap t l = match l with | x :: l => (x.toE s.heap t).map (·, l) | [] => none) → ∀ {l rest : List Atom} {u : E t} {vs : List Value}, mkE s.heap t l = some (u, rest) → AReps w (Mt bd.Z s.heap g) g r l vs →
   (∀ b ∈ l, ∀ i ∈ refsOf [b], ∀ B, s.heap i = some B → ∀ x ∈ (g i).foot, ¬ M' x) → ∃ us ws, vs = us ++ ws ∧ Rep w M' t (den u r) us ∧ AReps w (Mt bd.Z s.heap g) g r rest ws ∧ ∀ b ∈ rest, b ∈ l := by
  intro t hmk l rest u vs hm hr hrd
  rw [hmk] at hm
  cases l with
  | nil => cases hm
  | cons b l =>
   cases vs with
   | nil => exact hr.elim
   | cons v vs =>
    obtain ⟨e, he, hm⟩ := Option.map_eq_some_iff.1 hm
    cases hm
    exact ⟨[v], vs, rfl, toE_view h hM hr.1 he (hrd b (List.mem_cons_self ..)), hr.2, fun b hb => List.mem_cons_of_mem _ hb⟩
 induction t with
 | int k => exact leaf fun l => by cases l <;> rfl
 | bool => exact leaf fun l => by cases l <;> rfl
 | str => exact leaf fun l => by cases l <;> rfl
 | sl c e ih => exact leaf fun l => by cases l <;> rfl
 | pr x y ihx ihy =>
  intro l rest u vs hm hr hrd
  simp only [mkE] at hm
  split at hm
  case h_2 => cases hm
  rename_i u1 l1 h1
  split at hm
  case h_2 => cases hm
  rename_i u2 l2 h2
  cases hm
  obtain ⟨us1, ws1, rfl, a3, a5, a6⟩ := ihx h1 hr hrd
  obtain ⟨us2, ws2, rfl, b3, b5, b6⟩ := ihy h2 a5 fun b hb => hrd b (a6 b hb)
  exact ⟨us1 ++ us2, ws2, by simp, ⟨us1, us2, rfl, a3, b3⟩, b5, fun b hb => a6 b (b6 b hb)⟩
theorem refsOf_mem {l : List Atom} {b : Atom} {i : Nat} (hb : b ∈ l) (hi : i ∈ refsOf [b]) : i ∈ refsOf l := by
 simp only [refsOf, List.mem_filterMap, List.mem_singleton, exists_eq_left] at hi ⊢
 exact ⟨b, hb, hi⟩
theorem matchC_view (h : R bd N s r g tm st w) (hM : ∀ b, M' b → Mt bd.Z s.heap g b) {v0 p : Nat} {c : CS} {a : Atom} {v : Value} {o : MO} (hm : matchC s.heap v0 p c a = some o) (hg : ∀ c ∈ o.gs, den c r = true) (hv : ARep w (Mt bd.Z s.heap g) g r a v)
  (hρ : ∀ q t, (q, t) ∈ o.tg → ρ q = t) (hrd : ∀ i ∈ o.rd, ∀ B, s.heap i = some B → ∀ x ∈ (g i).foot, ¬ M' x) (hr : ∀ i x, o.es[i]? = some x → r' (v0 + i) = denA x r) :
  o.es.length = 1 ∧ o.tg.map (·.1) = (c.bl v0 p).map (·.1) ∧ (∀ q i, (q, some i) ∈ o.tg → ∃ B, s.heap i = some B) ∧ ARep w M' (gren ρ g) r' (c.at v0 p) v ∧ ∀ k B, (k, B) ∈ c.bl v0 p → BRep w M' (gren ρ g) r' k B := by
 have hk : Kept w (Mt bd.Z s.heap g) w M' := ⟨fun _ _ _ => rfl, fun b _ h => hM b h⟩
 cases c with
 | p t =>
  simp only [matchC] at hm
  obtain ⟨⟨gs, e⟩, h1, rfl⟩ := Option.map_eq_some_iff.1 hm
  refine ⟨rfl, rfl, fun q i hq => (by cases hq), ?_, fun k B hB => by cases hB⟩
  have hd := den_at (hr 0 _ rfl)
  simp only [CS.at, ARep]
  rw [Nat.add_zero] at hd
  rw [hd]
  exact matchE_view h hM hv h1 hg hrd
 | arr dp t =>
  simp only [matchC] at hm
  split at hm
  ·rename_i i
   split at hm
   ·rename_i dp' t' e hi
    split at hm
    case isFalse => cases hm
    rename_i hdp
    split at hm
    case isFalse => cases hm
    rename_i ht
    subst hdp
    subst ht
    cases hm
    have hpi : ρ p = some i := hρ p (some i) (List.mem_singleton.2 rfl)
    have hd : (den (.var (.sl false t') v0) r' : List t'.D) = den e r := den_at (hr 0 _ rfl)
    refine ⟨rfl, rfl, fun q i' hq => ?_, ?_, fun k B hB => ?_⟩
    ·simp only [List.mem_singleton, Prod.mk.injEq, Option.some.injEq] at hq
     obtain ⟨-, rfl⟩ := hq
     exact ⟨_, hi⟩
    ·simp only [CS.at, ARep] at hv ⊢
     rw [hv, gren_some hpi]
    ·simp only [CS.bl, List.mem_singleton, Prod.mk.injEq] at hB
     obtain ⟨rfl, rfl⟩ := hB
     simp only [BRep]
     rw [gren_some hpi, hd]
     exact OwnA.keep hk (fun _ _ => rfl) (h.heap i _ hi)
   ·cases hm
  ·cases hm
   have hpi : ρ p = none := hρ p none (List.mem_singleton.2 rfl)
   have hd : (den (.var (.sl false t) v0) r' : List t.D) = [] := den_at (hr 0 _ rfl)
   refine ⟨rfl, rfl, fun q i' hq => ?_, ?_, fun k B hB => ?_⟩
   ·simp at hq
   ·simp only [CS.at, ARep] at hv ⊢
    rw [hv]; simp [gren, hpi, nilG]
   ·simp only [CS.bl, List.mem_singleton, Prod.mk.injEq] at hB
    obtain ⟨rfl, rfl⟩ := hB
    exact nil_rep (by simp [gren, hpi]) hd
  ·cases hm
 | box t =>
  simp only [matchC] at hm
  split at hm
  case h_2 => cases hm
  rename_i i
  split at hm
  case h_2 => cases hm
  rename_i l hi
  split at hm
  case h_2 => cases hm
  rename_i e he
  cases hm
  have hpi : ρ p = some i := hρ p (some i) (List.mem_singleton.2 rfl)
  have hd : den (.var t v0) r' = den e r := den_at (hr 0 _ rfl)
  obtain ⟨hb1, cc, ty, hb2, hb3⟩ := h.heap i _ hi
  obtain ⟨us, ws, e1, e2, e3, -⟩ := mkE_view h hM he hb3 fun b hb i hi => hrd i (refsOf_mem hb hi)
  have hws : ws = [] := by
   cases ws with
   | nil => rfl
   | cons => exact e3.elim
  subst hws
  rw [List.append_nil] at e1
  refine ⟨rfl, rfl, fun q i' hq => ?_, ?_, fun k B hB => ?_⟩
  ·simp only [List.mem_singleton, Prod.mk.injEq, Option.some.injEq] at hq
   obtain ⟨-, rfl⟩ := hq
   exact ⟨_, hi⟩
  ·simp only [CS.at, ARep] at hv ⊢
   rw [hv, gren_some hpi]
  ·simp only [CS.bl, List.mem_singleton, Prod.mk.injEq] at hB
   obtain ⟨rfl, rfl⟩ := hB
   simp only [BRep]
   rw [gren_some hpi]
   refine ⟨hb1, cc, ty, hb2, cellsE_rep ?_⟩
   rw [hd, e1]
   exact e2
 | eat dp t =>
  simp only [matchC] at hm
  split at hm
  ·rename_i i
   split at hm
   ·rename_i dp' t' e hi
    split at hm
    case isFalse => cases hm
    rename_i hdp
    split at hm
    case isFalse => cases hm
    rename_i ht
    subst hdp
    subst ht
    cases hm
    have hpi : ρ (2000 + v0) = some i := hρ (2000 + v0) (some i) (List.mem_singleton.2 rfl)
    have hd : (den (.var (.sl false t') v0) r' : List t'.D) = den e r := den_at (hr 0 _ rfl)
    refine ⟨rfl, rfl, fun q i' hq => ?_, ?_, fun k B hB => ?_⟩
    ·simp only [List.mem_singleton, Prod.mk.injEq, Option.some.injEq] at hq
     obtain ⟨-, rfl⟩ := hq
     exact ⟨_, hi⟩
    ·simp only [CS.at, ARep] at hv ⊢
     rw [hv, gren_some hpi]
    ·simp only [CS.bl, List.mem_singleton, Prod.mk.injEq] at hB
     obtain ⟨rfl, rfl⟩ := hB
     simp only [BRep]
     rw [gren_some hpi, hd]
     exact OwnA.keep hk (fun _ _ => rfl) (h.heap i _ hi)
   ·cases hm
  ·cases hm
   have hpi : ρ (2000 + v0) = none := hρ (2000 + v0) none (List.mem_singleton.2 rfl)
   have hd : (den (.var (.sl false t) v0) r' : List t.D) = [] := den_at (hr 0 _ rfl)
   refine ⟨rfl, rfl, fun q i' hq => ?_, ?_, fun k B hB => ?_⟩
   ·simp at hq
   ·simp only [CS.at, ARep] at hv ⊢
    rw [hv]; simp [gren, hpi, nilG]
   ·simp only [CS.bl, List.mem_singleton, Prod.mk.injEq] at hB
    obtain ⟨rfl, rfl⟩ := hB
    exact nil_rep (by simp [gren, hpi]) hd
  ·cases hm
 | self f =>
  simp only [matchC] at hm
  split at hm
  case h_2 => cases hm
  rename_i i
  split at hm
  case h_2 => cases hm
  rename_i b hi
  cases hm
  have hpi : ρ p = some i := hρ p (some i) (List.mem_singleton.2 rfl)
  obtain ⟨hb1, cc, ty, hb2, hb3⟩ := h.heap i _ hi
  refine ⟨rfl, rfl, fun q i' hq => ?_, ?_, fun k B hB => ?_⟩
  ·simp only [List.mem_singleton, Prod.mk.injEq, Option.some.injEq] at hq
   obtain ⟨-, rfl⟩ := hq
   exact ⟨_, hi⟩
  ·simp only [CS.at, ARep] at hv ⊢
   rw [hv, gren_some hpi]
  ·simp only [CS.bl, List.mem_singleton, Prod.mk.injEq] at hB
   obtain ⟨rfl, rfl⟩ := hB
   simp only [BRep]
   rw [gren_some hpi]
   refine ⟨hb1, cc, ty, hb2, ?_⟩
   generalize cc.toList = vs at hb3 ⊢
   cases vs with
   | nil => exact hb3.elim
   | cons v vs =>
    cases vs with
    | nil => exact ⟨trivial, trivial⟩
    | cons => exact hb3.2.elim
theorem matchC_len {h0 : Nat → Option Blk} {v p : Nat} {c : CS} {a : Atom} {x : MO} (hx : matchC h0 v p c a = some x) : x.es.length = 1 := by
 unfold matchC at hx
 repeat' split at hx
 all_goals first | (cases hx; done) | (cases hx; rfl) | (obtain ⟨_, _, rfl⟩ := Option.map_eq_some_iff.1 hx; rfl)
theorem add_hr {x y : MO} {v0 n : Nat} (hl : x.es.length = n) (hr : ∀ i u, (x.add y).es[i]? = some u → r' (v0 + i) = denA u r) :
  (∀ i u, x.es[i]? = some u → r' (v0 + i) = denA u r) ∧ ∀ i u, y.es[i]? = some u → r' (v0 + n + i) = denA u r := by
 refine ⟨fun i u hi => hr i u ?_, fun i u hi => ?_⟩
 ·simp only [MO.add]
  rw [List.getElem?_append_left (List.getElem?_eq_some_iff.1 hi).1]
  exact hi
 ·rw [Nat.add_assoc]
  refine hr (n + i) u ?_
  simp only [MO.add]
  rw [List.getElem?_append_right (by omega), hl, Nat.add_sub_cancel_left]
  exact hi
theorem matchCS_view (h : R bd N s r g tm st w) (hM : ∀ b, M' b → Mt bd.Z s.heap g b) : ∀ {l : List CS} {m : List Atom} {vs : List Value} {p v0 : Nat} {o : MO}, matchCS s.heap v0 p l m = some o → (∀ c ∈ o.gs, den c r = true) → AReps w (Mt bd.Z s.heap g) g r m vs →
  (∀ q t, (q, t) ∈ o.tg → ρ q = t) → (∀ i ∈ o.rd, ∀ B, s.heap i = some B → ∀ x ∈ (g i).foot, ¬ M' x) → (∀ i x, o.es[i]? = some x → r' (v0 + i) = denA x r) →
  o.es.length = l.length ∧ o.tg.map (·.1) = (csB v0 p l).map (·.1) ∧ (∀ q i, (q, some i) ∈ o.tg → ∃ B, s.heap i = some B) ∧ AReps w M' (gren ρ g) r' (csA v0 p l) vs ∧ ∀ k B, (k, B) ∈ csB v0 p l → BRep w M' (gren ρ g) r' k B
 | [], [], vs, p, v0, o, hm, hg, hv, hρ, hrd, hr => by
  simp only [matchCS, Option.some.injEq] at hm
  subst hm
  cases vs with
  | nil => exact ⟨rfl, rfl, fun q i hq => (by simp at hq), trivial, fun k B hB => by cases hB⟩
  | cons => exact hv.elim
 | c :: l, a :: m, vs, p, v0, o, hm, hg, hv, hρ, hrd, hr => by
  unfold matchCS at hm
  split at hm
  case h_2 => cases hm
  rename_i x y hx hy
  cases hm
  cases vs with
  | nil => exact hv.elim
  | cons u vs =>
   have hx0 : x.es.length = 1 := matchC_len hx
   obtain ⟨hr1, hr2⟩ := add_hr hx0 hr
   obtain ⟨-, b2, b3, b4, b5⟩ := matchC_view (ρ := ρ) h hM hx (fun c hc => hg c (List.mem_append_left _ hc)) hv.1 (fun q t hq => hρ q t (List.mem_append_left _ hq)) (fun i hi => hrd i (List.mem_append_left _ hi)) hr1
   obtain ⟨c1, c2, c3, c4, c5⟩ := matchCS_view h hM hy (fun c hc => hg c (List.mem_append_right _ hc)) hv.2 (fun q t hq => hρ q t (List.mem_append_right _ hq)) (fun i hi => hrd i (List.mem_append_right _ hi)) hr2
   refine ⟨by simp only [MO.add, List.length_append, hx0, c1, List.length_cons]; omega, ?_, fun q i hq => ?_, ⟨b4, c4⟩, fun k B hB => ?_⟩
   ·simp only [MO.add, csB, List.map_append, b2, c2]
   ·rcases List.mem_append.1 hq with hq | hq
    ·exact b3 q i hq
    ·exact c3 q i hq
   ·rcases List.mem_append.1 hB with hB | hB
    ·exact b5 k B hB
    ·exact c5 k B hB
 | [], _ :: _, vs, p, v0, o, hm, _, _, _, _, _ => by simp [matchCS] at hm
 | _ :: _, [], vs, p, v0, o, hm, _, _, _, _, _ => by simp [matchCS] at hm
theorem matchSh_view (h : R bd N s r g tm st w) (hM : ∀ b, M' b → Mt bd.Z s.heap g b) {sh : Sh} {sv : SV} {u : Value} {p v0 : Nat} {o : MO} (hm : matchSh s.heap v0 p sh sv = some o) (hg : ∀ c ∈ o.gs, den c r = true) (hv : SRep w (Mt bd.Z s.heap g) g r sv u)
  (hρ : ∀ q t, (q, t) ∈ o.tg → ρ q = t) (hrd : ∀ i ∈ o.rd, ∀ B, s.heap i = some B → ∀ x ∈ (g i).foot, ¬ M' x) (hr : ∀ i x, o.es[i]? = some x → r' (v0 + i) = denA x r) :
  o.es.length = sh.cs.length ∧ o.tg.map (·.1) = (csB v0 p sh.cs).map (·.1) ∧ (∀ q i, (q, some i) ∈ o.tg → ∃ B, s.heap i = some B) ∧ SRep w M' (gren ρ g) r' (sh.sv v0 p) u ∧ ∀ k B, (k, B) ∈ csB v0 p sh.cs → BRep w M' (gren ρ g) r' k B := by
 unfold matchSh at hm
 split at hm
 ·obtain ⟨cs, h1, h2⟩ := hv
  obtain ⟨b1, b2, b3, b4, b5⟩ := matchCS_view (ρ := ρ) h hM hm hg h2 hρ hrd hr
  exact ⟨b1, b2, b3, ⟨cs, h1, b4⟩, b5⟩
 ·obtain ⟨b1, b2, b3, b4, b5⟩ := matchCS_view (ρ := ρ) (vs := [u]) h hM hm hg ⟨hv, trivial⟩ hρ hrd hr
  exact ⟨b1, b2, b3, b4.1, b5⟩
 ·obtain ⟨b1, b2, b3, b4, b5⟩ := matchCS_view (ρ := ρ) (vs := [u]) h hM hm hg ⟨hv, trivial⟩ hρ hrd hr
  exact ⟨b1, b2, b3, b4.1, b5⟩
 ·obtain ⟨b1, b2, b3, b4, b5⟩ := matchCS_view (ρ := ρ) (vs := [u]) h hM hm hg ⟨hv, trivial⟩ hρ hrd hr
  exact ⟨b1, b2, b3, b4.1, b5⟩
 ·obtain ⟨b1, b2, b3, b4, b5⟩ := matchCS_view (ρ := ρ) (vs := [u]) h hM hm hg ⟨hv, trivial⟩ hρ hrd hr
  exact ⟨b1, b2, b3, b4.1, b5⟩
 ·obtain ⟨b1, b2, b3, b4, b5⟩ := matchCS_view (ρ := ρ) (vs := [u]) h hM hm hg ⟨hv, trivial⟩ hρ hrd hr
  exact ⟨b1, b2, b3, b4.1, b5⟩
 ·cases hm
theorem matchCS_len {h0 : Nat → Option Blk} : ∀ {l : List CS} {m : List Atom} {v p : Nat} {o : MO}, matchCS h0 v p l m = some o → o.es.length = l.length
 | [], [], v, p, o, hm => by simp only [matchCS, Option.some.injEq] at hm; subst hm; rfl
 | c :: l, a :: m, v, p, o, hm => by
  unfold matchCS at hm
  split at hm
  case h_2 => cases hm
  rename_i x y hx hy
  cases hm
  have hx0 : x.es.length = 1 := matchC_len hx
  simp only [MO.add, List.length_append, hx0, matchCS_len hy, List.length_cons]
  omega
 | [], _ :: _, v, p, o, hm => by simp [matchCS] at hm
 | _ :: _, [], v, p, o, hm => by simp [matchCS] at hm
theorem matchSh_len {h0 : Nat → Option Blk} {sh : Sh} {sv : SV} {v p : Nat} {o : MO} (hm : matchSh h0 v p sh sv = some o) : o.es.length = sh.cs.length := by
 unfold matchSh at hm
 split at hm
 ·exact matchCS_len hm
 ·exact matchCS_len hm
 ·exact matchCS_len hm
 ·exact matchCS_len hm
 ·exact matchCS_len hm
 ·exact matchCS_len hm
 ·cases hm
theorem matchShs_len {h0 : Nat → Option Blk} : ∀ {l : List Sh} {m : List SV} {v p : Nat} {o : MO}, matchShs h0 v p l m = some o → o.es.length = shN l
 | [], [], v, p, o, hm => by simp only [matchShs, Option.some.injEq] at hm; subst hm; rfl
 | c :: l, a :: m, v, p, o, hm => by
  unfold matchShs at hm
  split at hm
  case h_2 => cases hm
  rename_i x y hx hy
  cases hm
  simp only [MO.add, List.length_append, matchSh_len hx, matchShs_len hy, shN]
 | [], _ :: _, v, p, o, hm => by simp [matchShs] at hm
 | _ :: _, [], v, p, o, hm => by simp [matchShs] at hm
theorem matchShs_view (h : R bd N s r g tm st w) (hM : ∀ b, M' b → Mt bd.Z s.heap g b) : ∀ {l : List Sh} {m : List SV} {vs : List Value} {p v0 : Nat} {o : MO}, matchShs s.heap v0 p l m = some o → (∀ c ∈ o.gs, den c r = true) → SReps w (Mt bd.Z s.heap g) g r m vs →
  (∀ q t, (q, t) ∈ o.tg → ρ q = t) → (∀ i ∈ o.rd, ∀ B, s.heap i = some B → ∀ x ∈ (g i).foot, ¬ M' x) → (∀ i x, o.es[i]? = some x → r' (v0 + i) = denA x r) →
  o.tg.map (·.1) = (shB v0 p l).map (·.1) ∧ (∀ q i, (q, some i) ∈ o.tg → ∃ B, s.heap i = some B) ∧ SReps w M' (gren ρ g) r' (shSV v0 p l) vs ∧ ∀ k B, (k, B) ∈ shB v0 p l → BRep w M' (gren ρ g) r' k B
 | [], [], vs, p, v0, o, hm, hg, hv, hρ, hrd, hr => by
  simp only [matchShs, Option.some.injEq] at hm
  subst hm
  cases vs with
  | nil => exact ⟨rfl, fun q i hq => (by simp at hq), trivial, fun k B hB => by cases hB⟩
  | cons => exact hv.elim
 | c :: l, a :: m, vs, p, v0, o, hm, hg, hv, hρ, hrd, hr => by
  unfold matchShs at hm
  split at hm
  case h_2 => cases hm
  rename_i x y hx hy
  cases hm
  cases vs with
  | nil => exact hv.elim
  | cons u vs =>
   obtain ⟨hr1, hr2⟩ := add_hr (matchSh_len hx) hr
   obtain ⟨-, b2, b3, b4, b5⟩ := matchSh_view (ρ := ρ) h hM hx (fun c hc => hg c (List.mem_append_left _ hc)) hv.1 (fun q t hq => hρ q t (List.mem_append_left _ hq)) (fun i hi => hrd i (List.mem_append_left _ hi)) hr1
   obtain ⟨c2, c3, c4, c5⟩ := matchShs_view h hM hy (fun c hc => hg c (List.mem_append_right _ hc)) hv.2 (fun q t hq => hρ q t (List.mem_append_right _ hq)) (fun i hi => hrd i (List.mem_append_right _ hi)) hr2
   refine ⟨?_, fun q i hq => ?_, ⟨b4, c4⟩, fun k B hB => ?_⟩
   ·simp only [MO.add, shB, List.map_append, b2, c2]
   ·rcases List.mem_append.1 hq with hq | hq
    ·exact b3 q i hq
    ·exact c3 q i hq
   ·rcases List.mem_append.1 hB with hB | hB
    ·exact b5 k B hB
    ·exact c5 k B hB
 | [], _ :: _, vs, p, v0, o, hm, _, _, _, _, _ => by simp [matchShs] at hm
 | _ :: _, [], vs, p, v0, o, hm, _, _, _, _, _ => by simp [matchShs] at hm
end
section
variable {N : Nat → Prop} {h' : Nat → Option Blk}
theorem csA_ok : ∀ {l : List CS} {v p : Nat}, (∀ i, v ≤ i → i < v + l.length → N i) → (∀ k B, (k, B) ∈ csB v p l → (h' k).isSome = true) → ∀ a ∈ csA v p l, a.ok N h'
 | [], _, _, _, _, a, ha => by cases ha
 | c :: l, v, p, hN, hh, a, ha => by
  rcases List.mem_cons.1 ha with rfl | ha
  ·cases c with
   | p t => exact hN v (Nat.le_refl _) (by simp)
   | arr dp t => exact hh p _ (List.mem_append_left _ (List.mem_singleton.2 rfl))
   | box t => exact hh p _ (List.mem_append_left _ (List.mem_singleton.2 rfl))
   | eat dp t => exact hh (2000 + v) _ (List.mem_append_left _ (List.mem_singleton.2 rfl))
   | self f => exact hh p _ (List.mem_append_left _ (List.mem_singleton.2 rfl))
  ·exact csA_ok (fun i h1 h2 => hN i (by omega) (by simp only [List.length_cons]; omega)) (fun k B hB => hh k B (List.mem_append_right _ hB)) a ha
def BlOf (v n : Nat) (p : CS → Prop) (B : Blk) : Prop :=
 ∃ i, v ≤ i ∧ i < v + n ∧ ((∃ dp t, B = .arr dp t (.var (.sl false t) i) ∧ (p (.arr dp t) ∨ p (.eat dp t))) ∨ (∃ t, B = .box (cellsE t (.var t i)) ∧ p (.box t)) ∨ ∃ f, B = .box [.no] ∧ p (.self f))
theorem BlOf.mono {v n v' n' : Nat} {p p' : CS → Prop} {B : Blk} (h : BlOf v n p B) (h1 : v' ≤ v) (h2 : v + n ≤ v' + n') (hp : ∀ c, p c → p' c) : BlOf v' n' p' B := by
 obtain ⟨i, a1, a2, a3⟩ := h
 refine ⟨i, by omega, by omega, ?_⟩
 rcases a3 with ⟨dp, t, b1, b2⟩ | ⟨t, b1, b2⟩ | ⟨f, b1, b2⟩
 ·exact .inl ⟨dp, t, b1, b2.imp (hp _) (hp _)⟩
 ·exact .inr (.inl ⟨t, b1, hp _ b2⟩)
 ·exact .inr (.inr ⟨f, b1, hp _ b2⟩)
theorem csB_ok : ∀ {l : List CS} {v p : Nat}, (∀ i, v ≤ i → i < v + l.length → N i) → ∀ k B, (k, B) ∈ csB v p l → B.ok N h' ∧ BlOf v l.length (· ∈ l) B
 | [], _, _, _, k, B, hB => by cases hB
 | c :: l, v, p, hN, k, B, hB => by
  rcases List.mem_append.1 hB with hB | hB
  ·have hl : v < v + (c :: l).length := by simp
   cases c with
   | p t => cases hB
   | arr dp t =>
    simp only [CS.bl, List.mem_singleton, Prod.mk.injEq] at hB
    obtain ⟨rfl, rfl⟩ := hB
    exact ⟨hN v (Nat.le_refl _) hl, v, Nat.le_refl _, hl, .inl ⟨dp, t, rfl, .inl (List.mem_cons_self ..)⟩⟩
   | eat dp t =>
    simp only [CS.bl, List.mem_singleton, Prod.mk.injEq] at hB
    obtain ⟨rfl, rfl⟩ := hB
    exact ⟨hN v (Nat.le_refl _) hl, v, Nat.le_refl _, hl, .inl ⟨dp, t, rfl, .inr (List.mem_cons_self ..)⟩⟩
   | box t =>
    simp only [CS.bl, List.mem_singleton, Prod.mk.injEq] at hB
    obtain ⟨rfl, rfl⟩ := hB
    exact ⟨cellsE_ok (e := .var t v) (hN v (Nat.le_refl _) hl), v, Nat.le_refl _, hl, .inr (.inl ⟨t, rfl, List.mem_cons_self ..⟩)⟩
   | self f =>
    simp only [CS.bl, List.mem_singleton, Prod.mk.injEq] at hB
    obtain ⟨rfl, rfl⟩ := hB
    exact ⟨fun a ha => (by rw [List.mem_singleton.1 ha]; exact trivial), v, Nat.le_refl _, hl, .inr (.inr ⟨f, rfl, List.mem_cons_self ..⟩)⟩
  ·obtain ⟨h1, h2⟩ := csB_ok (l := l) (fun i h1 h2 => hN i (by omega) (by simp only [List.length_cons]; omega)) k B hB
   exact ⟨h1, h2.mono (by omega) (by simp only [List.length_cons]; omega) fun c hc => List.mem_cons_of_mem _ hc⟩
theorem shSV_ok : ∀ {l : List Sh} {v p : Nat}, (∀ i, v ≤ i → i < v + shN l → N i) → (∀ k B, (k, B) ∈ shB v p l → (h' k).isSome = true) → ∀ x ∈ shSV v p l, x.all (Atom.ok N h')
 | [], _, _, _, _, x, hx => by cases hx
 | c :: l, v, p, hN, hh, x, hx => by
  simp only [shN] at hN
  rcases List.mem_cons.1 hx with rfl | hx
  ·have h1 : ∀ a ∈ csA v p c.cs, a.ok N h' := csA_ok (fun i h1 h2 => hN i h1 (by omega)) (fun k B hB => hh k B (List.mem_append_left _ hB))
   cases c with
   | p t => exact h1 _ (List.mem_singleton.2 rfl)
   | agg m => exact h1
   | arr dp t => exact h1 _ (List.mem_singleton.2 rfl)
   | box t => exact h1 _ (List.mem_singleton.2 rfl)
   | eat dp t => exact h1 _ (List.mem_singleton.2 rfl)
   | self f => exact h1 _ (List.mem_singleton.2 rfl)
  ·exact shSV_ok (fun i h1 h2 => hN i (by omega) (by omega)) (fun k B hB => hh k B (List.mem_append_right _ hB)) x hx
theorem shB_ok : ∀ {l : List Sh} {v p : Nat}, (∀ i, v ≤ i → i < v + shN l → N i) → ∀ k B, (k, B) ∈ shB v p l → B.ok N h' ∧ BlOf v (shN l) (fun c => ∃ h ∈ l, c ∈ h.cs) B
 | [], _, _, _, k, B, hB => by cases hB
 | c :: l, v, p, hN, k, B, hB => by
  simp only [shN] at hN ⊢
  rcases List.mem_append.1 hB with hB | hB
  ·obtain ⟨h1, h2⟩ := csB_ok (l := c.cs) (fun i h1 h2 => hN i h1 (by omega)) k B hB
   exact ⟨h1, h2.mono (Nat.le_refl _) (by omega) fun c' hc => ⟨c, List.mem_cons_self .., hc⟩⟩
  ·obtain ⟨h1, h2⟩ := shB_ok (l := l) (fun i h1 h2 => hN i (by omega) (by omega)) k B hB
   exact ⟨h1, h2.mono (by omega) (by omega) fun c' ⟨h, h3, h4⟩ => ⟨h, List.mem_cons_of_mem _ h3, h4⟩⟩
theorem csB_names : ∀ {l : List CS} {v p : Nat} {k : Nat} {B : Blk}, (k, B) ∈ csB v p l → (p ≤ k ∧ k < p + csArrs l) ∨ 2000 ≤ k
 | [], _, _, _, _, h => by cases h
 | c :: l, v, p, k, B, h => by
  simp only [csArrs]
  rcases List.mem_append.1 h with h | h
  ·cases c with
   | p t => cases h
   | _ =>
    simp only [CS.bl, List.mem_singleton, Prod.mk.injEq] at h
    simp only [CS.pins]; omega
  ·have := csB_names h; omega
theorem shB_names : ∀ {l : List Sh} {v p : Nat} {k : Nat} {B : Blk}, (k, B) ∈ shB v p l → (p ≤ k ∧ k < p + shPins l) ∨ 2000 ≤ k
 | [], _, _, _, _, h => by cases h
 | c :: l, v, p, k, B, h => by
  simp only [shPins]
  rcases List.mem_append.1 h with h | h
  ·have := csB_names h; omega
  ·have := shB_names h; omega
theorem csB_box_name : ∀ {l : List CS} {v p : Nat} {k : Nat} {m : List Atom}, (k, .box m) ∈ csB v p l → p ≤ k ∧ k < p + csArrs l
 | [], _, _, _, _, h => by cases h
 | c :: l, v, p, k, B, h => by
  simp only [csArrs]
  rcases List.mem_append.1 h with h | h
  ·cases c with
   | p t => cases h
   | box t =>
    simp only [CS.bl, List.mem_singleton, Prod.mk.injEq] at h
    simp only [CS.pins]; omega
   | self f =>
    simp only [CS.bl, List.mem_singleton, Prod.mk.injEq] at h
    simp only [CS.pins]; omega
   | _ => simp [CS.bl] at h
  ·have := csB_box_name h; omega
theorem shB_box_name : ∀ {l : List Sh} {v p : Nat} {k : Nat} {m : List Atom}, (k, .box m) ∈ shB v p l → p ≤ k ∧ k < p + shPins l
 | [], _, _, _, _, h => by cases h
 | c :: l, v, p, k, B, h => by
  simp only [shPins]
  rcases List.mem_append.1 h with h | h
  ·have := csB_box_name h; omega
  ·have := shB_box_name h; omega
theorem csKp_box : ∀ {l : List CS} {v p : Nat} {c : Nat × Nat}, c ∈ csKp p l → c.1 < p + csArrs l ∧ ∃ m, (c.1, .box m) ∈ csB v p l
 | [], _, _, _, h => by cases h
 | c :: l, v, p, q, h => by
  simp only [csArrs]
  rcases List.mem_append.1 h with h | h
  ·cases c with
   | box t =>
    simp only [CS.kp, List.mem_map] at h
    obtain ⟨j, -, rfl⟩ := h
    exact ⟨by simp only [CS.pins]; omega, _, List.mem_append_left _ (List.mem_singleton.2 rfl)⟩
   | self f =>
    simp only [CS.kp, List.mem_singleton] at h
    subst h
    exact ⟨by simp only [CS.pins]; omega, _, List.mem_append_left _ (List.mem_singleton.2 rfl)⟩
   | _ => cases h
  ·obtain ⟨h1, m, h2⟩ := csKp_box (v := v + 1) h
   exact ⟨by omega, m, List.mem_append_right _ h2⟩
theorem shKp_box : ∀ {l : List Sh} {v p : Nat} {c : Nat × Nat}, c ∈ shKp p l → c.1 < p + shPins l ∧ ∃ m, (c.1, .box m) ∈ shB v p l
 | [], _, _, _, h => by cases h
 | c :: l, v, p, q, h => by
  simp only [shPins]
  rcases List.mem_append.1 h with h | h
  ·obtain ⟨h1, m, h2⟩ := csKp_box (v := v) h
   exact ⟨by omega, m, List.mem_append_left _ h2⟩
  ·obtain ⟨h1, m, h2⟩ := shKp_box (v := v + c.cs.length) h
   exact ⟨by omega, m, List.mem_append_right _ h2⟩
theorem shB_app : ∀ {l m : List Sh} {v p : Nat} {k : Nat} {B : Blk}, (k, B) ∈ shB v p (l ++ m) → (k, B) ∈ shB v p l ∨ (k, B) ∈ shB (v + shN l) (p + shPins l) m
 | [], m, v, p, k, B, h => .inr h
 | c :: l, m, v, p, k, B, h => by
  rcases List.mem_append.1 h with h | h
  ·exact .inl (List.mem_append_left _ h)
  ·rcases shB_app h with h | h
   ·exact .inl (List.mem_append_right _ h)
   ·right
    simp only [shN, shPins]
    rw [← Nat.add_assoc, ← Nat.add_assoc]
    exact h
theorem shB_app' : ∀ {l m : List Sh} {v p : Nat} {k : Nat} {B : Blk}, ((k, B) ∈ shB v p l ∨ (k, B) ∈ shB (v + shN l) (p + shPins l) m) → (k, B) ∈ shB v p (l ++ m)
 | [], m, v, p, k, B, h => h.elim (fun h => by cases h) id
 | c :: l, m, v, p, k, B, h => by
  rcases h with h | h
  ·rcases List.mem_append.1 h with h | h
   ·exact List.mem_append_left _ h
   ·exact List.mem_append_right _ (shB_app' (.inl h))
  ·simp only [shN, shPins] at h
   rw [← Nat.add_assoc, ← Nat.add_assoc] at h
   exact List.mem_append_right _ (shB_app' (.inr h))
theorem shPins_app : ∀ {l m : List Sh}, shPins (l ++ m) = shPins l + shPins m
 | [], m => by simp [shPins]
 | c :: l, m => by simp only [List.cons_append, shPins, shPins_app]; omega
theorem backCS_pins : ∀ {l : List CS}, shPins (backCS l) = csArrs l
 | [] => rfl
 | .p t :: l => by simp only [backCS, csArrs, CS.pins, backCS_pins (l := l)]; omega
 | .eat dp t :: l => by simp only [backCS, csArrs, CS.pins, backCS_pins (l := l)]; omega
 | .arr dp t :: l => by simp only [backCS, shPins, csArrs, CS.pins, Sh.cs, backCS_pins (l := l)]
 | .box t :: l => by simp only [backCS, shPins, csArrs, CS.pins, Sh.cs, backCS_pins (l := l)]
 | .self f :: l => by simp only [backCS, shPins, csArrs, CS.pins, Sh.cs, backCS_pins (l := l)]
theorem backShs_pins : ∀ {l : List Sh}, shPins (backShs l) = shPins l
 | [] => rfl
 | c :: l => by simp only [backShs, shPins, shPins_app, backCS_pins, backShs_pins (l := l)]
theorem backCS_box : ∀ {l : List CS} {v p : Nat} {k : Nat} {m : List Atom}, (k, .box m) ∈ shB v p (backCS l) → (∃ t i, m = cellsE t (.var t i) ∧ v ≤ i ∧ i < v + shN (backCS l) ∧ ∀ j ∈ slCells t, (k, j) ∈ csKp p l) ∨ (m = [.no] ∧ (k, 0) ∈ csKp p l)
 | [], _, _, _, _, h => by cases h
 | .p t :: l, v, p, k, m, h => by
  rcases backCS_box (l := l) h with ⟨t, i, h1, h2, h3, h4⟩ | ⟨h1, h2⟩
  ·exact .inl ⟨t, i, h1, h2, h3, fun j hj => List.mem_append_right _ (h4 j hj)⟩
  ·exact .inr ⟨h1, List.mem_append_right _ h2⟩
 | .eat dp t :: l, v, p, k, m, h => by
  rcases backCS_box (l := l) h with ⟨t, i, h1, h2, h3, h4⟩ | ⟨h1, h2⟩
  ·exact .inl ⟨t, i, h1, h2, h3, fun j hj => List.mem_append_right _ (h4 j hj)⟩
  ·exact .inr ⟨h1, List.mem_append_right _ h2⟩
 | .arr dp t :: l, v, p, k, m, h => by
  rcases List.mem_append.1 h with h | h
  ·simp [csB, Sh.cs, CS.bl] at h
  ·rcases backCS_box (l := l) h with ⟨t, i, h1, h2, h3, h4⟩ | ⟨h1, h2⟩
   ·simp only [backCS, shN, Sh.cs, List.length_singleton] at h2 h3 ⊢
    exact .inl ⟨t, i, h1, by omega, by omega, fun j hj => List.mem_append_right _ (h4 j hj)⟩
   ·exact .inr ⟨h1, List.mem_append_right _ h2⟩
 | .box t :: l, v, p, k, m, h => by
  rcases List.mem_append.1 h with h | h
  ·simp only [csB, Sh.cs, CS.bl, List.append_nil, List.mem_singleton, Prod.mk.injEq, Blk.box.injEq] at h
   obtain ⟨rfl, rfl⟩ := h
   simp only [backCS, shN, Sh.cs, List.length_singleton]
   exact .inl ⟨t, v, rfl, Nat.le_refl _, by omega, fun j hj => List.mem_append_left _ (List.mem_map.2 ⟨j, hj, rfl⟩)⟩
  ·rcases backCS_box (l := l) h with ⟨t, i, h1, h2, h3, h4⟩ | ⟨h1, h2⟩
   ·simp only [backCS, shN, Sh.cs, List.length_singleton] at h2 h3 ⊢
    exact .inl ⟨t, i, h1, by omega, by omega, fun j hj => List.mem_append_right _ (h4 j hj)⟩
   ·exact .inr ⟨h1, List.mem_append_right _ h2⟩
 | .self f :: l, v, p, k, m, h => by
  rcases List.mem_append.1 h with h | h
  ·simp only [csB, Sh.cs, CS.bl, List.append_nil, List.mem_singleton, Prod.mk.injEq, Blk.box.injEq] at h
   obtain ⟨rfl, rfl⟩ := h
   exact .inr ⟨rfl, List.mem_append_left _ (List.mem_singleton.2 rfl)⟩
  ·rcases backCS_box (l := l) h with ⟨t, i, h1, h2, h3, h4⟩ | ⟨h1, h2⟩
   ·simp only [backCS, shN, Sh.cs, List.length_singleton] at h2 h3 ⊢
    exact .inl ⟨t, i, h1, by omega, by omega, fun j hj => List.mem_append_right _ (h4 j hj)⟩
   ·exact .inr ⟨h1, List.mem_append_right _ h2⟩
theorem shN_app : ∀ {l m : List Sh}, shN (l ++ m) = shN l + shN m
 | [], m => by simp [shN]
 | c :: l, m => by simp only [List.cons_append, shN, shN_app]; omega
theorem backShs_box : ∀ {l : List Sh} {v p : Nat} {k : Nat} {m : List Atom}, (k, .box m) ∈ shB v p (backShs l) → (∃ t i, m = cellsE t (.var t i) ∧ v ≤ i ∧ i < v + shN (backShs l) ∧ ∀ j ∈ slCells t, (k, j) ∈ shKp p l) ∨ (m = [.no] ∧ (k, 0) ∈ shKp p l)
 | [], _, _, _, _, h => by cases h
 | c :: l, v, p, k, m, h => by
  simp only [backShs, shN_app]
  rcases shB_app h with h | h
  ·rcases backCS_box h with ⟨t, i, h1, h2, h3, h4⟩ | ⟨h1, h2⟩
   ·exact .inl ⟨t, i, h1, h2, by omega, fun j hj => List.mem_append_left _ (h4 j hj)⟩
   ·exact .inr ⟨h1, List.mem_append_left _ h2⟩
  ·rw [backCS_pins] at h
   rcases backShs_box h with ⟨t, i, h1, h2, h3, h4⟩ | ⟨h1, h2⟩
   ·exact .inl ⟨t, i, h1, by omega, by omega, fun j hj => List.mem_append_right _ (h4 j hj)⟩
   ·exact .inr ⟨h1, List.mem_append_right _ h2⟩
theorem csKp_back : ∀ {l : List CS} {v p : Nat} {c : Nat × Nat}, c ∈ csKp p l → ∃ m, (c.1, .box m) ∈ shB v p (backCS l)
 | [], _, _, _, h => by cases h
 | .p t :: l, v, p, c, h => csKp_back (l := l) (by simpa [csKp, CS.kp, CS.pins] using h)
 | .eat dp t :: l, v, p, c, h => csKp_back (l := l) (by simpa [csKp, CS.kp, CS.pins] using h)
 | .arr dp t :: l, v, p, c, h => by
  have h : c ∈ csKp (p + 1) l := by simpa [csKp, CS.kp, CS.pins] using h
  obtain ⟨m, hm⟩ := csKp_back (v := v + 1) h
  exact ⟨m, List.mem_append_right _ hm⟩
 | .box t :: l, v, p, c, h => by
  rcases List.mem_append.1 h with h | h
  ·simp only [CS.kp, List.mem_map] at h
   obtain ⟨j, -, rfl⟩ := h
   exact ⟨_, List.mem_append_left _ (List.mem_singleton.2 rfl)⟩
  ·obtain ⟨m, hm⟩ := csKp_back (v := v + 1) h
   exact ⟨m, List.mem_append_right _ hm⟩
 | .self f :: l, v, p, c, h => by
  rcases List.mem_append.1 h with h | h
  ·simp only [CS.kp, List.mem_singleton] at h
   subst h
   exact ⟨_, List.mem_append_left _ (List.mem_singleton.2 rfl)⟩
  ·obtain ⟨m, hm⟩ := csKp_back (v := v + 1) h
   exact ⟨m, List.mem_append_right _ hm⟩
theorem shKp_back : ∀ {l : List Sh} {v p : Nat} {c : Nat × Nat}, c ∈ shKp p l → ∃ m, (c.1, .box m) ∈ shB v p (backShs l)
 | [], _, _, _, h => by cases h
 | x :: l, v, p, c, h => by
  rcases List.mem_append.1 h with h | h
  ·obtain ⟨m, hm⟩ := csKp_back (v := v) h
   exact ⟨m, shB_app' (.inl hm)⟩
  ·obtain ⟨m, hm⟩ := shKp_back (v := v + shN (backCS x.cs)) h
   exact ⟨m, shB_app' (.inr (by rw [backCS_pins]; exact hm))⟩
theorem look_mem : ∀ {l : List (Nat × Blk)} {k : Nat} {B : Blk}, look l k = some B → (k, B) ∈ l
 | [], k, B, h => by simp [look] at h
 | (i, b) :: l, k, B, h => by
  unfold look at h
  cases hi : (i == k)
  ·rw [hi] at h; exact List.mem_cons_of_mem _ (look_mem h)
  ·rw [hi] at h
   simp only [cond_true, Option.some.injEq] at h
   simp only [beq_iff_eq] at hi
   subst hi; subst h
   exact List.mem_cons_self ..
theorem look_some : ∀ {l : List (Nat × Blk)} {k : Nat} {B : Blk}, (k, B) ∈ l → (look l k).isSome = true
 | (i, b) :: l, k, B, h => by
  unfold look
  cases hi : (i == k)
  ·rcases List.mem_cons.1 h with h | h
   ·cases h; simp at hi
   ·simpa using look_some h
  ·rfl
theorem tgOf_mem : ∀ {l : List (Nat × Option Nat)} {q : Nat} {t : Option Nat}, nodupB (l.map (·.1)) = true → (q, t) ∈ l → tgOf l q = t
 | (i, x) :: l, q, t, hn, h => by
  simp only [List.map_cons, nodupB, Bool.and_eq_true, Bool.not_eq_true', List.contains_eq_mem, decide_eq_false_iff_not] at hn
  unfold tgOf
  rcases List.mem_cons.1 h with h | h
  ·cases h; simp
  ·have : i ≠ q := by
    rintro rfl
    exact hn.1 (List.mem_map.2 ⟨_, h, rfl⟩)
   rw [if_neg this]
   exact tgOf_mem hn.2 h
theorem tgOf_some : ∀ {l : List (Nat × Option Nat)} {q i : Nat}, tgOf l q = some i → (q, some i) ∈ l
 | [], q, i, h => by simp [tgOf] at h
 | (a, x) :: l, q, i, h => by
  unfold tgOf at h
  split at h
  ·rename_i ha; subst ha; subst h; exact List.mem_cons_self ..
  ·exact List.mem_cons_of_mem _ (tgOf_some h)
end
end Go.Sm
namespace Go.Sm
set_option linter.unusedVariables false
set_option linter.unusedSimpArgs false
def pack (vs : List Value) : Value := if h : vs.toArray.size = 1 then vs.toArray[0] else .tuple vs.toArray
def Contract (P : Program) (f : FuncId) (sig : Sig) (ins outs : List AV) : Prop :=
 Enters P f ∧ outs.length = sig.outs ∧ ∀ (bd : Bd) (g : Nat → G) (args : List Value) (w : World), R bd (· < shN sig.ps) sig.ini1 (envOf ins) g args.toArray [] w → bd.w0 = w →
  Calls P f args.toArray w fun e w' => ∃ vals g', e = .returned (pack vals) ∧ R bd (· < sig.outs) sig.fin (envOf outs) g' vals.toArray [] w'
def KOK (c : Cx) (K : Sem1) : Prop := ∀ f sig ins outs, c.sg f = some sig → K f ins = some outs → Contract c.P f sig ins outs
section
variable {bd : Bd} {N : Nat → Prop} {s : St} {r r' : Env} {g : Nat → G} {tm : Array Value} {st : List (Array Value)} {w : World}
theorem R.env (h : R bd N s r g tm st w) (hr : ∀ i, N i → r' i = r i) : R bd N s r' g tm st w := by
 have hk : Kept w (Mt bd.Z s.heap g) w (Mt bd.Z s.heap g) := Kept.refl _ _
 have ha : ∀ a v, a.ok N s.heap → ARep w (Mt bd.Z s.heap g) g r a v → ARep w (Mt bd.Z s.heap g) g r' a v := fun a v ha hv => ARep.keep hk hr ha.vs (fun _ _ => ⟨rfl, rfl⟩) (fun _ _ _ => ⟨rfl, fun _ _ _ _ _ => rfl⟩) hv
 have h1 := h.step (g' := g) (w' := w) (N' := N) (r' := r') id s.heap s.base ha (fun a ha => ha) (fun i B hB => ?_) h.inj h.nodup h.own h.lt h.world h.kept (fun _ _ => ⟨rfl, rfl⟩) (fun c hc => (h.kpl c hc).2) h.nheap
 ·have e1 : s.cur.map (SV.map id) = s.cur := by rw [List.map_congr_left (fun v _ => SV.map_id id (fun _ => rfl) v)]; simp
  have e2 : s.stk.map (List.map (SV.map id)) = s.stk := by
   rw [List.map_congr_left (g := fun l => l) (fun l _ => by rw [List.map_congr_left (fun v _ => SV.map_id id (fun _ => rfl) v)]; simp)]; simp
  rw [e1, e2] at h1
  exact h1
 ·have := (h.heap i B hB).keep (f := id) (h0 := s.heap) hk hr ha (h.nheap i B hB) rfl (fun b _ => rfl)
  rwa [Blk.map_id id (fun _ => rfl)] at this
theorem ids_inj : ∀ {l : List (Nat × Option Nat)} {k k' i : Nat}, nodupB (l.filterMap (·.2)) = true → (k, some i) ∈ l → (k', some i) ∈ l → k = k'
 | (a, x) :: l, k, k', i, hn, h, h' => by
  have hmem : ∀ {q}, (q, some i) ∈ l → i ∈ l.filterMap (·.2) := fun hq => List.mem_filterMap.2 ⟨_, hq, rfl⟩
  cases x with
  | none =>
   simp only [List.filterMap_cons] at hn
   rcases List.mem_cons.1 h with h | h
   ·cases h
   ·rcases List.mem_cons.1 h' with h' | h'
    ·cases h'
    ·exact ids_inj hn h h'
  | some y =>
   simp only [List.filterMap_cons, nodupB, Bool.and_eq_true, Bool.not_eq_true', List.contains_eq_mem, decide_eq_false_iff_not] at hn
   rcases List.mem_cons.1 h with h1 | h1
   ·cases h1
    rcases List.mem_cons.1 h' with h2 | h2
    ·cases h2; rfl
    ·exact (hn.1 (hmem h2)).elim
   ·rcases List.mem_cons.1 h' with h2 | h2
    ·cases h2; exact (hn.1 (hmem h1)).elim
    ·exact ids_inj hn.2 h1 h2
theorem look_of_mem : ∀ {l : List (Nat × Blk)} {k : Nat} {B : Blk}, nodupB (l.map (·.1)) = true → (k, B) ∈ l → look l k = some B
 | (i, b) :: l, k, B, hn, h => by
  simp only [List.map_cons, nodupB, Bool.and_eq_true, Bool.not_eq_true', List.contains_eq_mem, decide_eq_false_iff_not] at hn
  unfold look
  rcases List.mem_cons.1 h with h | h
  ·cases h; simp
  ·have : (i == k) = false := by
    simp only [beq_eq_false_iff_ne, ne_eq]
    rintro rfl
    exact hn.1 (List.mem_map.2 ⟨_, h, rfl⟩)
   rw [this]
   exact look_of_mem hn.2 h
theorem psi_inj {ψ : Nat → Nat} {φ : Nat × Blk → Blk} {l : List (Nat × Blk)} {p q : Nat} {B C : Blk} (hn : nodupB ((l.map fun x => (ψ x.1, φ x)).map (·.1)) = true) (h : (p, B) ∈ l) (h' : (q, C) ∈ l) (he : ψ p = ψ q) : p = q ∧ B = C := by
 induction l with
 | nil => cases h
 | cons x l ih =>
  simp only [List.map_cons, nodupB, Bool.and_eq_true, Bool.not_eq_true', List.contains_eq_mem, decide_eq_false_iff_not] at hn
  have hmem : ∀ {q C}, (q, C) ∈ l → ψ q ∈ (l.map fun x => (ψ x.1, φ x)).map (·.1) := fun hq => List.mem_map.2 ⟨_, List.mem_map.2 ⟨_, hq, rfl⟩, rfl⟩
  rcases List.mem_cons.1 h with h | h
  ·rcases List.mem_cons.1 h' with h' | h'
   ·have hh : (p, B) = (q, C) := h.trans h'.symm
    exact ⟨congrArg Prod.fst hh, congrArg Prod.snd hh⟩
   ·rw [← h] at hn
    exact (hn.1 (he ▸ hmem h')).elim
  ·rcases List.mem_cons.1 h' with h' | h'
   ·rw [← h'] at hn
    exact (hn.1 (he ▸ hmem h)).elim
   ·exact ih hn.2 h h'
theorem uses_ids {a : Atom} {i : Nat} (h : a.uses i = true) : i ∈ a.ids := by
 cases a <;> simp only [Atom.uses, beq_iff_eq, Bool.false_eq_true, List.any_eq_true, Atom.ids, List.mem_singleton] at h ⊢ <;> try exact h.symm
 obtain ⟨c, hc, rfl⟩ := h
 exact List.mem_map.2 ⟨c, hc, rfl⟩
theorem ini_ok {a : Act} (h : R bd N s r g a.tmps st w) {sig : Sig} {ops : List Operand} {o : MO} (hm : matchShs s.heap 0 0 sig.ps (ops.map s.get) = some o) (hok : o.ok = true) (hnb : nodupB ((shB 0 0 sig.ps).map (·.1)) = true) (hg : ∀ c ∈ o.gs, den c r = true) :
  R ⟨fun b => ∃ i ∈ o.ids, b ∈ (g i).foot, w, (List.range (shPins sig.ps)).map (gren (tgOf o.tg) g), shKp 0 sig.ps, fun k j => cell w (gren (tgOf o.tg) g k).blk j, fun b => (∃ j B, s.heap j = some B ∧ j ∉ o.ids ∧ j ∉ o.rd ∧ b ∈ (g j).foot) ∨ bd.Z b⟩
   (· < shN sig.ps) sig.ini (envOf (o.es.map (denA · r))) (gren (tgOf o.tg) g) (ops.map a.eval).toArray [] w ∧ ∀ i ∈ o.ids, ∃ B, s.heap i = some B := by
 simp only [MO.ok, Bool.and_eq_true, List.all_eq_true, Bool.not_eq_true', List.contains_eq_mem, decide_eq_false_iff_not] at hok
 obtain ⟨⟨hids, hnames⟩, hrd⟩ := hok
 obtain ⟨hargs, -⟩ := SReps.get_ops h ops
 have hρ : ∀ q t, (q, t) ∈ o.tg → tgOf o.tg q = t := fun q t hq => tgOf_mem hnames hq
 have hr : ∀ i x, o.es[i]? = some x → envOf (o.es.map (denA · r)) (0 + i) = denA x r := fun i x hi => envOf_get (by simp [hi])
 obtain ⟨-, hlive0, -, -⟩ := matchShs_view (ρ := tgOf o.tg) (r' := envOf (o.es.map (denA · r))) (M' := fun _ => False) h (fun b hb => hb.elim) hm hg hargs hρ (fun i _ B _ x _ hx => hx) hr
 have hlive : ∀ i ∈ o.ids, ∃ B, s.heap i = some B := by
  intro i hi
  obtain ⟨⟨q, t⟩, hq, ht⟩ := List.mem_filterMap.1 hi
  simp only at ht
  subst ht
  exact hlive0 q i hq
 have hid : ∀ k i, tgOf o.tg k = some i → i ∈ o.ids := fun k i hk => List.mem_filterMap.2 ⟨_, tgOf_some hk, rfl⟩
 refine ⟨?_, hlive⟩
 generalize hbd : (⟨fun b => ∃ i ∈ o.ids, b ∈ (g i).foot, w, (List.range (shPins sig.ps)).map (gren (tgOf o.tg) g), shKp 0 sig.ps, fun k j => cell w (gren (tgOf o.tg) g k).blk j, fun b => (∃ j B, s.heap j = some B ∧ j ∉ o.ids ∧ j ∉ o.rd ∧ b ∈ (g j).foot) ∨ bd.Z b⟩ : Bd) = bd'
 have hZ : ∀ b, bd'.Z b ↔ ((∃ j B, s.heap j = some B ∧ j ∉ o.ids ∧ j ∉ o.rd ∧ b ∈ (g j).foot) ∨ bd.Z b) := fun b => by rw [← hbd]
 have hfoot : ∀ k b, b ∈ (gren (tgOf o.tg) g k).foot → ∃ i, i ∈ o.ids ∧ b ∈ (g i).foot := by
  intro k b hb
  cases hi : tgOf o.tg k with
  | none => simp [gren, hi, nilG] at hb
  | some i => rw [gren_some hi] at hb; exact ⟨i, hid k i hi, hb⟩
 have hM : ∀ b, Mt bd'.Z sig.ini.heap (gren (tgOf o.tg) g) b → Mt bd.Z s.heap g b := by
  rintro b (⟨k, B, hk, hb⟩ | hz)
  ·obtain ⟨i, h1, h2⟩ := hfoot k b hb
   obtain ⟨C, hC⟩ := hlive i h1
   exact .inl ⟨i, C, hC, h2⟩
  ·rcases (hZ b).1 hz with ⟨j, C, h1, _, _, h2⟩ | hz
   ·exact .inl ⟨j, C, h1, h2⟩
   ·exact .inr hz
 have hrd' : ∀ i ∈ o.rd, ∀ B, s.heap i = some B → ∀ x ∈ (g i).foot, ¬ Mt bd'.Z sig.ini.heap (gren (tgOf o.tg) g) x := by
  rintro i hi B hB x hx (⟨k, C, hk, hb⟩ | hz)
  ·obtain ⟨j, h1, h2⟩ := hfoot k x hb
   obtain ⟨D, hD⟩ := hlive j h1
   have := h.inj i j B D x hB hD hx h2
   subst this
   exact hrd i hi h1
  ·rcases (hZ x).1 hz with ⟨j, C, h1, _, h3, h2⟩ | hz
   ·have := h.inj i j B C x hB h1 hx h2
    subst this
    exact h3 hi
   ·exact h.notZ hB hx hz
 obtain ⟨hn, -, hcur, hblk⟩ := matchShs_view (ρ := tgOf o.tg) (r' := envOf (o.es.map (denA · r))) h hM hm hg hargs hρ hrd' hr
 refine h.view (ρ := tgOf o.tg) (bd' := bd') (s' := sig.ini) ?_ ?_ ?_ ?_ trivial ?_ ?_ ?_ ?_ ?_ ?_ ?_ ?_ ?_ ?_
 ·intro k B' _ i hi
  exact hlive i (hid k i hi)
 ·intro k k' i _ _ h1 h2
  exact ids_inj hids (tgOf_some h1) (tgOf_some h2)
 ·intro k B' hk
  exact hblk k B' (look_mem hk)
 ·simpa [Sig.ini] using hcur
 ·intro k B _ b hb
  obtain ⟨i, h1, h2⟩ := hfoot k b hb
  rw [← hbd]
  exact .inl ⟨i, h1, h2⟩
 ·rw [← hbd]
  refine ⟨rfl, rfl, rfl, Nat.le_refl _, fun _ _ _ => rfl, ?_⟩
  rintro k (⟨j, C, h1, h2, h3, h4⟩ | hz)
  ·refine ⟨h.lt j C h1 k h4, ?_⟩
   rintro ⟨i, h5, h6⟩
   obtain ⟨D, hD⟩ := hlive i h5
   have := h.inj j i C D k h1 hD h4 h6
   subst this
   exact h2 h5
  ·refine ⟨Nat.lt_of_lt_of_le (h.world.zone k hz).1 h.world.size, ?_⟩
   rintro ⟨i, h5, h6⟩
   obtain ⟨D, hD⟩ := hlive i h5
   exact h.notZ hD h6 hz
 ·intro k p hp hk
  rw [← hbd] at hp
  simp only [List.getElem?_map, Option.map_eq_some_iff] at hp
  obtain ⟨j, h1, rfl⟩ := hp
  have : j = k := by
   have h2 := List.getElem?_eq_some_iff.1 h1
   obtain ⟨h3, h4⟩ := h2
   simpa using h4.symm
  subst this
  exact ⟨rfl, rfl⟩
 ·rw [← hbd]; simp [Sig.ini]
 ·rw [← hbd]; rfl
 ·intro c hc; rw [← hbd]
 ·intro c hc
  rw [← hbd] at hc
  obtain ⟨h1, m, h2⟩ := shKp_box (v := 0) hc
  exact ⟨by simpa [Sig.ini] using h1, m, look_of_mem hnb h2⟩
 ·exact shSV_ok (fun i _ h2 => by simpa using h2) (fun k B hB => look_some hB)
 ·intro f hf; simp [Sig.ini] at hf
 ·intro k B hk
  exact (shB_ok (fun i _ h2 => by simpa using h2) k B (look_mem hk)).1
theorem selfOf_box : ∀ {l : List Sh} {v p k : Nat} {f : FuncId}, selfOf p l = some (k, f) → p ≤ k ∧ (k, .box [.no]) ∈ shB v p l
 | [], v, p, k, f, h => by simp [selfOf] at h
 | .self f0 :: l, v, p, k, f, h => by
  simp only [selfOf, Option.some.injEq, Prod.mk.injEq] at h
  obtain ⟨rfl, rfl⟩ := h
  exact ⟨Nat.le_refl _, List.mem_append_left _ (List.mem_append_left _ (List.mem_singleton.2 rfl))⟩
 | .p t :: l, v, p, k, f, h => have h1 := selfOf_box (l := l) (v := v + (Sh.p t).cs.length) h; ⟨by omega, List.mem_append_right _ h1.2⟩
 | .agg t :: l, v, p, k, f, h => have h1 := selfOf_box (l := l) (v := v + (Sh.agg t).cs.length) h; ⟨by omega, List.mem_append_right _ h1.2⟩
 | .arr dp t :: l, v, p, k, f, h => have h1 := selfOf_box (l := l) (v := v + (Sh.arr dp t).cs.length) h; ⟨by omega, List.mem_append_right _ h1.2⟩
 | .box t :: l, v, p, k, f, h => have h1 := selfOf_box (l := l) (v := v + (Sh.box t).cs.length) h; ⟨by omega, List.mem_append_right _ h1.2⟩
 | .eat dp t :: l, v, p, k, f, h => have h1 := selfOf_box (l := l) (v := v + (Sh.eat dp t).cs.length) h; ⟨by omega, List.mem_append_right _ h1.2⟩
theorem csB_pin : ∀ {l : List CS} {v p k : Nat}, p ≤ k → k < p + csArrs l → ∃ B, (k, B) ∈ csB v p l
 | [], v, p, k, h1, h2 => by simp only [csArrs] at h2; omega
 | c :: l, v, p, k, h1, h2 => by
  simp only [csArrs] at h2
  by_cases h3 : k < p + c.pins
  ·cases c with
   | p t => simp only [CS.pins] at h3; omega
   | eat dp t => simp only [CS.pins] at h3; omega
   | arr dp t => simp only [CS.pins] at h3; obtain rfl : k = p := by omega
                 exact ⟨_, List.mem_append_left _ (List.mem_singleton.2 rfl)⟩
   | box t => simp only [CS.pins] at h3; obtain rfl : k = p := by omega
              exact ⟨_, List.mem_append_left _ (List.mem_singleton.2 rfl)⟩
   | self f => simp only [CS.pins] at h3; obtain rfl : k = p := by omega
               exact ⟨_, List.mem_append_left _ (List.mem_singleton.2 rfl)⟩
  ·obtain ⟨B, hB⟩ := csB_pin (l := l) (v := v + 1) (p := p + c.pins) (k := k) (by omega) (by omega)
   exact ⟨B, List.mem_append_right _ hB⟩
theorem shB_pin : ∀ {l : List Sh} {v p k : Nat}, p ≤ k → k < p + shPins l → ∃ B, (k, B) ∈ shB v p l
 | [], v, p, k, h1, h2 => by simp only [shPins] at h2; omega
 | c :: l, v, p, k, h1, h2 => by
  simp only [shPins] at h2
  by_cases h3 : k < p + csArrs c.cs
  ·obtain ⟨B, hB⟩ := csB_pin (l := c.cs) (v := v) h1 h3
   exact ⟨B, List.mem_append_left _ hB⟩
  ·obtain ⟨B, hB⟩ := shB_pin (l := l) (v := v + c.cs.length) (p := p + csArrs c.cs) (k := k) (by omega) (by omega)
   exact ⟨B, List.mem_append_right _ hB⟩
theorem ini1_ok {a : Act} (h : R bd N s r g a.tmps st w) {sig : Sig} {o : MO} {bd' : Bd} {r' : Env} {tm' : Array Value} {st' : List (Array Value)}
  (hb : R bd' (· < shN sig.ps) sig.ini r' (gren (tgOf o.tg) g) tm' st' w) (hnb : nodupB ((shB 0 0 sig.ps).map (·.1)) = true) (hs : selfOk sig.ps s.heap o.tg = true) :
  R bd' (· < shN sig.ps) sig.ini1 r' (gren (tgOf o.tg) g) tm' st' w := by
 unfold selfOk at hs
 cases hso : selfOf 0 sig.ps with
 | none => 
  have : sig.ini1 = sig.ini := by simp only [Sig.ini1, Sig.ini, selfUp, hso]
  rw [this]; exact hb
 | some pf =>
  obtain ⟨p, f⟩ := pf
  rw [hso] at hs
  simp only at hs
  split at hs
  case h_2 => cases hs
  rename_i i hi
  split at hs
  case h_2 => cases hs
  rename_i f' caps hh
  simp only [Bool.and_eq_true, decide_eq_true_eq, List.all_eq_true, List.mem_range] at hs
  obtain ⟨⟨rfl, hall⟩, hcaps⟩ := hs
  have hmem := (selfOf_box (v := 0) hso).2
  have hlook : sig.ini.heap p = some (.box [.no]) := look_of_mem hnb hmem
  have hini1 : sig.ini1 = { sig.ini with heap := upd sig.ini.heap p (some (.box [.clo f' ((List.range (p + 1)).map fun k => (k, 0))])) } := by
   simp only [Sig.ini1, Sig.ini, selfUp, hso]
  rw [hini1]
  have hrep := h.heap i _ hh
  refine hb.reblk hlook (fun hB => ?_) ?_ (fun l hl => ⟨_, rfl⟩)
  ·simp only [BRep] at hB hrep ⊢
   obtain ⟨f1, c1, ty1, f2, f3⟩ := hB
   obtain ⟨-, c2, ty2, e2, e3⟩ := hrep
   rw [gren_some hi] at f1 f2
   rw [e2] at f2
   cases f2
   rw [gren_some hi]
   refine ⟨f1, c1, ty1, e2, ?_⟩
   generalize c1.toList = l at e3 ⊢
   match l, e3 with
   | [u], e3 =>
    refine ⟨?_, trivial⟩
    have e4 := e3.1
    simp only [ARep] at e4 ⊢
    rw [e4, hcaps]
    simp only [List.map_map]
    congr 2
    refine List.map_congr_left fun k hk => ?_
    have hk := hall k (List.mem_range.1 hk)
    obtain ⟨j, hj⟩ := Option.isSome_iff_exists.1 hk
    simp only [Function.comp, hj, Option.getD_some]
    rw [gren_some hj]
  ·intro b hb
   rw [List.mem_singleton.1 hb]
   intro c hc
   obtain ⟨k, hk, rfl⟩ := List.mem_map.1 hc
   obtain ⟨B, hB⟩ := shB_pin (l := sig.ps) (v := 0) (p := 0) (k := k) (Nat.zero_le _) (by have := List.mem_range.1 hk; have := (shB_box_name hmem).2; omega)
   exact look_some hB
end
section
variable {w : World} {M1 M2 : Nat → Prop} {gf g2 : Nat → G} {outs : List AV} {r2 : Env} {ψ : Nat → Nat} {d : Nat} {FL : List (Nat × Blk)} {h2 : Nat → Option Blk}
theorem shift_x (hr : ∀ v, v < outs.length → r2 (v + d) = envOf outs v) {t : Ty} {v : Nat} (hv : v < outs.length) : den (shiftE d (.var t v)) r2 = den (.var t v) (envOf outs) := by
 simp only [shiftE, den]
 rw [hr v hv]
def shOK (r2 : Env) (d : Nat) (outs : List AV) {t : Ty} (e : E t) : Prop := den (shiftE d e) r2 = den e (envOf outs) ∧ (shiftE d e).vs (· < d + outs.length)
theorem shOK.o1 {a b : Ty} {o : O1 a b} {e : E a} (h : shOK r2 d outs e) : shOK r2 d outs (.o1 o e) := by
 refine ⟨?_, h.2⟩
 simp only [shiftE, den]
 rw [h.1]
theorem shOK.var (hr : ∀ v, v < outs.length → r2 (v + d) = envOf outs v) {t : Ty} {v : Nat} (hv : v < outs.length) : shOK r2 d outs (.var t v) :=
 ⟨shift_x hr hv, by simp only [shiftE, E.vs]; omega⟩
theorem cells_shift {φ : Nat → Nat} : ∀ {t : Ty} {e : E t} {us : List Value}, (t.hasSl = false ∨ ∀ b, M2 b → M1 b) → shOK r2 d outs e → AReps w M1 gf (envOf outs) (cellsE t e) us →
  AReps w M2 g2 r2 ((cellsE t e).map (shiftA φ d)) us ∧ ∀ a ∈ (cellsE t e).map (shiftA φ d), a.ok (· < d + outs.length) h2 := by
 intro t
 have leaf : ∀ {t : Ty} {e : E t} {us : List Value}, (t.hasSl = false ∨ ∀ b, M2 b → M1 b) → shOK r2 d outs e → AReps w M1 gf (envOf outs) [.x t e] us →
   AReps w M2 g2 r2 ([Atom.x t e].map (shiftA φ d)) us ∧ ∀ a ∈ [Atom.x t e].map (shiftA φ d), a.ok (· < d + outs.length) h2 := by
  intro t e us hf he h
  match us, h with
  | [u], h =>
   refine ⟨⟨?_, trivial⟩, fun a ha => ?_⟩
   ·simp only [shiftA, ARep]
    rw [he.1]
    rcases hf with hf | hf
    ·exact Rep.flat hf h.1
    ·exact Rep.keep ⟨fun _ _ _ => rfl, fun b _ hb => hf b hb⟩ h.1
   ·simp only [List.map_cons, List.map_nil, List.mem_singleton] at ha
    subst ha
    exact he.2
  | [], h => exact h.elim
  | _ :: _ :: _, h => exact h.2.elim
 induction t with
 | int k => exact leaf
 | bool => exact leaf
 | str => exact leaf
 | sl c e ih => exact leaf
 | pr x y ihx ihy =>
  intro e us hf he h
  have split : ∀ {l m : List Atom} {us : List Value}, AReps w M1 gf (envOf outs) (l ++ m) us → ∃ u1 u2, us = u1 ++ u2 ∧ AReps w M1 gf (envOf outs) l u1 ∧ AReps w M1 gf (envOf outs) m u2 := by
   intro l
   induction l with
   | nil => intro m us h; exact ⟨[], us, rfl, trivial, h⟩
   | cons a l ih =>
    intro m us h
    cases us with
    | nil => exact h.elim
    | cons u us =>
     obtain ⟨u1, u2, rfl, h1, h2⟩ := ih h.2
     exact ⟨u :: u1, u2, rfl, ⟨h.1, h1⟩, h2⟩
  obtain ⟨u1, u2, rfl, h1, h2⟩ := split h
  obtain ⟨a1, a2⟩ := ihx (hf.imp_left fun q => by simp only [Ty.hasSl, Bool.or_eq_false_iff] at q; exact q.1) he.o1 h1
  obtain ⟨b1, b2⟩ := ihy (hf.imp_left fun q => by simp only [Ty.hasSl, Bool.or_eq_false_iff] at q; exact q.2) he.o1 h2
  simp only [cellsE, List.map_append]
  refine ⟨a1.append b1, fun b hb => ?_⟩
  rcases List.mem_append.1 hb with hb | hb
  ·exact a2 b hb
  ·exact b2 b hb
theorem mixA_app : ∀ (m1 m2 l : List Atom), mixA l (m1 ++ m2) = mixA l m1 ++ mixA (l.drop m1.length) m2
 | [], m2, l => by simp [mixA]
 | b :: m1, m2, l => by
  simp only [List.cons_append, mixA, mixA_app m1 m2 l.tail, List.length_cons, List.drop_tail]
theorem cellsE_len : ∀ {t : Ty} {e : E t}, (cellsE t e).length = t.size := by
 intro t
 induction t with
 | pr x y ihx ihy => intro e; simp only [cellsE, List.length_append, ihx, ihy, Ty.size]
 | _ => intro e; rfl
theorem cells_mix {φ : Nat → Nat} : ∀ {t : Ty} {e : E t} {us : List Value} {l : List Atom}, shOK r2 d outs e → AReps w M1 gf (envOf outs) (cellsE t e) us →
  (∀ j ∈ slCells t, ∀ u c t' e', us[j]? = some u → l[j]? = some (.x (.sl c t') e') → ARep w M2 g2 r2 (.x (.sl c t') e') u ∧ e'.vs (· < d + outs.length)) →
  AReps w M2 g2 r2 (mixA l ((cellsE t e).map (shiftA φ d))) us ∧ ∀ a ∈ mixA l ((cellsE t e).map (shiftA φ d)), a.ok (· < d + outs.length) h2 := by
 intro t
 have leaf : ∀ {t : Ty} {e : E t} {us : List Value} {l : List Atom}, t.hasSl = false → (∀ (o : Option Atom) (e : E t), mix1 o (.x t e) = .x t e) → shOK r2 d outs e → AReps w M1 gf (envOf outs) [.x t e] us →
   AReps w M2 g2 r2 (mixA l ([Atom.x t e].map (shiftA φ d))) us ∧ ∀ a ∈ mixA l ([Atom.x t e].map (shiftA φ d)), a.ok (· < d + outs.length) h2 := by
  intro t e us l hf hmx he h
  match us, h with
  | [u], h =>
   simp only [List.map_cons, List.map_nil, shiftA, mixA, hmx]
   refine ⟨⟨?_, trivial⟩, fun a ha => ?_⟩
   ·simp only [ARep]
    rw [he.1]
    exact Rep.flat hf h.1
   ·simp only [List.mem_singleton] at ha
    subst ha
    exact he.2
  | [], h => exact h.elim
  | _ :: _ :: _, h => exact h.2.elim
 induction t with
 | int k => intro e us l he h _; exact leaf rfl (fun o e => rfl) he h
 | bool => intro e us l he h _; exact leaf rfl (fun o e => rfl) he h
 | str => intro e us l he h _; exact leaf rfl (fun o e => rfl) he h
 | sl c t _ =>
  intro e us l he h hk
  match us, h with
  | [u], h =>
   simp only [cellsE, List.map_cons, List.map_nil, shiftA, mixA]
   have hno : ∀ {b : Atom}, b = .no → AReps w M2 g2 r2 [b] [u] ∧ ∀ a ∈ [b], a.ok (· < d + outs.length) h2 := by
    rintro b rfl
    exact ⟨⟨trivial, trivial⟩, fun a ha => by simp only [List.mem_singleton] at ha; subst ha; trivial⟩
   simp only [mix1]
   split
   ·rename_i c' t' e' heq
    obtain ⟨h1, h2⟩ := hk 0 (List.mem_singleton.2 rfl) u c' t' e' rfl (by rw [← heq]; exact (List.head?_eq_getElem? ..).symm)
    exact ⟨⟨h1, trivial⟩, fun a ha => by simp only [List.mem_singleton] at ha; subst ha; exact h2⟩
   ·exact hno rfl
  | [], h => exact h.elim
  | _ :: _ :: _, h => exact h.2.elim
 | pr x y ihx ihy =>
  intro e us l he h hk
  have split : ∀ {l m : List Atom} {us : List Value}, AReps w M1 gf (envOf outs) (l ++ m) us → ∃ u1 u2, us = u1 ++ u2 ∧ AReps w M1 gf (envOf outs) l u1 ∧ AReps w M1 gf (envOf outs) m u2 := by
   intro l
   induction l with
   | nil => intro m us h; exact ⟨[], us, rfl, trivial, h⟩
   | cons a l ih =>
    intro m us h
    cases us with
    | nil => exact h.elim
    | cons u us =>
     obtain ⟨u1, u2, rfl, h1, h2⟩ := ih h.2
     exact ⟨u :: u1, u2, rfl, ⟨h.1, h1⟩, h2⟩
  obtain ⟨u1, u2, rfl, h1, h2⟩ := split h
  have hu1 : u1.length = x.size := by rw [← h1.length, cellsE_len]
  obtain ⟨a1, a2⟩ := ihx (l := l) he.o1 h1 fun j hj u c t' e' hu hl => hk j (by simp only [slCells]; exact List.mem_append_left _ hj) u c t' e' (by rw [List.getElem?_append_left (List.getElem?_eq_some_iff.1 hu).1]; exact hu) hl
  obtain ⟨b1, b2⟩ := ihy (l := l.drop x.size) he.o1 h2 fun j hj u c t' e' hu hl => hk (j + x.size) (by simp only [slCells]; exact List.mem_append_right _ (List.mem_map.2 ⟨j, hj, rfl⟩)) u c t' e'
   (by rw [List.getElem?_append_right (by omega), hu1, Nat.add_sub_cancel]; exact hu) (by rw [List.getElem?_drop] at hl; rw [Nat.add_comm]; exact hl)
  simp only [cellsE, List.map_append, mixA_app, List.length_map, cellsE_len]
  refine ⟨a1.append b1, fun b hb => ?_⟩
  rcases List.mem_append.1 hb with hb | hb
  ·exact a2 b hb
  ·exact b2 b hb
theorem cells_mix_ok {φ : Nat → Nat} : ∀ {t : Ty} {e : E t} {l : List Atom}, shOK r2 d outs e →
  (∀ j ∈ slCells t, ∀ c t' e', l[j]? = some (.x (.sl c t') e') → e'.vs (· < d + outs.length)) → ∀ a ∈ mixA l ((cellsE t e).map (shiftA φ d)), a.ok (· < d + outs.length) h2 := by
 intro t
 induction t with
 | int k => intro e l he _ a ha; simp only [cellsE, List.map_cons, List.map_nil, shiftA, mixA, mix1, List.mem_singleton] at ha; subst ha; exact he.2
 | bool => intro e l he _ a ha; simp only [cellsE, List.map_cons, List.map_nil, shiftA, mixA, mix1, List.mem_singleton] at ha; subst ha; exact he.2
 | str => intro e l he _ a ha; simp only [cellsE, List.map_cons, List.map_nil, shiftA, mixA, mix1, List.mem_singleton] at ha; subst ha; exact he.2
 | sl c t _ =>
  intro e l he hk a ha
  simp only [cellsE, List.map_cons, List.map_nil, shiftA, mixA, mix1, List.mem_singleton] at ha
  subst ha
  split
  ·rename_i c' t' e' heq
   exact hk 0 (List.mem_singleton.2 rfl) c' t' e' (by rw [← heq]; exact (List.head?_eq_getElem? ..).symm)
  ·trivial
 | pr x y ihx ihy =>
  intro e l he hk a ha
  simp only [cellsE, List.map_append, mixA_app, List.length_map, cellsE_len] at ha
  rcases List.mem_append.1 ha with ha | ha
  ·exact ihx he.o1 (fun j hj c t' e' hl => hk j (by simp only [slCells]; exact List.mem_append_left _ hj) c t' e' hl) a ha
  ·exact ihy he.o1 (fun j hj c t' e' hl => hk (j + x.size) (by simp only [slCells]; exact List.mem_append_right _ (List.mem_map.2 ⟨j, hj, rfl⟩)) c t' e' (by rw [List.getElem?_drop] at hl; rw [Nat.add_comm]; exact hl)) a ha
theorem csA_shift (hr : ∀ v, v < outs.length → r2 (v + d) = envOf outs v) (hg : ∀ k B, (k, B) ∈ FL → g2 (ψ k) = gf k) (hh : ∀ k B, (k, B) ∈ FL → (h2 (ψ k)).isSome = true) :
  ∀ {l : List CS} {v p : Nat} {us : List Value}, (∀ k B, (k, B) ∈ csB v p l → (k, B) ∈ FL) → (∀ c ∈ l, c.flat = true ∨ ∀ b, M2 b → M1 b) → v + l.length ≤ outs.length → AReps w M1 gf (envOf outs) (csA v p l) us →
  AReps w M2 g2 r2 ((csA v p l).map (shiftA ψ d)) us ∧ ∀ a ∈ (csA v p l).map (shiftA ψ d), a.ok (· < d + outs.length) h2
 | [], v, p, us, _, _, _, h => by
  cases us with
  | nil => exact ⟨trivial, fun a ha => by cases ha⟩
  | cons => exact h.elim
 | c :: l, v, p, us, hf, hfl, hlen, h => by
  cases us with
  | nil => exact h.elim
  | cons u us =>
   simp only [List.length_cons] at hlen
   obtain ⟨i1, i2⟩ := csA_shift hr hg hh (l := l) (v := v + 1) (p := p + c.pins) (us := us) (fun k B hB => hf k B (List.mem_append_right _ hB)) (fun c hc => hfl c (List.mem_cons_of_mem _ hc)) (by omega) h.2
   have first : ARep w M2 g2 r2 (shiftA ψ d (c.at v p)) u ∧ (shiftA ψ d (c.at v p)).ok (· < d + outs.length) h2 := by
    have h1 := h.1
    cases c with
    | p t =>
     simp only [CS.at, shiftA, ARep] at h1 ⊢
     rw [shift_x hr (by omega)]
     refine ⟨?_, by simp only [Atom.ok, shiftE, E.vs]; omega⟩
     rcases hfl _ (List.mem_cons_self ..) with hfl | hfl
     ·simp only [CS.flat, Bool.not_eq_true'] at hfl
      exact Rep.flat hfl h1
     ·exact h1.keep ⟨fun _ _ _ => rfl, fun b _ hb => hfl b hb⟩
    | arr dp t =>
     simp only [CS.at, shiftA, ARep] at h1 ⊢
     have hmem := hf p _ (List.mem_append_left _ (List.mem_singleton.2 rfl))
     exact ⟨by rw [hg p _ hmem]; exact h1, hh p _ hmem⟩
    | box t =>
     simp only [CS.at, shiftA, ARep] at h1 ⊢
     have hmem := hf p _ (List.mem_append_left _ (List.mem_singleton.2 rfl))
     exact ⟨by rw [hg p _ hmem]; exact h1, hh p _ hmem⟩
    | eat dp t =>
     simp only [CS.at, shiftA, ARep] at h1 ⊢
     have hmem := hf (2000 + v) _ (List.mem_append_left _ (List.mem_singleton.2 rfl))
     exact ⟨by rw [hg (2000 + v) _ hmem]; exact h1, hh (2000 + v) _ hmem⟩
    | self f =>
     simp only [CS.at, shiftA, ARep] at h1 ⊢
     have hmem := hf p _ (List.mem_append_left _ (List.mem_singleton.2 rfl))
     exact ⟨by rw [hg p _ hmem]; exact h1, hh p _ hmem⟩
   refine ⟨⟨first.1, i1⟩, fun a ha => ?_⟩
   rcases List.mem_cons.1 ha with rfl | ha
   ·exact first.2
   ·exact i2 a ha
theorem shSV_shift (hr : ∀ v, v < outs.length → r2 (v + d) = envOf outs v) (hg : ∀ k B, (k, B) ∈ FL → g2 (ψ k) = gf k) (hh : ∀ k B, (k, B) ∈ FL → (h2 (ψ k)).isSome = true) :
  ∀ {l : List Sh} {v p : Nat} {us : List Value}, (∀ k B, (k, B) ∈ shB v p l → (k, B) ∈ FL) → (∀ h ∈ l, ∀ c ∈ h.cs, c.flat = true ∨ ∀ b, M2 b → M1 b) → v + shN l ≤ outs.length → SReps w M1 gf (envOf outs) (shSV v p l) us →
  SReps w M2 g2 r2 ((shSV v p l).map (SV.map (shiftA ψ d))) us ∧ ∀ x ∈ (shSV v p l).map (SV.map (shiftA ψ d)), x.all (Atom.ok (· < d + outs.length) h2)
 | [], v, p, us, _, _, _, h => by
  cases us with
  | nil => exact ⟨trivial, fun a ha => by cases ha⟩
  | cons => exact h.elim
 | c :: l, v, p, us, hf, hfl, hlen, h => by
  cases us with
  | nil => exact h.elim
  | cons u us =>
   simp only [shN] at hlen
   obtain ⟨i1, i2⟩ := shSV_shift hr hg hh (l := l) (v := v + c.cs.length) (p := p + csArrs c.cs) (us := us) (fun k B hB => hf k B (List.mem_append_right _ hB)) (fun c hc => hfl c (List.mem_cons_of_mem _ hc)) (by omega) h.2
   have cs := fun {vs : List Value} (hv : AReps w M1 gf (envOf outs) (csA v p c.cs) vs) => csA_shift (M2 := M2) hr hg hh (fun k B hB => hf k B (List.mem_append_left _ hB)) (hfl c (List.mem_cons_self ..)) (by omega) hv
   have first : SRep w M2 g2 r2 (SV.map (shiftA ψ d) (c.sv v p)) u ∧ (SV.map (shiftA ψ d) (c.sv v p)).all (Atom.ok (· < d + outs.length) h2) := by
    have h1 := h.1
    cases c with
    | p t =>
     obtain ⟨c1, c2⟩ := cs (vs := [u]) ⟨h1, trivial⟩
     exact ⟨c1.1, c2 _ (List.mem_cons_self ..)⟩
    | arr dp t =>
     obtain ⟨c1, c2⟩ := cs (vs := [u]) ⟨h1, trivial⟩
     exact ⟨c1.1, c2 _ (List.mem_cons_self ..)⟩
    | box t =>
     obtain ⟨c1, c2⟩ := cs (vs := [u]) ⟨h1, trivial⟩
     exact ⟨c1.1, c2 _ (List.mem_cons_self ..)⟩
    | eat dp t =>
     obtain ⟨c1, c2⟩ := cs (vs := [u]) ⟨h1, trivial⟩
     exact ⟨c1.1, c2 _ (List.mem_cons_self ..)⟩
    | self f =>
     obtain ⟨c1, c2⟩ := cs (vs := [u]) ⟨h1, trivial⟩
     exact ⟨c1.1, c2 _ (List.mem_cons_self ..)⟩
    | agg m =>
     obtain ⟨vs, e1, e2⟩ := h1
     obtain ⟨c1, c2⟩ := cs e2
     exact ⟨⟨vs, e1, c1⟩, c2⟩
   refine ⟨⟨first.1, i1⟩, fun a ha => ?_⟩
   rcases List.mem_cons.1 ha with rfl | ha
   ·exact first.2
   ·exact i2 a ha
end
end Go.Sm
namespace Go.Sm
set_option linter.unusedVariables false
set_option linter.unusedSimpArgs false
theorem noRef_tg {h0 : Nat → Option Blk} : ∀ {l : List Sh} {m : List SV} {v p : Nat} {o : MO}, (l.all fun h => !h.byRef) = true → matchShs h0 v p l m = some o → o.tg = []
 | [], [], v, p, o, _, hm => by simp only [matchShs, Option.some.injEq] at hm; subst hm; rfl
 | c :: l, a :: m, v, p, o, hb, hm => by
  unfold matchShs at hm
  split at hm
  case h_2 => cases hm
  rename_i x y hx hy
  cases hm
  simp only [List.all_cons, Bool.and_eq_true, Bool.not_eq_true', Sh.byRef] at hb
  have cs : ∀ {l : List CS} {m : List Atom} {v p : Nat} {o : MO}, l.any CS.byRef = false → matchCS h0 v p l m = some o → o.tg = [] := by
   intro l
   induction l with
   | nil => intro m v p o _ hm; cases m <;> simp [matchCS] at hm; subst hm; rfl
   | cons c l ih =>
    intro m v p o hb hm
    cases m with
    | nil => simp [matchCS] at hm
    | cons a m =>
     unfold matchCS at hm
     split at hm
     case h_2 => cases hm
     rename_i x y hx hy
     cases hm
     simp only [List.any_cons, Bool.or_eq_false_iff] at hb
     cases c with
     | p t =>
      simp only [matchC] at hx
      obtain ⟨_, _, rfl⟩ := Option.map_eq_some_iff.1 hx
      simp only [MO.add, ih hb.2 hy, List.append_nil]
     | arr dp t => simp [CS.byRef] at hb
     | box t => simp [CS.byRef] at hb
     | eat dp t => simp [CS.byRef] at hb
     | self f => simp [CS.byRef] at hb
  have hx0 : x.tg = [] := by
   unfold matchSh at hx
   split at hx
   ·exact cs hb.1 hx
   ·exact cs hb.1 hx
   ·exact cs hb.1 hx
   ·exact cs hb.1 hx
   ·exact cs hb.1 hx
   ·exact cs hb.1 hx
   ·cases hx
  have hy0 : y.tg = [] := noRef_tg (l := l) hb.2 hy
  simp only [MO.add, hx0, hy0, List.append_nil]
 | [], _ :: _, v, p, o, _, hm => by simp [matchShs] at hm
 | _ :: _, [], v, p, o, _, hm => by simp [matchShs] at hm
theorem eaten_mem {tg : List (Nat × Option Nat)} {i : Nat} (h : i ∈ eaten tg) : i ∈ tg.filterMap (·.2) := by
 simp only [eaten, List.mem_filterMap] at h ⊢
 obtain ⟨x, h1, h2⟩ := h
 refine ⟨x, h1, ?_⟩
 cases hd : decide (2000 ≤ x.1)
 ·rw [hd] at h2; cases h2
 ·rw [hd] at h2; exact h2
theorem leaks_flat {sig : Sig} (h : sig.leaks = false) : (∀ x ∈ sig.rs, ∀ c ∈ x.cs, c.flat = true) ∧ ∀ x ∈ backShs sig.ps, ∀ c ∈ x.cs, c.flatB = true := by
 simp only [Sig.leaks, Bool.not_eq_false', Bool.and_eq_true, List.all_eq_true] at h
 exact ⟨fun x hx c hc => h.1 x hx c hc, fun x hx c hc => h.2 x hx c hc⟩
theorem finL_cases {sig : Sig} {k : Nat} {B : Blk} (h : (k, B) ∈ finL sig) :
  (∃ i, i < sig.outs ∧ ((∃ dp t, B = .arr dp t (.var (.sl false t) i) ∧ ((∃ x ∈ sig.rs, .arr dp t ∈ x.cs ∨ .eat dp t ∈ x.cs) ∨ ∃ x ∈ backShs sig.ps, .arr dp t ∈ x.cs ∨ .eat dp t ∈ x.cs)) ∨
   (∃ t, B = .box (cellsE t (.var t i)) ∧ (1000 ≤ k ∧ ∃ x ∈ sig.rs, .box t ∈ x.cs)) ∨ (∃ t, B = .box (cellsE t (.var t i)) ∧ (k, B) ∈ shB (shN sig.rs) 0 (backShs sig.ps) ∧ ∀ j ∈ slCells t, (k, j) ∈ shKp 0 sig.ps) ∨ (B = .box [.no] ∧ (1000 ≤ k ∨ (k, B) ∈ shB (shN sig.rs) 0 (backShs sig.ps) ∧ (k, 0) ∈ shKp 0 sig.ps)))) := by
 rcases List.mem_append.1 h with h | h
 ·obtain ⟨i, -, h2, h3⟩ := (shB_ok (N := fun _ => True) (h' := fun _ => none) (fun _ _ _ => trivial) _ _ h).2
  have hn := shB_names h
  refine ⟨i, by simp only [Sig.outs]; omega, ?_⟩
  rcases h3 with ⟨dp, t, h4, h5⟩ | ⟨t, h4, x, h5, h6⟩ | ⟨f, h4, x, h5, h6⟩
  ·refine .inl ⟨dp, t, h4, .inl ?_⟩
   rcases h5 with ⟨x, h5, h6⟩ | ⟨x, h5, h6⟩
   ·exact ⟨x, h5, .inl h6⟩
   ·exact ⟨x, h5, .inr h6⟩
  ·exact .inr (.inl ⟨t, h4, by omega, x, h5, h6⟩)
  ·exact .inr (.inr (.inr ⟨h4, .inl (by omega)⟩))
 ·obtain ⟨i, -, h2, h3⟩ := (shB_ok (N := fun _ => True) (h' := fun _ => none) (fun _ _ _ => trivial) _ _ h).2
  rcases h3 with ⟨dp, t, h4, h5⟩ | ⟨t, h4, x, h5, h6⟩ | ⟨f, h4, x, h5, h6⟩
  ·refine ⟨i, by simp only [Sig.outs]; omega, .inl ⟨dp, t, h4, .inr ?_⟩⟩
   rcases h5 with ⟨x, h5, h6⟩ | ⟨x, h5, h6⟩
   ·exact ⟨x, h5, .inl h6⟩
   ·exact ⟨x, h5, .inr h6⟩
  ·subst h4
   rcases backShs_box h with ⟨t', i', e1, e2, e3, e4⟩ | ⟨e1, e2⟩
   ·exact ⟨i', by simp only [Sig.outs]; omega, .inr (.inr (.inl ⟨t', by rw [e1], h, e4⟩))⟩
   ·exact ⟨i, by simp only [Sig.outs]; omega, .inr (.inr (.inr ⟨by rw [e1], .inr ⟨h, e2⟩⟩))⟩
  ·subst h4
   rcases backShs_box h with ⟨t', i', e1, e2, e3, e4⟩ | ⟨e1, e2⟩
   ·exact ⟨i', by simp only [Sig.outs]; omega, .inr (.inr (.inl ⟨t', by rw [e1], h, e4⟩))⟩
   ·exact ⟨i, by simp only [Sig.outs]; omega, .inr (.inr (.inr ⟨rfl, .inr ⟨h, e2⟩⟩))⟩
theorem OwnA.flat {w : World} {M M' : Nat → Prop} {G0 : G} {dp : Bool} {t : Ty} {ds : List t.D} (hf : (dp || !t.hasSl) = true ∨ ∀ b, M' b → M b) (h : OwnA w M G0 dp t (fun _ => none) ds) : OwnA w M' G0 dp t (fun _ => none) ds := by
 obtain ⟨o, xs, Fs, h1, h2, h3, h4⟩ := h
 refine ⟨o, xs, Fs, h1, h2, h3, fun i hi => ?_⟩
 obtain ⟨us, a1, a2, a3⟩ := h4 i hi
 refine ⟨us, a1, a2, ?_⟩
 unfold Row at a3 ⊢
 split
 ·rename_i hd; rw [if_pos hd] at a3; exact a3
 ·rename_i hd
  rw [if_neg hd] at a3
  refine ⟨a3.1, ?_⟩
  rcases hf with hf | hf
  ·have : t.hasSl = false := by simpa [hd] using hf
   exact Rep.flat this a3.2
  ·exact a3.2.keep ⟨fun _ _ _ => rfl, fun b _ hb => hf b hb⟩
theorem call_ok0 {c : Cx} {K : Sem1} (hK : KOK c K) :
  ∀ (f : FuncId) (sig : Sig) (s : St) (id : Nat) (ops : List Operand) (gs : List (E .bool)) (ins : List AE) (sv : SV) (s' : St) (outs : List AV) (bd : Bd) (N : Nat → Prop) (r : Env) (g : Nat → G) (a : Act) (st : List (Array Value)) (w : World),
  c.sg f = some sig → symCall sig s id ops = some (gs, ins, sv, s') → R bd N s r g a.tmps st w → (∀ i, N i → i < id) → (∀ e ∈ gs, den e r = true) → K f (ins.map (denA · r)) = some outs →
  Enters c.P f ∧ Calls c.P f (ops.map a.eval).toArray w fun e w' => ∃ v g', e = .returned v ∧ ((sig.ps.all fun h => !h.byRef) = true → Ext w w') ∧ R bd (· < id + 64) s' (putN r id outs) g' a.tmps st w' ∧ SRep w' (Mt bd.Z s'.heap g') g' (putN r id outs) sv v ∧ sv.all (Atom.ok (· < id + 64) s'.heap) := by
 intro f sig s0 id ops gs ins sv s' outs bd N r g0 a st w hsg hsc h0 hN hgs hKo
 unfold symCall at hsc
 have h : R bd N (if sig.leaks then s0.solids ops else s0) r g0 a.tmps st w := by
  split
  ·exact h0.solids ops
  ·exact h0
 generalize (if sig.leaks = true then s0.solids ops else s0) = s at hsc h
 clear h0
 unfold callTo at hsc
 split at hsc
 case h_2 => cases hsc
 rename_i o hm
 simp only at hsc
 split at hsc
 case isFalse => cases hsc
 rename_i hcond
 obtain ⟨sv', hsv, heq⟩ := Option.map_eq_some_iff.1 hsc
 simp only [Prod.mk.injEq] at heq
 obtain ⟨rfl, rfl, rfl, rfl⟩ := heq
 simp only [Bool.and_eq_true, decide_eq_true_eq] at hcond
 obtain ⟨⟨⟨⟨⟨⟨⟨⟨⟨⟨⟨hself, hclo⟩, hok⟩, hleak⟩, htg⟩, heat⟩, hkps⟩, hnb⟩, hpl⟩, hfl⟩, hnd⟩, houts⟩ := hcond
 obtain ⟨hent, hlen, hcon⟩ := hK f sig _ _ hsg hKo
 obtain ⟨hini0, hlive⟩ := ini_ok h hm hok hnb hgs
 have hini := ini1_ok h hini0 hnb hself
 clear hini0
 generalize hψ : nameTo o.tg id = ψ at *
 generalize hbl : (finL sig).map (fun p => (ψ p.1, mixB s.heap (ψ p.1) p.1 (shiftB id p.2))) = bl at *
 generalize hbd : (⟨fun b => ∃ i ∈ o.ids, b ∈ (g0 i).foot, w, (List.range (shPins sig.ps)).map (gren (tgOf o.tg) g0), shKp 0 sig.ps, fun k j => cell w (gren (tgOf o.tg) g0 k).blk j, fun b => (∃ j B, s.heap j = some B ∧ j ∉ o.ids ∧ j ∉ o.rd ∧ b ∈ (g0 j).foot) ∨ bd.Z b⟩ : Bd) = bd' at *
 have hw0 : bd'.w0 = w := by rw [← hbd]
 have hM0 : ∀ b, bd'.M0 b ↔ ∃ i ∈ o.ids, b ∈ (g0 i).foot := fun b => by rw [← hbd]
 have hZ : ∀ b, bd'.Z b ↔ ((∃ j B, s.heap j = some B ∧ j ∉ o.ids ∧ j ∉ o.rd ∧ b ∈ (g0 j).foot) ∨ bd.Z b) := fun b => by rw [← hbd]
 refine ⟨hent, (hcon bd' _ _ w hini hw0).mono ?_⟩
 rintro e w' ⟨vals, gf, rfl, hfin⟩
 have hWd := hfin.world
 have hid : ∀ k i, tgOf o.tg k = some i → i ∈ o.ids := fun k i hk => List.mem_filterMap.2 ⟨_, tgOf_some hk, rfl⟩
 have F1 : ∀ p B, (p, B) ∈ finL sig → p < 1000 → ∃ i, tgOf o.tg p = some i ∧ p < shPins sig.ps ∧ ψ p = i := by
  intro p B hp hlt
  have := List.all_eq_true.1 hfl (p, B) hp
  simp only [hlt, if_true, Bool.and_eq_true, decide_eq_true_eq] at this
  obtain ⟨i, hi⟩ := Option.isSome_iff_exists.1 this.1
  exact ⟨i, hi, this.2, by rw [← hψ]; simp [nameTo, hlt, hi]⟩
 have F2 : ∀ p B, (p, B) ∈ finL sig → ¬ p < 1000 → s.heap (ψ p) = none ∧ s.np ≤ ψ p := by
  intro p B hp hge
  have := List.all_eq_true.1 hfl (p, B) hp
  simp only [hge, if_false, Bool.and_eq_true, decide_eq_true_eq, Option.isNone_iff_eq_none] at this
  exact this
 have blmem : ∀ k B', look bl k = some B' → ∃ p B, (p, B) ∈ finL sig ∧ ψ p = k ∧ B' = mixB s.heap k p (shiftB id B) := by
  intro k B' hk
  have := look_mem hk
  rw [← hbl] at this
  obtain ⟨⟨p, B⟩, h1, h2⟩ := List.mem_map.1 this
  simp only [Prod.mk.injEq] at h2
  exact ⟨p, B, h1, h2.1, by rw [← h2.1]; exact h2.2.symm⟩
 have inj : ∀ {p q : Nat} {B C : Blk}, (p, B) ∈ finL sig → (q, C) ∈ finL sig → ψ p = ψ q → p = q ∧ B = C := by
  intro p q B C h1 h2 h3
  rw [← hbl] at hnd
  exact psi_inj (φ := fun p => mixB s.heap (ψ p.1) p.1 (shiftB id p.2)) hnd h1 h2 h3
 have blook : ∀ p B, (p, B) ∈ finL sig → look bl (ψ p) = some (mixB s.heap (ψ p) p (shiftB id B)) := by
  intro p B hp
  refine look_of_mem hnd ?_
  rw [← hbl]
  exact List.mem_map.2 ⟨_, hp, rfl⟩
 have finl : ∀ p B, (p, B) ∈ finL sig → sig.fin.heap p = some B := by
  intro p B hp
  have h1 := look_some hp
  obtain ⟨C, hC⟩ := Option.isSome_iff_exists.1 h1
  have := (inj hp (look_mem hC) rfl).2
  subst this
  exact hC
 generalize hea : eaten o.tg = ea at *
 have idsT : ∀ i ∈ o.ids, (look bl i).isSome = true ∨ i ∈ ea := by
  intro i hi
  obtain ⟨⟨q, t⟩, hq, ht⟩ := List.mem_filterMap.1 hi
  simp only at ht
  subst ht
  have := List.all_eq_true.1 htg _ hq
  simp only [Bool.or_eq_true, decide_eq_true_eq] at this
  rcases this with h1 | h1
  ·right
   rw [← hea]
   exact List.mem_filterMap.2 ⟨_, hq, by simp [h1]⟩
  ·exact .inl h1
 have eaI : ∀ i ∈ ea, i ∈ o.ids := fun i hi => eaten_mem (by rw [hea]; exact hi)
 have eaN : ∀ i ∈ ea, look bl i = none ∧ s.np ≤ i := by
  intro i hi
  have := List.all_eq_true.1 heat i hi
  simp only [Bool.and_eq_true, Option.isNone_iff_eq_none, decide_eq_true_eq] at this
  exact this
 generalize hg2 : (fun k => match (finL sig).find? (fun p => ψ p.1 == k) with | some p => gf p.1 | none => g0 k : Nat → G) = g2
 have G1 : ∀ p B, (p, B) ∈ finL sig → g2 (ψ p) = gf p := by
  intro p B hp
  rw [← hg2]
  simp only
  cases hf : (finL sig).find? (fun x => ψ x.1 == ψ p) with
  | none =>
   have := List.find?_eq_none.1 hf (p, B) hp
   simp at this
  | some x =>
   obtain ⟨q, C⟩ := x
   have h1 := List.find?_some hf
   have h2 := List.mem_of_find?_eq_some hf
   simp only [beq_iff_eq] at h1
   rw [(inj h2 hp h1).1]
 have G2 : ∀ k, ¬ (look bl k).isSome = true → g2 k = g0 k := by
  intro k hk
  rw [← hg2]
  simp only
  cases hf : (finL sig).find? (fun x => ψ x.1 == k) with
  | none => rfl
  | some x =>
   obtain ⟨q, C⟩ := x
   have h1 := List.find?_some hf
   have h2 := List.mem_of_find?_eq_some hf
   simp only [beq_iff_eq] at h1
   exfalso
   apply hk
   rw [← h1, blook q C h2]
   rfl
 have hr2 : ∀ v, v < outs.length → putN r id outs (v + id) = envOf outs v := by
  intro v hv
  simp only [putN, envOf]
  rw [if_neg (by omega), Nat.add_sub_cancel, if_pos hv]
 have henv : R bd (· < id + 64) s (putN r id outs) g0 a.tmps st w := (h.env fun i hi => by simp only [putN]; rw [if_pos (hN i hi)]).mono fun i hi => by have := hN i hi; omega
 have hsz : w.heap.size ≤ w'.heap.size := by rw [← hw0]; exact hWd.size
 have hkept : ∀ p j i, (p, j) ∈ shKp 0 sig.ps → tgOf o.tg p = some i → cell w' (gf p).blk j = cell w (g0 i).blk j := by
  intro p j i hp hi
  have := hfin.kept (p, j) (by rw [← hbd]; exact hp)
  rw [← hbd] at this
  simp only [gren_some hi] at this
  exact this
 have main := henv.replace (w' := w') (g' := g2) (dropA o.ids ea) (fun k => match look bl k with | some b => some b | none => bif ea.contains k then none else (s.heap k).map (Blk.map (dropA o.ids ea))) s.base (fun k => (look bl k).isSome = true ∨ k ∈ ea) ?_ ?_ ?_ ?_ ?_ hsz (by rw [← hw0]; exact hWd.os) (by rw [← hw0]; exact hWd.tape) (by rw [← hw0]; exact hWd.output) ?_ ?_
 ·obtain ⟨hR, hkeep⟩ := main
  have hM2 : sig.leaks = false ∨ ∀ b, Mt bd.Z (fun k => match look bl k with | some b => some b | none => bif ea.contains k then none else (s.heap k).map (Blk.map (dropA o.ids ea))) g2 b → Mt bd'.Z sig.fin.heap gf b := by
   cases hl : sig.leaks with
   | false => exact .inl rfl
   | true =>
    right
    have hrd : o.rd = [] := by simpa [hl] using hleak
    rintro b (⟨k, C, hk, hb⟩ | hz)
    ·cases hT : look bl k with
     | some B' =>
      obtain ⟨p, B, h1, rfl, h3⟩ := blmem k B' hT
      rw [G1 p B h1] at hb
      exact .inl ⟨p, B, finl p B h1, hb⟩
     | none =>
      simp only [hT] at hk
      cases hke : ea.contains k
      case true => rw [hke] at hk; cases hk
      rw [hke] at hk
      obtain ⟨C', hC', _⟩ := Option.map_eq_some_iff.1 hk
      rw [G2 k (by simp [hT])] at hb
      refine .inr ((hZ b).2 (.inl ⟨k, C', hC', fun hi => ?_, by simp [hrd], hb⟩))
      rcases idsT k hi with h | h
      ·rw [hT] at h; cases h
      ·simp [h] at hke
    ·exact .inr ((hZ b).2 (.inr hz))
  have hflat : ∀ x ∈ sig.rs, ∀ c ∈ x.cs, c.flat = true ∨ ∀ b, Mt bd.Z (fun k => match look bl k with | some b => some b | none => bif ea.contains k then none else (s.heap k).map (Blk.map (dropA o.ids ea))) g2 b → Mt bd'.Z sig.fin.heap gf b := by
   intro x hx c hc
   rcases hM2 with h1 | h1
   ·exact .inl ((leaks_flat h1).1 x hx c hc)
   ·exact .inr h1
  obtain ⟨hv, hvok⟩ := shSV_shift (w := w') (ψ := ψ) (d := id) (FL := finL sig) (r2 := putN r id outs) (g2 := g2) (h2 := fun k => match look bl k with | some b => some b | none => bif ea.contains k then none else (s.heap k).map (Blk.map (dropA o.ids ea))) hr2
   G1 (fun k B hk => by simp only [blook k B hk]; rfl) (l := sig.rs) (v := 0) (p := 1000) (us := vals) (fun k B hB => List.mem_append_left _ hB) hflat
   (by rw [hlen]; simp only [Sig.outs]; omega) (by simpa [Sig.fin] using hfin.cur)
  obtain ⟨u, hu, hur⟩ := single_rep hv hsv
  have hpack : pack vals = u := hu
  refine ⟨pack vals, g2, rfl, fun hby => ?_, hR, by rw [hpack]; exact hur, SV.all_mono (fun b hb => Atom.ok_mono (fun i hi => by rw [hlen] at hi; omega) (fun _ h => h) hb) (single_all hvok hsv)⟩
  intro b hb
  rw [← hw0] at hb ⊢
  refine hWd.heap b hb fun hm0 => ?_
  obtain ⟨i, hi, _⟩ := (hM0 b).1 hm0
  have := noRef_tg hby hm
  simp [MO.ids, this] at hi
 ·-- atoms
  intro b hb
  unfold dropA
  cases hd0 : ((b.nst && b.ids.any o.ids.contains) || b.ids.any ea.contains)
  ·simp only [Bool.or_eq_false_iff] at hd0
   obtain ⟨hd, hde⟩ := hd0
   refine .inr ⟨rfl, fun i hu hT => ?_⟩
   have hT : (look bl i).isSome = true := by
    rcases hT with hT | hT
    ·exact hT
    ·exfalso
     have : b.ids.any ea.contains = true := List.any_eq_true.2 ⟨i, uses_ids hu, by simpa using hT⟩
     rw [this] at hde; cases hde
   obtain ⟨B', hB'⟩ := Option.isSome_iff_exists.1 hT
   obtain ⟨p, B, h1, h2, h3⟩ := blmem i B' hB'
   have hl := hb.live hu
   have hplt : p < 1000 := by
    rcases Nat.lt_or_ge p 1000 with h4 | h4
    ·exact h4
    ·have := (F2 p B h1 (by omega)).1
     rw [h2] at this
     rw [this] at hl; cases hl
   obtain ⟨j, e1, e2, e3⟩ := F1 p B h1 hplt
   have hji : j = i := by rw [← e3, h2]
   subst hji
   have hp0 := hfin.pin p (gren (tgOf o.tg) g0 p) (by rw [← hbd]; simp [e2]) (by simpa [Sig.fin] using e2)
   rw [gren_some e1] at hp0
   refine ⟨by simp only [hB']; rfl, ?_, ?_, fun hn => ?_⟩
   ·rw [← h2, G1 p B h1, h2]; exact hp0.1
   ·rw [← h2, G1 p B h1, h2]; exact hp0.2
   ·exfalso
    rw [hn] at hd
    simp only [Bool.true_and] at hd
    have : b.ids.any o.ids.contains = true := List.any_eq_true.2 ⟨j, uses_ids hu, by simpa using hid p j e1⟩
    rw [this] at hd; cases hd
  ·exact .inl rfl
 ·-- the rest
  intro i hi
  have hn : look bl i = none := by cases hx : look bl i with
   | none => rfl
   | some _ => exact (hi (.inl (by simp [hx]))).elim
  have hc : ea.contains i = false := by
   cases hx : ea.contains i
   ·rfl
   ·exact (hi (.inr (by simpa using hx))).elim
  exact ⟨by simp only [hn, hc, cond_false], G2 i fun h => hi (.inl h)⟩
 ·-- what stays
  intro b hb hT
  rw [← hw0] at hb ⊢
  refine hWd.heap b hb fun hm0 => ?_
  obtain ⟨i, hi, hbi⟩ := (hM0 b).1 hm0
  obtain ⟨C, hC⟩ := hlive i hi
  exact hT i C (idsT i hi) hC hbi
 ·-- new blocks
  intro i B' hT hB'
  have hT : (look bl i).isSome = true := by
   rcases hT with hT | hT
   ·exact hT
   ·have h1 := (eaN i hT).1
    simp only [h1] at hB'
    rw [show ea.contains i = true by simpa using hT] at hB'
    cases hB'
  obtain ⟨B2, hB2⟩ := Option.isSome_iff_exists.1 hT
  simp only [hB2, Option.some.injEq] at hB'
  subst hB'
  obtain ⟨p, B, h1, h2, h3⟩ := blmem i B2 hB2
  subst h3
  obtain ⟨v, hv, hshape⟩ := finL_cases h1
  have hbr := hfin.heap p _ (finl p _ h1)
  have hgi : g2 i = gf p := by rw [← h2, G1 p _ h1]
  have hok64 : ∀ {b : Atom} {h' : Nat → Option Blk}, b.ok (· < id + outs.length) (fun _ => none) → b.ok (· < id + 64) h' := fun hb => Atom.ok_mono (fun i hi => by rw [hlen] at hi; omega) (fun _ h => by cases h) hb
  have hM2 : sig.leaks = false ∨ ∀ b, Mt bd.Z (fun k => match look bl k with | some b => some b | none => bif ea.contains k then none else (s.heap k).map (Blk.map (dropA o.ids ea))) g2 b → Mt bd'.Z sig.fin.heap gf b := by
   cases hl : sig.leaks with
   | false => exact .inl rfl
   | true =>
    right
    have hrd : o.rd = [] := by simpa [hl] using hleak
    rintro b (⟨k, C, hk, hb⟩ | hz)
    ·cases hT : look bl k with
     | some B' =>
      obtain ⟨p, B, h1, rfl, h3⟩ := blmem k B' hT
      rw [G1 p B h1] at hb
      exact .inl ⟨p, B, finl p B h1, hb⟩
     | none =>
      simp only [hT] at hk
      cases hke : ea.contains k
      case true => rw [hke] at hk; cases hk
      rw [hke] at hk
      obtain ⟨C', hC', _⟩ := Option.map_eq_some_iff.1 hk
      rw [G2 k (by simp [hT])] at hb
      refine .inr ((hZ b).2 (.inl ⟨k, C', hC', fun hi => ?_, by simp [hrd], hb⟩))
      rcases idsT k hi with h | h
      ·rw [hT] at h; cases h
      ·simp [h] at hke
    ·exact .inr ((hZ b).2 (.inr hz))
  have hblk : (Kept w (Mt bd.Z s.heap g0) w' (Mt bd.Z (fun k => match look bl k with | some b => some b | none => bif ea.contains k then none else (s.heap k).map (Blk.map (dropA o.ids ea))) g2) →
    BRep w' (Mt bd.Z (fun k => match look bl k with | some b => some b | none => bif ea.contains k then none else (s.heap k).map (Blk.map (dropA o.ids ea))) g2) g2 (putN r id outs) i (mixB s.heap i p (shiftB id B))) ∧
    (mixB s.heap i p (shiftB id B)).ok (· < id + 64) (fun k => match look bl k with | some b => some b | none => bif ea.contains k then none else (s.heap k).map (Blk.map (dropA o.ids ea))) := by
   rcases hshape with ⟨dp, t, rfl, hx⟩ | ⟨t, rfl, hge, x, hx, hcc⟩ | ⟨t, rfl, hback, hkpt⟩ | ⟨rfl, hself⟩
   ·refine ⟨fun hkp => ?_, by simp only [shiftB, mixB, shiftE, Blk.ok, E.vs]; omega⟩
    have hfl2 : (dp || !t.hasSl) = true ∨ ∀ b, Mt bd.Z (fun k => match look bl k with | some b => some b | none => bif ea.contains k then none else (s.heap k).map (Blk.map (dropA o.ids ea))) g2 b → Mt bd'.Z sig.fin.heap gf b := by
     rcases hM2 with h5 | h5
     ·obtain ⟨q1, q2⟩ := leaks_flat h5
      rcases hx with ⟨x, hx, hcc | hcc⟩ | ⟨x, hx, hcc | hcc⟩
      ·exact .inl (q1 x hx _ hcc)
      ·exact .inl (q1 x hx _ hcc)
      ·exact .inl (q2 x hx _ hcc)
      ·exact .inl (q2 x hx _ hcc)
     ·exact .inr h5
    simp only [shiftB, mixB, BRep] at hbr ⊢
    rw [hgi, show den (shiftE id (.var (.sl false t) v)) (putN r id outs) = den (.var (.sl false t) v) (envOf outs) from shift_x hr2 (by rw [hlen]; exact hv)]
    exact OwnA.flat hfl2 hbr
   ·have hmx : mixB s.heap i p (shiftB id (.box (cellsE t (.var t v)))) = .box ((cellsE t (.var t v)).map (shiftA (fun k => k) id)) := by
     simp only [shiftB, mixB]
     rw [if_neg (by omega)]
     rfl
    have hok := fun {M2 : Nat → Prop} {us : List Value} (hf : t.hasSl = false ∨ ∀ b, M2 b → Mt bd'.Z sig.fin.heap gf b) (hus : AReps w' (Mt bd'.Z sig.fin.heap gf) gf (envOf outs) (cellsE t (.var t v)) us) =>
     cells_shift (M2 := M2) (g2 := g2) (r2 := putN r id outs) (d := id) (φ := fun k => k) (h2 := fun _ => none) hf (shOK.var hr2 (by rw [hlen]; exact hv)) hus
    simp only [BRep] at hbr
    obtain ⟨q1, cc, ty, q2, q3⟩ := hbr
    rw [hmx]
    refine ⟨fun hkp => ?_, fun b hb => hok64 ((hok (M2 := Mt bd'.Z sig.fin.heap gf) (.inr fun _ h => h) q3).2 b hb)⟩
    have hfl2 : t.hasSl = false ∨ ∀ b, Mt bd.Z (fun k => match look bl k with | some b => some b | none => bif ea.contains k then none else (s.heap k).map (Blk.map (dropA o.ids ea))) g2 b → Mt bd'.Z sig.fin.heap gf b := by
     rcases hM2 with h5 | h5
     ·have := (leaks_flat h5).1 x hx _ hcc
      simp only [CS.flat, Bool.not_eq_true'] at this
      exact .inl this
     ·exact .inr h5
    simp only [BRep]
    rw [hgi]
    exact ⟨q1, cc, ty, q2, (hok hfl2 q3).1⟩
   ·have hplt : p < 1000 := by
     have h4 := shB_names hback
     rw [backShs_pins] at h4
     rcases Nat.lt_or_ge p 1000 with h5 | h5
     ·exact h5
     ·rcases h4 with h4 | h4
      ·omega
      ·exfalso
       have hpn := shB_box_name hback
       rw [backShs_pins] at hpn
       omega
    obtain ⟨j0, e1, e2, e3⟩ := F1 p _ h1 hplt
    have hji : j0 = i := by rw [← e3, h2]
    subst hji
    obtain ⟨C, hC⟩ := hlive j0 (hid p j0 e1)
    simp only [BRep] at hbr
    obtain ⟨q1, cc, ty, q2, q3⟩ := hbr
    have hpin := hfin.pin p (gren (tgOf o.tg) g0 p) (by rw [← hbd]; simp [e2]) (by simpa [Sig.fin] using e2)
    rw [gren_some e1] at hpin
    generalize hL : (match s.heap j0 with | some (.box l) => l | _ => [] : List Atom) = L
    have hmx : mixB s.heap j0 p (shiftB id (.box (cellsE t (.var t v)))) = .box (mixA L ((cellsE t (.var t v)).map (shiftA (fun k => k) id))) := by
     rw [← hL]
     simp only [shiftB, mixB]
     rw [if_pos hplt]
     rfl
    have key : ∀ (M2 : Nat → Prop), Kept w (Mt bd.Z s.heap g0) w' M2 → ∀ j ∈ slCells t, ∀ u c t' e', cc.toList[j]? = some u → L[j]? = some (.x (.sl c t') e') → ARep w' M2 g2 (putN r id outs) (.x (.sl c t') e') u ∧ e'.vs (· < id + outs.length) := by
     intro M2 hk j hj u c t' e' hu hl
     cases hC2 : s.heap j0 with
     | none => rw [hC2] at hL; subst hL; simp at hl
     | some C2 =>
      cases C2 with
      | box l =>
       rw [hC2] at hL
       simp only at hL
       subst hL
       obtain ⟨z1, c0, ty0, z2, z3⟩ := henv.heap j0 _ hC2
       obtain ⟨u0, z4, z5⟩ := z3.get hl
       have z6 := hkept p j j0 (hkpt j hj) e1
       rw [cell_eq, cell_eq, q2, z2] at z6
       simp only at z6
       have : u0 = u := by
        have a1 : c0[j]? = some u0 := by simpa using z4
        have a2 : cc[j]? = some u := by simpa using hu
        rw [a1, a2] at z6
        exact (Option.some.inj z6).symm
       subst this
       refine ⟨Rep.keep hk z5, ?_⟩
       have hn : E.vs N e' := h.nheap j0 _ hC2 _ (List.mem_of_getElem? hl)
       exact E.vs_mono (fun i hi => by have := hN i hi; omega) _ hn
      | arr dp t e => rw [hC2] at hL; subst hL; simp at hl
      | hole t e k i j a => rw [hC2] at hL; subst hL; simp at hl
    rw [hmx]
    have hmix := fun {M2 : Nat → Prop} (hk : Kept w (Mt bd.Z s.heap g0) w' M2) =>
     cells_mix (M2 := M2) (g2 := g2) (r2 := putN r id outs) (d := id) (φ := fun k => k) (h2 := fun _ => none) (l := L) (shOK.var hr2 (by rw [hlen]; exact hv)) q3 (key M2 hk)
    refine ⟨fun hkp => ?_, fun b hb => hok64 ((cells_mix_ok (l := L) (shOK.var hr2 (by rw [hlen]; exact hv)) fun j hj c t' e' hl => ?_) b hb)⟩
    ·simp only [BRep]
     rw [hgi]
     exact ⟨q1, cc, ty, q2, (hmix hkp).1⟩
    ·cases hC2 : s.heap j0 with
     | none => rw [hC2] at hL; subst hL; simp at hl
     | some C2 =>
      cases C2 with
      | box l =>
       rw [hC2] at hL
       simp only at hL
       subst hL
       have hn : E.vs N e' := h.nheap j0 _ hC2 _ (List.mem_of_getElem? hl)
       exact E.vs_mono (fun i hi => by have := hN i hi; omega) _ hn
      | arr dp t e => rw [hC2] at hL; subst hL; simp at hl
      | hole t e k i j a => rw [hC2] at hL; subst hL; simp at hl
   ·-- a closure over itself
    have hno : ea = [] := by
     simp only [Bool.or_eq_true, List.isEmpty_iff, List.all_eq_true] at hclo
     rcases hclo with h5 | h5
     ·exact h5
     ·have := h5 _ h1
      simp at this
    have hplain : mixB s.heap i p (shiftB id (.box [.no])) = .box [.no] ∨ (p < 1000 ∧ (p, 0) ∈ shKp 0 sig.ps ∧ ∃ f caps l, s.heap i = some (.box (.clo f caps :: l)) ∧ mixB s.heap i p (shiftB id (.box [.no])) = .box [.clo f caps]) := by
     simp only [shiftB, mixB, List.map_cons, List.map_nil, shiftA]
     split
     ·rename_i hplt
      have hk0 : (p, 0) ∈ shKp 0 sig.ps := by
       rcases hself with h5 | ⟨_, h5⟩
       ·omega
       ·exact h5
      simp only [mixA, mix1]
      split
      ·rename_i f caps hhd
       right
       refine ⟨hplt, hk0, f, caps, ?_⟩
       cases hC : s.heap i with
       | none => rw [hC] at hhd; simp at hhd
       | some C =>
        cases C with
        | box l =>
         rw [hC] at hhd
         cases l with
         | nil => simp at hhd
         | cons x l => 
          simp only [List.head?_cons, Option.some.injEq] at hhd
          subst hhd
          exact ⟨l, rfl, rfl⟩
        | arr dp t e => rw [hC] at hhd; simp at hhd
        | hole t e k i j a => rw [hC] at hhd; simp at hhd
      ·exact .inl rfl
     ·exact .inl rfl
    simp only [BRep] at hbr
    obtain ⟨q1, cc, ty, q2, q3⟩ := hbr
    rcases hplain with hpl1 | ⟨hplt, hk0, f, caps, l, hC, hpl1⟩
    ·rw [hpl1]
     refine ⟨fun hkp => ?_, fun b hb => by rw [List.mem_singleton.1 hb]; trivial⟩
     simp only [BRep]
     rw [hgi]
     refine ⟨q1, cc, ty, q2, ?_⟩
     generalize cc.toList = l at q3
     match l, q3 with
     | [u], _ => exact ⟨trivial, trivial⟩
    ·rw [hpl1]
     obtain ⟨j0, e1, e2, e3⟩ := F1 p _ h1 hplt
     have hji : j0 = i := by rw [← e3, h2]
     subst hji
     have hlivec : ∀ x ∈ caps, (s.heap x.1).isSome = true := h.nheap j0 _ hC _ (List.mem_cons_self ..)
     have hnewl : ∀ x ∈ caps, (match look bl x.1 with | some b => some b | none => bif ea.contains x.1 then none else (s.heap x.1).map (Blk.map (dropA o.ids ea)) : Option Blk).isSome = true := by
      intro x hx
      have := hlivec x hx
      cases look bl x.1 with
      | some b => rfl
      | none =>
       rw [hno]
       simp only [List.contains_nil, cond_false, Option.isSome_map]
       exact this
     have hblkc : ∀ x ∈ caps, (g2 x.1).blk = (g0 x.1).blk := by
      intro x hx
      have hl := hlivec x hx
      cases hT : look bl x.1 with
      | none => rw [G2 x.1 (by simp [hT])]
      | some B' =>
       obtain ⟨p', B, h1', h2', h3'⟩ := blmem x.1 B' hT
       have hplt' : p' < 1000 := by
        rcases Nat.lt_or_ge p' 1000 with h4 | h4
        ·exact h4
        ·have := (F2 p' B h1' (by omega)).1
         rw [h2'] at this
         rw [this] at hl; cases hl
       obtain ⟨j, e1', e2', e3'⟩ := F1 p' B h1' hplt'
       have hp0 := hfin.pin p' (gren (tgOf o.tg) g0 p') (by rw [← hbd]; simp [e2']) (by simpa [Sig.fin] using e2')
       rw [gren_some e1'] at hp0
       have hj : j = x.1 := by rw [← e3', h2']
       rw [← h2', G1 p' B h1', h2', ← hj]
       exact hp0.1
     refine ⟨fun hkp => ?_, fun b hb => ?_⟩
     ·simp only [BRep]
      rw [hgi]
      refine ⟨q1, cc, ty, q2, ?_⟩
      obtain ⟨z1, c0, ty0, z2, z3⟩ := h.heap j0 _ hC
      have z6 := hkept p 0 j0 hk0 e1
      rw [cell_eq, cell_eq, q2, z2] at z6
      simp only at z6
      generalize hcc : cc.toList = lc at q3
      match lc, q3 with
      | [u], _ =>
       generalize hc0 : c0.toList = l0 at z3
       match l0, z3 with
       | u0 :: l0, z3 =>
        have : u = u0 := by
         have a1 : cc[0]? = some u := by rw [← Array.getElem?_toList, hcc]; rfl
         have a2 : c0[0]? = some u0 := by rw [← Array.getElem?_toList, hc0]; rfl
         rw [a1, a2] at z6
         exact Option.some.inj z6
        subst this
        refine ⟨?_, trivial⟩
        have z4 := z3.1
        simp only [ARep] at z4 ⊢
        rw [z4]
        congr 2
        exact List.map_congr_left fun x hx => by rw [hblkc x hx]
     ·rw [List.mem_singleton.1 hb]
      exact hnewl
  refine ⟨hblk.1, hblk.2, by rw [hgi]; exact hfin.nodup p _ (finl p _ h1), fun b hb => ?_⟩
  ·rw [hgi] at hb
   rcases hfin.own p _ (finl p _ h1) b hb with h4 | h4
   ·obtain ⟨j, h5, h6⟩ := (hM0 b).1 h4
    obtain ⟨C, hC⟩ := hlive j h5
    exact .inr ⟨j, C, idsT j h5, hC, h6⟩
   ·rw [hw0] at h4
    exact .inl ⟨h4, hfin.lt p _ (finl p _ h1) b hb⟩
 ·-- each block once
  intro i j B C b hi hj hB hC hbi hbj
  have live : ∀ i B, ((look bl i).isSome = true ∨ i ∈ ea) → (match look bl i with | some b => some b | none => bif ea.contains i then none else (s.heap i).map (Blk.map (dropA o.ids ea))) = some B → (look bl i).isSome = true := by
   intro i B hi hB
   rcases hi with hi | hi
   ·exact hi
   ·rw [(eaN i hi).1] at hB
    simp only [show ea.contains i = true by simpa using hi, cond_true] at hB
    cases hB
  have hi := live i B hi hB
  have hj := live j C hj hC
  obtain ⟨B2, hB2⟩ := Option.isSome_iff_exists.1 hi
  obtain ⟨C2, hC2⟩ := Option.isSome_iff_exists.1 hj
  obtain ⟨p, B3, h1, h2, _⟩ := blmem i B2 hB2
  obtain ⟨q, C3, h3, h4, _⟩ := blmem j C2 hC2
  rw [← h2, G1 p _ h1] at hbi
  rw [← h4, G1 q _ h3] at hbj
  have := hfin.inj p q B3 C3 b (finl p _ h1) (finl q _ h3) hbi hbj
  subst this
  rw [← h2, ← h4]
 ·-- what is not written
  intro cc hcc hT
  rw [← h.kp] at hcc
  have h1 := List.all_eq_true.1 hkps cc hcc
  rw [h.kp] at hcc
  have hkk : cc.1 ∈ o.ids → ∃ q, q ∈ shKp 0 sig.ps ∧ tgOf o.tg q.1 = some cc.1 ∧ q.2 = cc.2 := by
   intro hi
   simp only [List.contains_eq_mem, hi, decide_true, Bool.not_true, Bool.false_or, List.any_eq_true, Bool.and_eq_true, decide_eq_true_eq] at h1
   obtain ⟨q, h2, h3, h4⟩ := h1
   exact ⟨q, h2, h3, h4⟩
  obtain ⟨_, l, hl⟩ := h.kpl cc hcc
  have hin : cc.1 ∈ o.ids := by
   rcases hT with hT | hT
   case inr => exact eaI _ hT
   obtain ⟨B2, hB2⟩ := Option.isSome_iff_exists.1 hT
   obtain ⟨p, B3, h2, h3, _⟩ := blmem cc.1 B2 hB2
   have hplt : p < 1000 := by
    rcases Nat.lt_or_ge p 1000 with h4 | h4
    ·exact h4
    ·have := (F2 p _ h2 (by omega)).1
     rw [h3, hl] at this; cases this
   obtain ⟨j, e1, e2, e3⟩ := F1 p _ h2 hplt
   rw [← h3, e3]; exact hid p j e1
  obtain ⟨⟨p, j⟩, k1, k2, k3⟩ := hkk hin
  simp only at k2 k3
  obtain ⟨m, hm⟩ := shKp_back (v := shN sig.rs) k1
  have hmf : (p, Blk.box m) ∈ finL sig := List.mem_append_right _ hm
  have hp1 := (shKp_box (v := 0) k1).1
  have hψp : ψ p = cc.1 := by rw [← hψ]; simp only [nameTo]; rw [if_pos (by omega), k2]; rfl
  have hlk := blook p _ hmf
  rw [hψp] at hlk
  have hG := G1 p _ hmf
  rw [hψp] at hG
  refine ⟨?_, ?_⟩
  ·simp only [hlk, shiftB, mixB]
   rw [if_pos (show p < 1000 by omega)]
   exact ⟨_, rfl⟩
  ·rw [hG, ← k3]
   exact hkept p j cc.1 k1 k2
 ·-- pins
  intro k hk hT
  rcases hT with hT | hT
  case inr => have := (eaN k hT).2; omega
  obtain ⟨B2, hB2⟩ := Option.isSome_iff_exists.1 hT
  obtain ⟨p, B3, h2, h3, _⟩ := blmem k B2 hB2
  have hplt : p < 1000 := by
   rcases Nat.lt_or_ge p 1000 with h4 | h4
   ·exact h4
   ·have := (F2 p _ h2 (by omega)).2
    rw [h3] at this; omega
  obtain ⟨j, e1, e2, e3⟩ := F1 p _ h2 hplt
  have hp0 := hfin.pin p (gren (tgOf o.tg) g0 p) (by rw [← hbd]; simp [e2]) (by simpa [Sig.fin] using e2)
  rw [gren_some e1] at hp0
  rw [← h3, G1 p _ h2, e3]
  exact hp0
theorem lent_byRef {s : St} : ∀ {l : List Sh} {m : List Operand} {t : Nat}, lentOp s l m = some t → (l.all fun h => !h.byRef) = false := by
 intro l
 induction l with
 | nil => intro m t h; simp [lentOp] at h
 | cons x l ih =>
  intro m t h
  rw [List.all_cons]
  cases x with
  | arr dp u => simp [Sh.byRef, Sh.cs, CS.byRef]
  | p u =>
   cases m with
   | nil => simp [lentOp] at h
   | cons y m => simp only [lentOp] at h; rw [ih h]; simp
  | box u =>
   cases m with
   | nil => simp [lentOp] at h
   | cons y m => simp only [lentOp] at h; rw [ih h]; simp
  | eat dp u =>
   cases m with
   | nil => simp [lentOp] at h
   | cons y m => simp only [lentOp] at h; rw [ih h]; simp
  | self u =>
   cases m with
   | nil => simp [lentOp] at h
   | cons y m => simp only [lentOp] at h; rw [ih h]; simp
  | agg u =>
   cases m with
   | nil => simp [lentOp] at h
   | cons y m => simp only [lentOp] at h; rw [ih h]; simp
theorem call_ok {c : Cx} {K : Sem1} (hI : InsOK c) (hK : KOK c K) : CallOK c K := by
 refine ⟨⟨hI, fun f sig ins outs h1 h2 => (hK f sig ins outs h1 h2).2.1⟩, ?_⟩
 intro f sig s id ops gs ins sv s' outs bd N r g a st w hsg hsc h hN hgs hKo
 unfold symCallN at hsc
 split at hsc
 ·exact call_ok0 hK f sig s id ops gs ins sv s' outs bd N r g a st w hsg hsc h hN hgs hKo
 rename_i t hlt
 split at hsc
 case h_2 => cases hsc
 rename_i i s1 hl
 split at hsc
 case h_2 => cases hsc
 rename_i gs1 ins1 v1 s2 hc
 split at hsc
 case h_2 => cases hsc
 rename_i v' cur stk heap base np kp hu
 simp only [Option.some.injEq, Prod.mk.injEq] at hsc
 obtain ⟨rfl, rfl, rfl, rfl⟩ := hsc
 obtain ⟨g1, h1⟩ := lend_ok h hl
 obtain ⟨hent, hcalls⟩ := call_ok0 hK f sig s1 id ops gs1 ins1 v1 s2 outs bd N r g1 a st w hsg hc h1 hN hgs hKo
 refine ⟨hent, hcalls.mono ?_⟩
 rintro e w' ⟨v, g2, rfl, _, h2, h3, h4⟩
 have hb := lent_byRef hlt
 have h5 := h2.slots (cur := v1 :: s2.cur) (stk := s2.stk) (tm' := (#[v] ++ a.tmps)) (st' := st) (by simpa using ⟨h3, h2.cur⟩) h2.stk (fun x hx => by
  rcases List.mem_cons.1 hx with rfl | hx
  ·exact h4
  ·exact h2.ncur x hx) h2.nstk
 obtain ⟨g3, h6⟩ := unlend_ok (a := { a with tmps := #[v] ++ a.tmps }) h5 hu
 have hcur : SReps w' (Mt bd.Z heap g3) g3 (putN r id outs) (v' :: cur) (v :: a.tmps.toList) := by simpa using h6.cur
 refine ⟨v, g3, rfl, fun hh => (by rw [hb] at hh; cases hh), ?_, hcur.1, h6.ncur v' (List.mem_cons_self ..)⟩
 exact h6.slots (cur := cur) (stk := stk) (tm' := a.tmps) (st' := st) hcur.2 h6.stk (fun x hx => h6.ncur x (List.mem_cons_of_mem _ hx)) h6.nstk
end Go.Sm
namespace Go.Sm
set_option linter.unusedVariables false
set_option linter.unusedSimpArgs false
theorem backCS_arr : ∀ {l : List CS}, ∀ x ∈ backCS l, (∃ dp t, x = .arr dp t) ∨ (∃ t, x = .box t) ∨ ∃ f, x = .self f
 | [], x, hx => by cases hx
 | .p t :: l, x, hx => backCS_arr (l := l) x hx
 | .eat _ _ :: l, x, hx => backCS_arr (l := l) x hx
 | .arr dp t :: l, x, hx => by
  rcases List.mem_cons.1 hx with rfl | hx
  ·exact .inl ⟨dp, t, rfl⟩
  ·exact backCS_arr (l := l) x hx
 | .box t :: l, x, hx => by
  rcases List.mem_cons.1 hx with rfl | hx
  ·exact .inr (.inl ⟨t, rfl⟩)
  ·exact backCS_arr (l := l) x hx
 | .self f :: l, x, hx => by
  rcases List.mem_cons.1 hx with rfl | hx
  ·exact .inr (.inr ⟨f, rfl⟩)
  ·exact backCS_arr (l := l) x hx
theorem backShs_arr : ∀ {l : List Sh}, ∀ x ∈ backShs l, (∃ dp t, x = .arr dp t) ∨ (∃ t, x = .box t) ∨ ∃ f, x = .self f
 | [], x, hx => by cases hx
 | c :: l, x, hx => by
  rcases List.mem_append.1 hx with hx | hx
  ·exact backCS_arr x hx
  ·exact backShs_arr (l := l) x hx
def pinV (g : Nat → G) : Nat → List Sh → List Value
 | _, [] => []
 | p, .box _ :: l => .pointer (some ⟨(g p).blk, 0, none⟩) :: pinV g (p + 1) l
 | p, .self _ :: l => .pointer (some ⟨(g p).blk, 0, none⟩) :: pinV g (p + 1) l
 | p, _ :: l => (g p).val :: pinV g (p + 1) l
theorem pinV_rep {w : World} {M : Nat → Prop} {g : Nat → G} {r : Env} : ∀ {l : List Sh} {p : Nat}, SReps w M g r (pinSVs p l) (pinV g p l)
 | [], _ => trivial
 | .box _ :: l, p => ⟨rfl, pinV_rep⟩
 | .self _ :: l, p => ⟨rfl, pinV_rep⟩
 | .p _ :: l, p => ⟨rfl, pinV_rep⟩
 | .agg _ :: l, p => ⟨rfl, pinV_rep⟩
 | .arr _ _ :: l, p => ⟨rfl, pinV_rep⟩
 | .eat _ _ :: l, p => ⟨rfl, pinV_rep⟩
theorem pins_tg {h0 : Nat → Option Blk} : ∀ {l : List Sh} {v p : Nat} {o : MO}, (∀ x ∈ l, (∃ dp t, x = .arr dp t) ∨ (∃ t, x = .box t) ∨ ∃ f, x = .self f) → matchShs h0 v p l (pinSVs p l) = some o → ∀ k, p ≤ k → k < p + l.length → (k, some k) ∈ o.tg
 | [], v, p, o, _, _, k, h1, h2 => by simp at h2; omega
 | x :: l, v, p, o, ha, hm, k, h1, h2 => by
  rcases ha x (List.mem_cons_self ..) with ⟨dp, t, rfl⟩ | ⟨t, rfl⟩ | ⟨f, rfl⟩
  ·simp only [pinSVs] at hm
   unfold matchShs at hm
   split at hm
   case h_2 => cases hm
   rename_i y z hy hz
   cases hm
   simp only [MO.add, List.mem_append]
   by_cases hk : k = p
   ·subst hk
    left
    simp only [matchSh, matchCS, matchC] at hy
    split at hy
    ·rename_i a b ha hb
     cases hy
     cases hb
     split at ha
     ·split at ha
      ·split at ha
       ·cases ha; exact List.mem_append_left _ (List.mem_singleton.2 rfl)
       ·cases ha
      ·cases ha
     ·cases ha
    ·cases hy
   ·right
    have e : p + csArrs (Sh.arr dp t).cs = p + 1 := rfl
    rw [e] at hz
    exact pins_tg (fun x hx => ha x (List.mem_cons_of_mem _ hx)) hz k (by omega) (by simp only [List.length_cons] at h2; omega)
  ·simp only [pinSVs] at hm
   unfold matchShs at hm
   split at hm
   case h_2 => cases hm
   rename_i y z hy hz
   cases hm
   simp only [MO.add, List.mem_append]
   by_cases hk : k = p
   ·subst hk
    left
    simp only [matchSh, matchCS, matchC] at hy
    split at hy
    ·rename_i a b ha hb
     cases hy
     cases hb
     split at ha
     ·split at ha
      ·cases ha; exact List.mem_append_left _ (List.mem_singleton.2 rfl)
      ·cases ha
     ·cases ha
    ·cases hy
   ·right
    have e : p + csArrs (Sh.box t).cs = p + 1 := rfl
    rw [e] at hz
    exact pins_tg (fun x hx => ha x (List.mem_cons_of_mem _ hx)) hz k (by omega) (by simp only [List.length_cons] at h2; omega)
  ·simp only [pinSVs] at hm
   unfold matchShs at hm
   split at hm
   case h_2 => cases hm
   rename_i y z hy hz
   cases hm
   simp only [MO.add, List.mem_append]
   by_cases hk : k = p
   ·subst hk
    left
    simp only [matchSh, matchCS, matchC] at hy
    split at hy
    ·rename_i a b ha hb
     cases hy
     cases hb
     split at ha
     ·cases ha; exact List.mem_append_left _ (List.mem_singleton.2 rfl)
     ·cases ha
    ·cases hy
   ·right
    have e : p + csArrs (Sh.self f).cs = p + 1 := rfl
    rw [e] at hz
    exact pins_tg (fun x hx => ha x (List.mem_cons_of_mem _ hx)) hz k (by omega) (by simp only [List.length_cons] at h2; omega)
theorem arr_len : ∀ {l : List Sh}, (∀ x ∈ l, (∃ dp t, x = .arr dp t) ∨ (∃ t, x = .box t) ∨ ∃ f, x = .self f) → l.length = shPins l
 | [], _ => rfl
 | x :: l, h => by
  rcases h x (List.mem_cons_self ..) with ⟨dp, t, rfl⟩ | ⟨t, rfl⟩ | ⟨f, rfl⟩ <;>
  ·simp only [List.length_cons, shPins, arr_len (l := l) fun x hx => h x (List.mem_cons_of_mem _ hx)]
   show _ = 1 + _
   omega
section
variable {c : Cx} {bd : Bd} {N : Nat → Prop} {s : St} {r : Env} {g : Nat → G} {w : World} {a : Act}
theorem finish_ok (h : R bd N s r g a.tmps [] w) {sig : Sig} {fn : Func} {gs : List (E .bool)} {es : List AE} (hf : finish c sig fn.results.toList s = some (gs, es)) (hg : ∀ e ∈ gs, den e r = true) (hnp : bd.pins.length = shPins sig.ps) (hkp : bd.kp = shKp 0 sig.ps) :
  ∃ vals g', (results fn a.tmps).run c.P w = .ok (pack vals) w ∧ es.length = sig.outs ∧ R bd (· < sig.outs) sig.fin (envOf (es.map (denA · r))) g' vals.toArray [] w := by
 unfold finish at hf
 split at hf
 case h_2 => cases hf
 rename_i l hl
 split at hf
 case h_2 => cases hf
 rename_i o1 o2 hm1 hm2
 split at hf
 case isFalse => cases hf
 rename_i hok
 simp only [Option.some.injEq, Prod.mk.injEq] at hf
 obtain ⟨rfl, rfl⟩ := hf
 simp only [Bool.and_eq_true, decide_eq_true_eq] at hok
 obtain ⟨hok, hlt⟩ := hok
 generalize ho : o1.add o2 = o at *
 simp only [MO.ok, Bool.and_eq_true, List.all_eq_true, Bool.not_eq_true', List.contains_eq_mem, decide_eq_false_iff_not] at hok
 obtain ⟨⟨hids, hnames⟩, hrd⟩ := hok
 obtain ⟨vals, hrun, hvals, hvok⟩ := resSVs_ok h hl
 have hlen1 := matchShs_len hm1
 have hlen2 := matchShs_len hm2
 have htg : ∀ q t, ((q, t) ∈ o1.tg ∨ (q, t) ∈ o2.tg) → (q, t) ∈ o.tg := by
  intro q t hq
  rw [← ho]
  exact List.mem_append.2 hq
 have hρ : ∀ q t, ((q, t) ∈ o1.tg ∨ (q, t) ∈ o2.tg) → tgOf o.tg q = t := fun q t hq => tgOf_mem hnames (htg q t hq)
 have hes : o.es = o1.es ++ o2.es := by rw [← ho]; rfl
 have hr : ∀ i x, o.es[i]? = some x → envOf (o.es.map (denA · r)) (0 + i) = denA x r := fun i x hi => envOf_get (by simp [hi])
 have hr12 : (∀ i u, o1.es[i]? = some u → envOf (o.es.map (denA · r)) (0 + i) = denA u r) ∧ ∀ i u, o2.es[i]? = some u → envOf (o.es.map (denA · r)) (shN sig.rs + i) = denA u r := by
  have := add_hr (x := o1) (y := o2) hlen1 (by rw [ho]; exact hr)
  simpa only [Nat.zero_add] using this
 have hg1 : ∀ e ∈ o1.gs, den e r = true := fun e he => hg e (by rw [← ho]; exact List.mem_append_left _ he)
 have hg2 : ∀ e ∈ o2.gs, den e r = true := fun e he => hg e (by rw [← ho]; exact List.mem_append_right _ he)
 obtain ⟨nm1, hl1, -, -⟩ := matchShs_view (ρ := tgOf o.tg) (M' := fun _ => False) h (fun b hb => hb.elim) hm1 hg1 hvals (fun q t hq => hρ q t (.inl hq)) (fun i _ B _ x _ hx => hx) hr12.1
 obtain ⟨nm2, hl2, -, -⟩ := matchShs_view (ρ := tgOf o.tg) (M' := fun _ => False) h (fun b hb => hb.elim) hm2 hg2 pinV_rep (fun q t hq => hρ q t (.inr hq)) (fun i _ B _ x _ hx => hx) hr12.2
 have hlive : ∀ k i, tgOf o.tg k = some i → i ∈ o.ids ∧ ∃ B, s.heap i = some B := by
  intro k i hk
  have hk' := tgOf_some hk
  refine ⟨List.mem_filterMap.2 ⟨_, hk', rfl⟩, ?_⟩
  rw [← ho] at hk'
  rcases List.mem_append.1 hk' with h1 | h1
  ·exact hl1 k i h1
  ·exact hl2 k i h1
 have hfoot : ∀ k b, b ∈ (gren (tgOf o.tg) g k).foot → ∃ i B, i ∈ o.ids ∧ s.heap i = some B ∧ b ∈ (g i).foot := by
  intro k b hb
  cases hi : tgOf o.tg k with
  | none => simp [gren, hi, nilG] at hb
  | some i =>
   rw [gren_some hi] at hb
   obtain ⟨h1, B, h2⟩ := hlive k i hi
   exact ⟨i, B, h1, h2, hb⟩
 have hM : ∀ b, Mt bd.Z sig.fin.heap (gren (tgOf o.tg) g) b → Mt bd.Z s.heap g b := by
  rintro b (⟨k, B, hk, hb⟩ | hz)
  ·obtain ⟨i, C, _, h1, h2⟩ := hfoot k b hb
   exact .inl ⟨i, C, h1, h2⟩
  ·exact .inr hz
 have hrd' : ∀ i ∈ o.rd, ∀ B, s.heap i = some B → ∀ x ∈ (g i).foot, ¬ Mt bd.Z sig.fin.heap (gren (tgOf o.tg) g) x := by
  rintro i hi B hB x hx (⟨k, C, hk, hb⟩ | hz)
  ·obtain ⟨j, D, h1, h2, h3⟩ := hfoot k x hb
   have := h.inj i j B D x hB h2 hx h3
   subst this
   exact hrd i hi h1
  ·exact h.notZ hB hx hz
 obtain ⟨-, -, hcur, hb1⟩ := matchShs_view (ρ := tgOf o.tg) h hM hm1 hg1 hvals (fun q t hq => hρ q t (.inl hq)) (fun i hi => hrd' i (by rw [← ho]; exact List.mem_append_left _ hi)) hr12.1
 obtain ⟨-, -, -, hb2⟩ := matchShs_view (ρ := tgOf o.tg) h hM hm2 hg2 pinV_rep (fun q t hq => hρ q t (.inr hq)) (fun i hi => hrd' i (by rw [← ho]; exact List.mem_append_right _ hi)) hr12.2
 have hpins := pins_tg backShs_arr hm2
 rw [arr_len backShs_arr, backShs_pins] at hpins
 have hpin : ∀ k, k < shPins sig.ps → tgOf o.tg k = some k := fun k hk => hρ k _ (.inr (hpins k (Nat.zero_le _) (by omega)))
 have hout : o.es.length = sig.outs := by rw [hes, List.length_append, hlen1, hlen2]; rfl
 refine ⟨vals, gren (tgOf o.tg) g, ?_, hout, ?_⟩
 ·rw [results_eq, Array.mapM_eq_mapM_toList, map_eq_pure_bind, bind_assoc, run_bind_ok hrun]
  simp only [pure_bind]
  rfl
 ·refine h.view (ρ := tgOf o.tg) (bd' := bd) (s' := sig.fin) ?_ ?_ ?_ ?_ trivial ?_ h.world ?_ ?_ ?_ ?_ ?_ ?_ ?_ ?_
  ·intro k B' _ i hi
   exact (hlive k i hi).2
  ·intro k k' i _ _ h1 h2
   exact ids_inj hids (tgOf_some h1) (tgOf_some h2)
  ·intro k B' hk
   rcases List.mem_append.1 (look_mem hk) with h1 | h1
   ·exact hb1 k B' h1
   ·exact hb2 k B' h1
  ·simpa [Sig.fin] using hcur
  ·intro k B _ b hb
   obtain ⟨i, C, _, h1, h2⟩ := hfoot k b hb
   exact h.own i C h1 b h2
  ·intro k p hp hk
   rw [gren_some (hpin k (by simpa [Sig.fin] using hk))]
   exact h.pin k p hp (by rw [h.np, hnp]; simpa [Sig.fin] using hk)
  ·rw [hnp]; rfl
  ·rw [hkp]; rfl
  ·intro c hc
   have h1 := (shKp_box (v := 0) (by rw [← hkp]; exact hc)).1
   rw [gren_some (hpin c.1 (by omega))]
   exact h.kept c hc
  ·intro c hc
   rw [hkp] at hc
   refine ⟨?_, ?_⟩
   ·have h1 := (shKp_box (v := 0) hc).1
    simpa [Sig.fin] using h1
   ·obtain ⟨m, hm⟩ := shKp_back (v := shN sig.rs) hc
    refine ⟨m, look_of_mem ?_ (List.mem_append_right _ hm)⟩
    have hn : (finL sig).map (·.1) = o.tg.map (·.1) := by
     rw [← ho]
     simp only [finL, MO.add, List.map_append, nm1, nm2]
    rw [hn]
    exact hnames
  ·exact shSV_ok (fun i _ h2 => by simp only [Sig.outs]; omega) (fun k B hB => look_some (List.mem_append_left _ hB))
  ·intro f hf; simp [Sig.fin] at hf
  ·intro k B hk
   rcases List.mem_append.1 (look_mem hk) with h1 | h1
   ·exact (shB_ok (fun i _ h2 => by simp only [Sig.outs]; omega) k B h1).1
   ·exact (shB_ok (fun i _ h2 => by simp only [Sig.outs]; omega) k B h1).1
end
theorem fn_ok {c : Cx} {K : Sem1} {m : Nat} (hm : c.P.follows .mixedOrders = true) (hcall : CallOK c K) {f : FuncId} {sig : Sig} {t : Tr} (hsg : c.sg f = some sig) (ht : symFn c f = some t) {ins outs : List AV} (hrun : run K m t (envOf ins) = some (.ret outs)) : Contract c.P f sig ins outs := by
 unfold symFn at ht
 split at ht
 case h_2 => cases ht
 rename_i fn g hfn hg
 rw [hsg] at hg
 cases hg
 split at ht
 case h_2 => cases ht
 rename_i b hb
 split at ht
 case isFalse => cases ht
 rename_i hcond
 simp only [Option.some.injEq] at ht
 subst ht
 have hleafy := code_leafy (c := c) (fn := f) (inl_leafy (c := c) (K := K) (m := m) 12) b (sig.init fn.ntmps)
 have hclosed : ∀ (x : Ex) (s : St), Closed K m (match x with
   | .exit _ => .bad
   | _ => match finish c sig fn.results.toList s with
    | some (gs, vs) => .guards gs (.ret vs)
    | none => .bad) := by
  intro x s
  split
  ·exact Closed.bad
  ·split
   ·exact Closed.guards fun r l vs h => by simp only [run] at h; cases h
   ·exact Closed.bad
 rcases run_bind hclosed _ _ _ hrun with ⟨l, us, h1, h2⟩ | ⟨us, h1, h2⟩ | ⟨x, s1, r1, h1, h2⟩
 ·cases h2
 ·obtain ⟨_, _, _, h3⟩ := hleafy _ _ h1; cases h3
 have hx : ∃ gs vs, finish c sig fn.results.toList s1 = some (gs, vs) ∧ run K m (.guards gs (.ret vs)) r1 = some (.ret outs) := by
  split at h2
  ·simp only [run] at h2; cases h2
  ·split at h2
   ·rename_i gs vs hf; exact ⟨gs, vs, hf, h2⟩
   ·simp only [run] at h2; cases h2
 have hxe : ∀ j, x ≠ .exit j := by
  rintro j rfl
  simp only [run] at h2; cases h2
 obtain ⟨gs, vs, hfin, hr⟩ := hx
 obtain ⟨hgs, hr⟩ := run_guards hr
 simp only [run, Option.some.injEq, Out.ret.injEq] at hr
 have hlen : vs.length = sig.outs := by
  unfold finish at hfin
  split at hfin
  case h_2 => cases hfin
  split at hfin
  case h_2 => cases hfin
  rename_i o1 o2 hm1 hm2
  split at hfin
  case isFalse => cases hfin
  simp only [Option.some.injEq, Prod.mk.injEq] at hfin
  obtain ⟨-, rfl⟩ := hfin
  simp only [MO.add, List.length_append, matchShs_len hm1, matchShs_len hm2]
  rfl
 refine ⟨⟨fn, hfn, hcond.2.2, by rw [hb]; rfl⟩, by rw [← hr, List.length_map, hlen], ?_⟩
 intro bd g args w hini hw0
 have hal : sig.ps.length = args.length := by
  have h3 := hini.cur.length
  have : ∀ (l : List Sh) (v p : Nat), (shSV v p l).length = l.length := by
   intro l
   induction l with
   | nil => intro v p; rfl
   | cons x l ih => intro v p; simp [shSV, ih]
  simpa [Sig.ini1, this] using h3
 have hR : R bd (· < 100000) (sig.init fn.ntmps) (envOf ins) g (args.toArray ++ Array.replicate (fn.ntmps - args.toArray.size) undef) [] w := by
  refine (hini.mono fun i hi => Nat.lt_of_lt_of_le (Nat.lt_of_lt_of_le hi hcond.2.1) (show 90000 ≤ 100000 by omega)).slots (cur := shSV 0 0 sig.ps ++ List.replicate (fn.ntmps - sig.ps.length) (.a .un)) (stk := []) (st' := []) ?_ trivial (fun v hv => ?_) (fun f hf => by cases hf)
  ·rw [Array.toList_append, Array.toList_replicate, List.size_toArray, ← hal]
   exact hini.cur.app (SReps.uns _)
  ·rcases List.mem_append.1 hv with hv | hv
   ·exact SV.all_mono (fun b hb => Atom.ok_mono (fun i hi => Nat.lt_of_lt_of_le (Nat.lt_of_lt_of_le hi hcond.2.1) (show 90000 ≤ 100000 by omega)) (fun _ h => h) hb) (hini.ncur v hv)
   ·rw [(List.mem_replicate.1 hv).2]; trivial
 have hcode := code_ok hm hcall (inl_ok hm hcall 12) (inl_leafy 12) b _ (envOf ins) g { tmps := args.toArray ++ Array.replicate (fn.ntmps - args.toArray.size) undef, defers := [] } w _ hR h1
 refine calls_of_wp hfn hb (Code.wp_mono ?_ hcode)
 rintro e' a' w' ⟨hd, x', s', r', g', heq, hR', he⟩
 cases heq
 obtain ⟨vals, g2, e1, _, e3⟩ := finish_ok (c := c) (fn := fn) hR' hfin hgs (by rw [← hini.np]; rfl) hini.kp.symm
 rw [hr] at e3
 cases x with
 | exit j => exact (hxe j rfl).elim
 | normal => subst he; exact ⟨hd, pack vals, e1, vals, g2, rfl, e3⟩
 | ret => subst he; exact ⟨hd, pack vals, e1, vals, g2, rfl, e3⟩
theorem runF_ok {c : Cx} {F : FuncId → Option Tr} {H : Sem1} (hI : InsOK c) (hm : c.P.follows .mixedOrders = true) (hF : ∀ f t, F f = some t → symFn c f = some t)
  (hH : ∀ f sig ins outs, F f = none → c.sg f = some sig → H f ins = some outs → Contract c.P f sig ins outs) : ∀ n, KOK c (runF F H n)
 | 0 => fun f sig ins outs _ h => by simp only [runF] at h; cases h
 | n + 1 => fun f sig ins outs hsg h => by
  simp only [runF] at h
  split at h
  ·rename_i t ht
   split at h
   ·rename_i vs hr
    cases h
    exact fn_ok hm (call_ok hI (runF_ok hI hm hF hH n)) hsg (hF f t ht) hr
   ·cases h
  ·rename_i ht
   exact hH f sig ins outs ht hsg h
end Go.Sm
namespace Go.Sm.Q
open Go.Sm
abbrev I : Ty := .int .i64
abbrev U : Ty := .int .u8
abbrev B : Ty := .bool
abbrev S : Ty := .str
abbrev L (t : Ty) : Ty := .sl false t
abbrev N (t : Ty) : Ty := .sl true t
abbrev P (a b : Ty) : Ty := .pr a b
abbrev V3 : Ty := .pr I (.pr I I)
abbrev T4 : Ty := .pr I (.pr I (.pr I I))
abbrev TR : Ty := .pr (L T4) (.pr (L I) (L (L T4)))
abbrev v (t : Ty) (n : Nat) : E t := .var t n
abbrev c (n : Int) : E I := .int .i64 n
abbrev k (b : Bool) : E B := .bool b
abbrev ar (o : BinOp) {k : IntKind} (x y : E (.int k)) : E (.int k) := .o2 (.ar o k) x y
abbrev add (x y : E I) : E I := .o2 (.ar .add .i64) x y
abbrev sub (x y : E I) : E I := .o2 (.ar .sub .i64) x y
abbrev mul (x y : E I) : E I := .o2 (.ar .mul .i64) x y
abbrev quo (x y : E I) : E I := .o2 (.ar .quo .i64) x y
abbrev rem (x y : E I) : E I := .o2 (.ar .rem .i64) x y
abbrev cm (o : BinOp) {k j : IntKind} (x : E (.int k)) (y : E (.int j)) : E B := .o2 (.cm o k j) x y
abbrev lt (x y : E I) : E B := .o2 (.cm .lss .i64 .i64) x y
abbrev le (x y : E I) : E B := .o2 (.cm .leq .i64 .i64) x y
abbrev gt (x y : E I) : E B := .o2 (.cm .gtr .i64 .i64) x y
abbrev ge (x y : E I) : E B := .o2 (.cm .geq .i64 .i64) x y
abbrev eq (x y : E I) : E B := .o2 (.cm .eql .i64 .i64) x y
abbrev ne (x y : E I) : E B := .o2 (.cm .neq .i64 .i64) x y
abbrev nt (x : E B) : E B := .o1 .not x
abbrev ln {t : Ty} (x : E (L t)) : E I := .o1 (.len false t) x
abbrev lm {b : Bool} {t : Ty} (x : E (.sl b t)) : E I := .o1 (.len b t) x
abbrev emp {b : Bool} {t : Ty} (x : E (.sl b t)) : E B := .o1 (.emp b t) x
abbrev re {b : Bool} (d : Bool) {t : Ty} (x : E (.sl b t)) : E (.sl d t) := .o1 (.re b d t) x
abbrev f {a b : Ty} (x : E (.pr a b)) : E a := .o1 (.fst a b) x
abbrev s {a b : Ty} (x : E (.pr a b)) : E b := .o1 (.snd a b) x
abbrev one {t : Ty} (x : E t) : E (L t) := .o1 (.one t) x
abbrev ix {t : Ty} (x : E (L t)) (y : E I) : E t := .o2 (.idx false t .i64) x y
abbrev im {b : Bool} {t : Ty} {k : IntKind} (x : E (.sl b t)) (y : E (.int k)) : E t := .o2 (.idx b t k) x y
abbrev app {t : Ty} (x y : E (L t)) : E (L t) := .o2 (.app t) x y
abbrev take {t : Ty} (x : E (L t)) (y : E I) : E (L t) := .o2 (.take t .i64) x y
abbrev drop {t : Ty} (x : E (L t)) (y : E I) : E (L t) := .o2 (.drop t .i64) x y
abbrev rep {t : Ty} (x : E I) (y : E t) : E (L t) := .o2 (.rep t .i64) x y
abbrev over {t : Ty} (x y : E (L t)) : E (L t) := .o2 (.over t) x y
abbrev pr {a b : Ty} (x : E a) (y : E b) : E (.pr a b) := .o2 (.pair a b) x y
abbrev st {t : Ty} (x : E (L t)) (i : E I) (y : E t) : E (L t) := .o3 (.set t .i64) x i y
abbrev sm {t : Ty} {k : IntKind} (x : E (L t)) (i : E (.int k)) (y : E t) : E (L t) := .o3 (.set t k) x i y
abbrev nl (t : Ty) : E (L t) := .nil false t
abbrev z (t : Ty) : E t := .z t
abbrev pk {t : Ty} (b : E B) (x y : E t) : E t := .o3 (.pick t) b x y
abbrev a {t : Ty} (x : E t) : AE := ⟨t, x⟩
end Go.Sm.Q
namespace Go.Sm
open Go.ChangeShapes Go.WideShapes Go.ChangeAt Go.RowKit
set_option linter.unusedVariables false
set_option linter.unusedSimpArgs false
def Wf : (t : Ty) → t.D → Prop
 | .int k, n => (Lit.int k n).wf = true
 | .bool, _ => True
 | .str, s => s.size ≤ maxLen
 | .sl _ e, xs => List.length (α := e.D) xs ≤ maxLen ∧ ∀ x ∈ (xs : List e.D), Wf e x
 | .pr a b, p => Wf a p.1 ∧ Wf b p.2
def layFs (P : Program) (r : TypeId → Ty → Bool) : Nat → List Field → Ty → Bool
 | o, f :: l, t =>
  match l, t with
  | [], t => decide (f.offset = o) && r f.type t && decide (P.cellsOf f.type = t.size)
  | l, .pr a b => decide (f.offset = o) && r f.type a && decide (P.cellsOf f.type = a.size) && layFs P r (o + a.size) l b
  | _, _ => false
 | _, [], _ => false
def layB (P : Program) : Nat → TypeId → Ty → Bool
 | 0, _, _ => false
 | n + 1, t, ty =>
  match P.underlying t, ty with
  | some (.int k), .int k' => decide (k = k')
  | some .bool, .bool => true
  | some .string, .str => true
  | some (.slice e), .sl false u => layB P n e u && decide (P.cellsOf e = u.size)
  | some (.struct fs), ty => layFs P (layB P n) 0 fs.toList ty && decide (P.cellsOf t = ty.size)
  | _, _ => false
section
variable {H : Type} {enc : TypeId × Value → H} {P : Program} {w : World} {spare : Nat → Bool} {held : Bool}
theorem cell_spot {a : Addr} {v : Value} (h : w.cell? a = some v) : a.spot = none := by
 unfold World.cell? at h
 split at h
 ·split at h
  ·cases h
  ·rename_i hs; simpa using hs
 ·cases h
theorem trod_rep : ∀ (n : Nat) {t : TypeId} {ty : Ty} {fuel : Nat} {cs : List Value} {x : DataW H × List MemPlace}, layB P n t ty = true → DataW.trod enc P w 0 spare held fuel t cs = some x → ∃ d, Rep w (fun _ => False) ty d cs ∧ Wf ty d
 | 0, t, ty, fuel, cs, x, hl, _ => by simp [layB] at hl
 | n + 1, t, ty, fuel, cs, x, hl, h => by
  unfold layB at hl
  split at hl
  ·rename_i k k' ht
   simp only [decide_eq_true_eq] at hl
   subst hl
   obtain ⟨m, rfl, _, hw⟩ := DataW.trod_int ht h
   exact ⟨m, rfl, hw⟩
  ·rename_i ht
   obtain ⟨b, rfl, _⟩ := DataW.trod_bool ht h
   exact ⟨b, rfl, trivial⟩
  ·rename_i ht
   obtain ⟨s, rfl, _, hs⟩ := DataW.trod_string ht h
   exact ⟨s, rfl, hs⟩
  ·rename_i e u ht
   simp only [Bool.and_eq_true, decide_eq_true_eq] at hl
   rcases DataW.trod_slice ht h with ⟨rfl, _⟩ | ⟨a, len, cap, elems, rest, m, _, rfl, _, _, hlc, hcm, hel, hget, _, _⟩
   ·exact ⟨([] : List u.D), ⟨none, 0, rfl, Nat.le_refl _, fun h => (by cases h), fun _ => rfl, fun p hp => by cases hp⟩, by simp [Wf]⟩
   ·have each : ∀ i, i < len → ∃ d : u.D, ∃ us, w.cells? 0 (a.add (i * P.cellsOf e)) (P.cellsOf e) = some us ∧ Rep w (fun _ => False) u d us ∧ Wf u d := by
     intro i hi
     have h1 := hget i hi
     rw [List.getElem?_eq_getElem (by omega)] at h1
     obtain ⟨us, h2, h3⟩ := Option.bind_eq_some_iff.1 h1
     obtain ⟨d, h4, h5⟩ := trod_rep n hl.1 h3
     exact ⟨d, us, h2, h4, h5⟩
    have hex : ∃ ds : List u.D, ds.length = len ∧ ∀ i (hi : i < ds.length), ∃ us, w.cells? 0 (a.add (i * P.cellsOf e)) (P.cellsOf e) = some us ∧ Rep w (fun _ => False) u ds[i] us ∧ Wf u ds[i] := by
     have : ∀ k, k ≤ len → ∃ ds : List u.D, ds.length = k ∧ ∀ i (hi : i < ds.length), ∃ us, w.cells? 0 (a.add (i * P.cellsOf e)) (P.cellsOf e) = some us ∧ Rep w (fun _ => False) u ds[i] us ∧ Wf u ds[i] := by
      intro k
      induction k with
      | zero => intro _; exact ⟨[], rfl, fun i hi => by simp at hi⟩
      | succ k ih =>
       intro hk
       obtain ⟨ds, h1, h2⟩ := ih (by omega)
       obtain ⟨d, us, h3, h4, h5⟩ := each k (by omega)
       refine ⟨ds ++ [d], by simp [h1], fun i hi => ?_⟩
       by_cases hik : i < ds.length
       ·rw [List.getElem_append_left hik]; exact h2 i hik
       ·have : i = k := by simp at hi; omega
        subst this
        rw [List.getElem_append_right (by omega)]
        simp only [h1, Nat.sub_self, List.getElem_cons_zero]
        exact ⟨us, h3, h4, h5⟩
     exact this len (Nat.le_refl _)
    obtain ⟨ds, hlen, hds⟩ := hex
    refine ⟨ds, ⟨some a, cap, by rw [hlen], by rw [hlen]; exact hlc, fun h => (by cases h), fun h => (by cases h), ?_⟩, ?_⟩
    ·intro p hp hne
     cases hp
     have h0 : 0 < ds.length := List.length_pos_iff.2 hne
     have hspot : a.spot = none := by
      obtain ⟨us, h1, h2, _⟩ := hds 0 h0
      have h3 := (World.cells?_some h1).2.2 0 (by rw [hl.2]; exact u.size_pos)
      have hl' := h2.len
      rw [List.getElem?_eq_getElem (by rw [hl']; exact u.size_pos)] at h3
      have := cell_spot h3
      simp only [Nat.zero_mul] at this
      simp only [Addr.add] at this
      cases hs : a.spot with
      | none => rfl
      | some sp => simp [hs] at this
     refine ⟨hspot, fun h => h, fun i hi => ?_⟩
     obtain ⟨us, h1, h2, _⟩ := hds i hi
     have hl' := h2.len
     refine ⟨us, hl', fun j v hj => ?_, h2⟩
     have hjl : j < us.length := (List.getElem?_eq_some_iff.1 hj).1
     have h3 := (World.cells?_some h1).2.2 j (by rw [hl.2, ← hl']; exact hjl)
     rw [hj, hl.2, add_eq hspot, Addr.add_lit] at h3
     show cell w a.block (a.off + (i * u.size + j)) = some v
     rw [← Nat.add_assoc]
     exact h3
    ·refine ⟨by rw [hlen]; omega, fun y hy => ?_⟩
     obtain ⟨i, hi, rfl⟩ := List.getElem_of_mem hy
     obtain ⟨us, _, _, h3⟩ := hds i hi
     exact h3
  ·rename_i ty2 fs ht
   simp only [Bool.and_eq_true, decide_eq_true_eq] at hl
   obtain ⟨xs, m, _, _, hcl, hxl, hf⟩ := DataW.trod_struct ht h
   have key : ∀ (l : List Field) (o : Nat) (ty : Ty) (k : Nat), layFs P (layB P n) o l ty = true → o + ty.size = cs.length → (∀ i f, l[i]? = some f → fs[k + i]? = some f) → ∃ d, Rep w (fun _ => False) ty d (cs.drop o) ∧ Wf ty d := by
    intro l
    induction l with
    | nil => intro o ty k hlay; simp [layFs] at hlay
    | cons f l ih =>
     intro o ty k hlay ho hfs
     have hfk := hf k f (by simpa using hfs 0 f rfl)
     have hkl : k < xs.length := by
      have := hfs 0 f rfl
      have := (Array.getElem?_eq_some_iff.1 this).1
      simpa [hxl] using this
     rw [List.getElem?_eq_getElem hkl] at hfk
     unfold layFs at hlay
     split at hlay
     ·simp only [Bool.and_eq_true, decide_eq_true_eq] at hlay
      obtain ⟨⟨h1, h2⟩, h3⟩ := hlay
      subst h1
      rw [h3] at hfk
      obtain ⟨d, h4, h5⟩ := trod_rep n h2 hfk
      rw [List.take_of_length_le (by rw [List.length_drop]; omega)] at h4
      exact ⟨d, h4, h5⟩
     ·rename_i l' a b hne
      simp only [Bool.and_eq_true, decide_eq_true_eq] at hlay
      obtain ⟨⟨⟨h1, h2⟩, h3⟩, h4⟩ := hlay
      subst h1
      rw [h3] at hfk
      obtain ⟨d, h5, h6⟩ := trod_rep n h2 hfk
      simp only [Ty.size] at ho
      obtain ⟨d2, h7, h8⟩ := ih (f.offset + a.size) b (k + 1) h4 (by omega) (fun i g hg => by have := hfs (i + 1) g (by simpa using hg); rwa [show k + 1 + i = k + (i + 1) by omega])
      refine ⟨(d, d2), ⟨(cs.drop f.offset).take a.size, cs.drop (f.offset + a.size), ?_, h5, h7⟩, h6, h8⟩
      rw [← List.drop_drop, List.take_append_drop]
     ·cases hlay
   have := key fs.toList 0 _ 0 hl.1 (by rw [Nat.zero_add, ← hl.2, hcl]) (fun i f hi => by simpa using hi)
   rwa [List.drop_zero] at this
  ·cases hl
end
theorem ini_pure {P : Program} {W : World} {g : Nat → G} {sig : Sig} (hB : shB 0 0 sig.ps = []) (hp : shPins sig.ps = 0) {ins : List AV} {args : List Value} (hc : SReps W (fun _ => False) g (envOf ins) (shSV 0 0 sig.ps) args) :
  R ⟨fun _ => False, W, [], [], fun _ _ => none, fun _ => False⟩ (· < shN sig.ps) sig.ini (envOf ins) g args.toArray [] W := by
 have hlook : ∀ k, sig.ini.heap k = none := by intro k; simp [Sig.ini, hB, look]
 have hM : Mt (fun _ => False) sig.ini.heap g = fun _ => False := by
  funext b
  apply propext
  constructor
  ·rintro (⟨k, B, hk, _⟩ | h)
   ·rw [hlook] at hk; cases hk
   ·exact h
  ·exact fun h => h.elim
 refine { cur := ?_, stk := trivial, heap := ?_, inj := ?_, nodup := ?_, own := ?_, lt := ?_, world := ⟨rfl, rfl, rfl, Nat.le_refl _, fun _ _ _ => rfl, fun _ h => h.elim⟩, pin := ?_, np := hp, kp := ?_, kept := fun c hc => (by cases hc), kpl := fun c hc => (by cases hc), ncur := ?_, nstk := fun f hf => (by simp [Sig.ini] at hf), nheap := ?_ }
 ·show SReps W (Mt (fun _ => False) sig.ini.heap g) g (envOf ins) sig.ini.cur args.toArray.toList
  rw [hM]; simpa [Sig.ini] using hc
 ·intro id B h; rw [hlook] at h; cases h
 ·intro id id' B B' b h; rw [hlook] at h; cases h
 ·intro id B h; rw [hlook] at h; cases h
 ·intro id B h; rw [hlook] at h; cases h
 ·intro id B h; rw [hlook] at h; cases h
 ·intro k p hp; simp at hp
 ·show shKp 0 sig.ps = []
  cases hk : shKp 0 sig.ps with
  | nil => rfl
  | cons c l =>
   have h1 := (shKp_box (v := 0) (l := sig.ps) (p := 0) (c := c) (by rw [hk]; exact List.mem_cons_self ..)).1
   omega
 ·exact shSV_ok (fun i _ h2 => by simpa using h2) (fun k B hB' => by rw [hB] at hB'; cases hB')
 ·intro id B h; rw [hlook] at h; cases h
theorem law_calls {P : Program} {f : FuncId} {sig : Sig} {ins : List AV} (hrs : sig.rs = [.p .bool]) (hB : shB 0 0 sig.ps = []) (hp : shPins sig.ps = 0) (hcon : Contract P f sig ins [⟨.bool, true⟩])
  {W : World} {args : List Value} (hc : SReps W (fun _ => False) (fun _ => nilG) (envOf ins) (shSV 0 0 sig.ps) args) :
  Calls P f args.toArray W fun e W' => e = .returned (.bool true) ∧ Below W.heap.size W W' := by
 obtain ⟨_, _, h⟩ := hcon
 have hini1 : sig.ini1 = sig.ini := by
  unfold Sig.ini1 Sig.ini selfUp
  cases hso : selfOf 0 sig.ps with
  | none => rfl
  | some pf =>
   have := (selfOf_box (v := 0) hso).2
   rw [hB] at this; cases this
 refine (h _ _ args W (by rw [hini1]; exact ini_pure (P := P) hB hp hc) rfl).mono ?_
 rintro e W' ⟨vals, g', rfl, hR⟩
 have hcur := hR.cur
 simp only [Sig.fin, hrs, shSV, Sh.sv] at hcur
 match vals, hcur with
 | [v], hcur =>
  have hv : v = .bool true := by
   have := hcur.1
   simp only [SRep, ARep, Rep] at this
   have h2 : [v] = [Value.bool true] := this
   simpa using h2
  subst hv
  exact ⟨rfl, hR.world.os, hR.world.tape, hR.world.output, hR.world.size, fun k hk => hR.world.heap k hk fun h => h⟩
 | [], hcur => exact hcur.elim
 | _ :: _ :: _, hcur => exact hcur.2.elim
def flT : Ty → List Ty
 | .pr a b => flT a ++ flT b
 | .int k => [.int k]
 | .bool => [.bool]
 | .str => [.str]
 | .sl c t => [.sl c t]
def flV : (t : Ty) → t.D → List AV
 | .pr a b, d => flV a d.1 ++ flV b d.2
 | .int k, d => [⟨.int k, d⟩]
 | .bool, d => [⟨.bool, d⟩]
 | .str, d => [⟨.str, d⟩]
 | .sl c t, d => [⟨.sl c t, d⟩]
theorem flV_len : ∀ (t : Ty) (d : t.D), (flV t d).length = (flT t).length := by
 intro t
 induction t with
 | pr a b iha ihb => intro d; simp only [flV, flT, List.length_append, iha, ihb]
 | _ => intro d; rfl
theorem csA_app : ∀ (l m : List CS) (v p : Nat), csA v p (l ++ m) = csA v p l ++ csA (v + l.length) (p + csArrs l) m
 | [], m, v, p => by simp [csA, csArrs]
 | c :: l, m, v, p => by
  simp only [List.cons_append, csA, csA_app l m, List.length_cons, csArrs]
  rw [show v + 1 + l.length = v + (l.length + 1) by omega, Nat.add_assoc]
theorem csArrs_p : ∀ (l : List Ty), csArrs (l.map .p) = 0
 | [] => rfl
 | t :: l => by simp only [List.map_cons, csArrs, CS.pins, csArrs_p l]
theorem rep_agg {w : World} {M : Nat → Prop} {g : Nat → G} {r : Env} : ∀ {t : Ty} {d : t.D} {us : List Value} {v p : Nat}, Rep w M t d us → (∀ i x, (flV t d)[i]? = some x → r (v + i) = x) → AReps w M g r (csA v p ((flT t).map .p)) us := by
 have leaf : ∀ {t : Ty} {d : t.D} {us : List Value} {v p : Nat}, us.length = 1 → Rep w M t d us → r (v + 0) = ⟨t, d⟩ → AReps w M g r (csA v p [.p t]) us := by
  intro t d us v p hl h hr
  obtain ⟨u, rfl⟩ := List.length_eq_one_iff.1 hl
  refine ⟨?_, trivial⟩
  simp only [CS.at, ARep, den]
  rw [Nat.add_zero] at hr
  rw [hr, AV.as_mk]
  exact h
 intro t
 induction t with
 | pr a b iha ihb =>
  intro d us v p h hr
  obtain ⟨l, m, rfl, h1, h2⟩ := h
  simp only [flT, List.map_append, csA_app]
  refine (iha h1 fun i x hi => hr i x ?_).append (ihb h2 fun i x hi => ?_)
  ·simp only [flV]
   rw [List.getElem?_append_left (List.getElem?_eq_some_iff.1 hi).1]; exact hi
  ·rw [List.length_map, Nat.add_assoc]
   refine hr _ x ?_
   simp only [flV]
   rw [List.getElem?_append_right (by rw [flV_len]; omega), flV_len, Nat.add_sub_cancel_left]
   exact hi
 | _ => intro d us v p h hr; exact leaf h.len h (hr 0 _ rfl)
theorem get_app {α : Type} {l m : List α} {i : Nat} {x : α} (h : l[i]? = some x) : (l ++ m)[i]? = some x := by
 rw [List.getElem?_append_left (List.getElem?_eq_some_iff.1 h).1]; exact h
end Go.Sm
