/- A machine over symbols for loaded functions, and that it tells the truth; no condition. -/
import Derived.Test.YthapopegchnhlaaGreatSmLib3
namespace Go.Sm
set_option linter.unusedVariables false
structure Mc where
 F : FuncId → Option Tr
 H : Sem1
def Mc.Ends (M : Mc) (f : FuncId) (ins outs : List AV) : Prop := ∃ n0, ∀ n, n0 ≤ n → runF M.F M.H n f ins = some outs
def Mc.C (M : Mc) (f : FuncId) (ins : List AV) (Q : List AV → Prop) : Prop := ∃ outs, M.Ends f ins outs ∧ Q outs
def onJ (X : List AV → Prop) (Q : Out → Prop) : Out → Prop
 | .jump 0 us => X us
 | .jump (l + 1) us => Q (.jump l us)
 | .ret us => Q (.ret us)
 | .leaf _ _ _ => False
def lp (w : Env → (Out → Prop) → Prop) (us : List AV) (Q : Out → Prop) : Prop :=
 ∀ X : List AV → Prop, (∀ us, w (envOf us) (onJ X Q) → X us) → X us
def It (c A B : Prop) : Prop := (c → A) ∧ (¬ c → B)
def Gd (c A : Prop) : Prop := c ∧ A
theorem It.congr {c c' A A' B B' : Prop} (h : c = c') (ha : c' → A = A') (hb : ¬ c' → B = B') : It c A B = It c' A' B' := by
 subst h; exact propext ⟨fun h => ⟨fun hc => ha hc ▸ h.1 hc, fun hc => hb hc ▸ h.2 hc⟩, fun h => ⟨fun hc => (ha hc).symm ▸ h.1 hc, fun hc => (hb hc).symm ▸ h.2 hc⟩⟩
theorem Gd.congr {c c' A A' : Prop} (h : c = c') (ha : c' → A = A') : Gd c A = Gd c' A' := by
 subst h; exact propext ⟨fun h => ⟨h.1, ha h.1 ▸ h.2⟩, fun h => ⟨h.1, (ha h.1).symm ▸ h.2⟩⟩
theorem It.pos {c A B : Prop} (h : c) : It c A B = A := propext ⟨fun h1 => h1.1 h, fun h1 => ⟨fun _ => h1, fun h2 => (h2 h).elim⟩⟩
theorem It.neg {c A B : Prop} (h : ¬ c) : It c A B = B := propext ⟨fun h1 => h1.2 h, fun h1 => ⟨fun h2 => (h h2).elim, fun _ => h1⟩⟩
theorem Gd.pos {c A : Prop} (h : c) : Gd c A = A := propext ⟨fun h1 => h1.2, fun h1 => ⟨h, h1⟩⟩
theorem arr_pos {c A : Prop} (h : c) : (c → A) = A := propext ⟨fun f => f h, fun a _ => a⟩
theorem arr_neg {c A : Prop} (h : ¬ c) : (c → A) = True := eq_true fun h1 => (h h1).elim
theorem It.tt {A B : Prop} : It True A B = A := It.pos trivial
theorem It.ff {A B : Prop} : It False A B = B := It.neg id
theorem Gd.tt {A : Prop} : Gd True A = A := Gd.pos trivial
theorem It.same {c A : Prop} : It c A A = A := propext ⟨fun h => Classical.byCases h.1 h.2, fun h => ⟨fun _ => h, fun _ => h⟩⟩
def Mc.wp (M : Mc) : Tr → Env → (Out → Prop) → Prop
 | .leaf _ _, _, _ => False
 | .bad, _, _ => False
 | .ite c a b, r, Q => It (den c r = true) (M.wp a r Q) (M.wp b r Q)
 | .guard c t, r, Q => Gd (den c r = true) (M.wp t r Q)
 | .call f ins b t, r, Q => M.C f (ins.map (denA · r)) fun vs => M.wp t (putN r b vs) Q
 | .jump l vs, r, Q => Q (.jump l (vs.map (denA · r)))
 | .ret vs, r, Q => Q (.ret (vs.map (denA · r)))
 | .join t k, r, Q => M.wp t r (onJ (fun us => M.wp k (envOf us) Q) Q)
 | .loop init body, r, Q => lp (M.wp body) (init.map (denA · r)) Q
def Mc.LP (M : Mc) (body : Tr) (us : List AV) (Q : Out → Prop) : Prop := lp (M.wp body) us Q
@[congr] theorem Mc.C.congr {M : Mc} {f : FuncId} {ins ins' : List AV} {Q : List AV → Prop} (h : ins = ins') : M.C f ins Q = M.C f ins' Q := h ▸ rfl
@[congr] theorem Mc.LP.congr {M : Mc} {b : Tr} {us us' : List AV} {Q : Out → Prop} (h : us = us') : M.LP b us Q = M.LP b us' Q := h ▸ rfl
def Mc.K (M : Mc) (t : Tr) (r : Env) (b : Nat) (Q : Out → Prop) (vs : List AV) : Prop := M.wp t (putN r b vs) Q
section
variable {M : Mc} {r : Env} {Q : Out → Prop}
theorem wpK {t : Tr} {b : Nat} {vs : List AV} : M.K t r b Q vs = M.wp t (putN r b vs) Q := rfl
theorem wpBad : M.wp .bad r Q = False := rfl
theorem wpIte {c : E .bool} {a b : Tr} : M.wp (.ite c a b) r Q = ((den c r = true → M.wp a r Q) ∧ (¬ den c r = true → M.wp b r Q)) := rfl
theorem wpGuard {c : E .bool} {a : Tr} : M.wp (.guard c a) r Q = Gd (den c r = true) (M.wp a r Q) := rfl
theorem wpCall {f : FuncId} {ins : List AE} {b : Nat} {t : Tr} : M.wp (.call f ins b t) r Q = M.C f (ins.map (denA · r)) (M.K t r b Q) := rfl
theorem wpJump {l : Nat} {vs : List AE} : M.wp (.jump l vs) r Q = Q (.jump l (vs.map (denA · r))) := rfl
theorem wpRet {vs : List AE} : M.wp (.ret vs) r Q = Q (.ret (vs.map (denA · r))) := rfl
theorem wpJoin {t k : Tr} : M.wp (.join t k) r Q = M.wp t r (onJ (fun us => M.wp k (envOf us) Q) Q) := rfl
theorem wpLoop {init : List AE} {b : Tr} : M.wp (.loop init b) r Q = M.LP b (init.map (denA · r)) Q := rfl
theorem onJ_0 {X : List AV → Prop} {us : List AV} : onJ X Q (.jump 0 us) = X us := rfl
theorem onJ_s {X : List AV → Prop} {us : List AV} {l : Nat} : onJ X Q (.jump (l + 1) us) = Q (.jump l us) := rfl
theorem onJ_r {X : List AV → Prop} {us : List AV} : onJ X Q (.ret us) = Q (.ret us) := rfl
end
def Mono (w : Env → (Out → Prop) → Prop) : Prop := ∀ r (Q Q' : Out → Prop), (∀ o, Q o → Q' o) → w r Q → w r Q'
theorem onJ_mono {X X' : List AV → Prop} {Q Q' : Out → Prop} (hx : ∀ us, X us → X' us) (hq : ∀ o, Q o → Q' o) : ∀ o, onJ X Q o → onJ X' Q' o
 | .jump 0 us, h => hx us h
 | .jump (l + 1) us, h => hq _ h
 | .ret us, h => hq _ h
 | .leaf _ _ _, h => h
theorem Mc.wp_mono (M : Mc) : ∀ t, Mono (M.wp t)
 | .leaf _ _ => fun _ _ _ _ h => h
 | .bad => fun _ _ _ _ h => h
 | .ite c a b => fun r Q Q' hq h => by
  exact ⟨fun hc => M.wp_mono a r Q Q' hq (h.1 hc), fun hc => M.wp_mono b r Q Q' hq (h.2 hc)⟩
 | .guard c t => fun r Q Q' hq h => ⟨h.1, M.wp_mono t r Q Q' hq h.2⟩
 | .call f ins b t => fun r Q Q' hq h => by
  obtain ⟨o, h1, h2⟩ := h
  exact ⟨o, h1, M.wp_mono t _ Q Q' hq h2⟩
 | .jump l vs => fun r Q Q' hq h => hq _ h
 | .ret vs => fun r Q Q' hq h => hq _ h
 | .join t k => fun r Q Q' hq h => M.wp_mono t r _ _ (onJ_mono (fun us h => M.wp_mono k _ Q Q' hq h) hq) h
 | .loop init body => fun r Q Q' hq h => fun X hX => h X fun us hu => hX us (M.wp_mono body _ _ _ (onJ_mono (fun _ h => h) hq) hu)
theorem lp_step {w : Env → (Out → Prop) → Prop} (hw : Mono w) {us : List AV} {Q : Out → Prop} (h : w (envOf us) (onJ (fun us' => lp w us' Q) Q)) : lp w us Q := fun X hX => hX us (hw _ _ _ (onJ_mono (fun us' h' => h' X hX) fun _ h => h) h)
theorem lp_inv {w : Env → (Out → Prop) → Prop} (hw : Mono w) {Q : Out → Prop} (P : Nat → List AV → Prop)
  (h : ∀ k us, P k us → w (envOf us) (onJ (fun us' => ∃ k', k' < k ∧ P k' us') Q)) : ∀ k us, P k us → lp w us Q := by
 intro k
 induction k using Nat.strongRecOn with
 | ind k ih =>
  intro us hp
  exact lp_step hw (hw _ _ _ (onJ_mono (fun us' ⟨k', h1, h2⟩ => ih k' h1 us' h2) fun _ h => h) (h k us hp))
theorem lp_for {σ : Type} {w : Env → (Out → Prop) → Prop} (hw : Mono w) {Q : Out → Prop} (mk : Nat → σ → List AV) (Inv : Nat → σ → Prop) (N : Nat)
  (hb : ∀ i s, i < N → Inv i s → w (envOf (mk i s)) (onJ (fun us => ∃ s', us = mk (i + 1) s' ∧ Inv (i + 1) s') Q))
  (he : ∀ s, Inv N s → w (envOf (mk N s)) (onJ (fun _ => False) Q)) (i : Nat) (s : σ) (hi : i ≤ N) (h : Inv i s) : lp w (mk i s) Q := by
 refine lp_inv hw (fun k us => ∃ i s, k = N - i ∧ i ≤ N ∧ us = mk i s ∧ Inv i s) ?_ (N - i) (mk i s) ⟨i, s, rfl, hi, rfl, h⟩
 rintro k us ⟨i, s, rfl, hi, rfl, h⟩
 by_cases hN : i = N
 ·subst hN
  exact hw _ _ _ (onJ_mono (fun _ h => h.elim) fun _ h => h) (he s h)
 ·refine hw _ _ _ (onJ_mono (fun us h => ?_) fun _ h => h) (hb i s (by omega) h)
  obtain ⟨s', rfl, h2⟩ := h
  exact ⟨N - (i + 1), by omega, i + 1, s', rfl, by omega, rfl, h2⟩
theorem lp_down {σ : Type} {w : Env → (Out → Prop) → Prop} (hw : Mono w) {Q : Out → Prop} (mk : Nat → σ → List AV) (Inv : Nat → σ → Prop)
  (hb : ∀ i s, Inv (i + 1) s → w (envOf (mk (i + 1) s)) (onJ (fun us => ∃ s', us = mk i s' ∧ Inv i s') Q))
  (he : ∀ s, Inv 0 s → w (envOf (mk 0 s)) (onJ (fun _ => False) Q)) (i : Nat) (s : σ) (h : Inv i s) : lp w (mk i s) Q := by
 refine lp_inv hw (fun k us => ∃ s, us = mk k s ∧ Inv k s) ?_ i (mk i s) ⟨s, rfl, h⟩
 rintro k us ⟨s, rfl, h⟩
 cases k with
 | zero => exact hw _ _ _ (onJ_mono (fun _ h => h.elim) fun _ h => h) (he s h)
 | succ k =>
  refine hw _ _ _ (onJ_mono (fun us h => ?_) fun _ h => h) (hb k s h)
  obtain ⟨s', rfl, h2⟩ := h
  exact ⟨k, by omega, s', rfl, h2⟩
theorem Mc.wp_join (M : Mc) {t k : Tr} {r : Env} {Q : Out → Prop} (X : List AV → Prop) (h1 : M.wp t r (onJ X Q)) (h2 : ∀ us, X us → M.wp k (envOf us) Q) : M.wp (.join t k) r Q :=
 M.wp_mono t r _ _ (onJ_mono h2 fun _ h => h) h1
theorem Mc.lp_for (M : Mc) (σ : Type) {b : Tr} {Q : Out → Prop} (mk : Nat → σ → List AV) (Inv : Nat → σ → Prop) (N i : Nat) (s : σ) (us : List AV) (hus : us = mk i s) (hi : i ≤ N) (h : Inv i s)
  (hb : ∀ i s, i < N → Inv i s → M.wp b (envOf (mk i s)) (onJ (fun us => ∃ s', us = mk (i + 1) s' ∧ Inv (i + 1) s') Q))
  (he : ∀ s, Inv N s → M.wp b (envOf (mk N s)) (onJ (fun _ => False) Q)) : M.LP b us Q := hus ▸ Go.Sm.lp_for (M.wp_mono b) mk Inv N hb he i s hi h
theorem Mc.lp_down (M : Mc) (σ : Type) {b : Tr} {Q : Out → Prop} (mk : Nat → σ → List AV) (Inv : Nat → σ → Prop) (i : Nat) (s : σ) (us : List AV) (hus : us = mk i s) (h : Inv i s)
  (hb : ∀ i s, Inv (i + 1) s → M.wp b (envOf (mk (i + 1) s)) (onJ (fun us => ∃ s', us = mk i s' ∧ Inv i s') Q))
  (he : ∀ s, Inv 0 s → M.wp b (envOf (mk 0 s)) (onJ (fun _ => False) Q)) : M.LP b us Q := hus ▸ Go.Sm.lp_down (M.wp_mono b) mk Inv hb he i s h
theorem Mc.lp_inv (M : Mc) {b : Tr} {Q : Out → Prop} (P : Nat → List AV → Prop) (k : Nat) (us : List AV) (hp : P k us)
  (h : ∀ k us, P k us → M.wp b (envOf us) (onJ (fun us' => ∃ k', k' < k ∧ P k' us') Q)) : M.LP b us Q := Go.Sm.lp_inv (M.wp_mono b) P h k us hp
theorem Mc.lp_step (M : Mc) {b : Tr} {Q : Out → Prop} {us : List AV} (h : M.wp b (envOf us) (onJ (fun us' => M.LP b us' Q) Q)) : M.LP b us Q := Go.Sm.lp_step (M.wp_mono b) h
def Mc.Fin (M : Mc) (t : Tr) (r : Env) (o : Out) : Prop := ∃ n0, ∀ n, n0 ≤ n → ∀ m, n0 ≤ m → run (runF M.F M.H n) m t r = some o
def Mc.LFin (M : Mc) (t : Tr) (us : List AV) (o : Out) : Prop := ∃ n0, ∀ n, n0 ≤ n → ∀ m, n0 ≤ m → ∀ k, n0 ≤ k → loopN (run (runF M.F M.H n) m t) k us = some o
theorem Mc.wp_ok (M : Mc) : ∀ (t : Tr) (r : Env) (Q : Out → Prop), M.wp t r Q → ∃ o, M.Fin t r o ∧ Q o
 | .leaf _ _, _, _, h => h.elim
 | .bad, _, _, h => h.elim
 | .ite c a b, r, Q, h => by
  by_cases hc : den c r = true
  ·obtain ⟨o, ⟨n0, h1⟩, h2⟩ := M.wp_ok a r Q (h.1 hc)
   exact ⟨o, ⟨n0, fun n hn m hm => by simp only [run, hc, if_true]; exact h1 n hn m hm⟩, h2⟩
  ·obtain ⟨o, ⟨n0, h1⟩, h2⟩ := M.wp_ok b r Q (h.2 hc)
   exact ⟨o, ⟨n0, fun n hn m hm => by simp only [run, if_neg hc]; exact h1 n hn m hm⟩, h2⟩
 | .guard c t, r, Q, h => by
  obtain ⟨hc, h⟩ := h
  obtain ⟨o, ⟨n0, h1⟩, h2⟩ := M.wp_ok t r Q h
  exact ⟨o, ⟨n0, fun n hn m hm => by simp only [run, hc, if_true]; exact h1 n hn m hm⟩, h2⟩
 | .call f ins b t, r, Q, h => by
  obtain ⟨vs, ⟨n1, hc⟩, h⟩ := h
  obtain ⟨o, ⟨n0, h1⟩, h2⟩ := M.wp_ok t _ Q h
  exact ⟨o, ⟨n0 + n1, fun n hn m hm => by simp only [run, hc n (by omega)]; exact h1 n (by omega) m (by omega)⟩, h2⟩
 | .jump l vs, r, Q, h => ⟨_, ⟨0, fun _ _ _ _ => rfl⟩, h⟩
 | .ret vs, r, Q, h => ⟨_, ⟨0, fun _ _ _ _ => rfl⟩, h⟩
 | .join t k, r, Q, h => by
  obtain ⟨o, ⟨n0, h1⟩, h2⟩ := M.wp_ok t r _ h
  match o, h1, h2 with
  | .jump 0 us, h1, h2 =>
   obtain ⟨o, ⟨n1, h3⟩, h4⟩ := M.wp_ok k _ Q h2
   exact ⟨o, ⟨n0 + n1, fun n hn m hm => by simp only [run, h1 n (by omega) m (by omega)]; exact h3 n (by omega) m (by omega)⟩, h4⟩
  | .jump (l + 1) us, h1, h2 => exact ⟨_, ⟨n0, fun n hn m hm => by simp only [run, h1 n hn m hm]⟩, h2⟩
  | .ret us, h1, h2 => exact ⟨_, ⟨n0, fun n hn m hm => by simp only [run, h1 n hn m hm]⟩, h2⟩
  | .leaf _ _ _, h1, h2 => exact h2.elim
 | .loop init body, r, Q, h => by
  have key : ∃ o, M.LFin body (init.map (denA · r)) o ∧ Q o := by
   refine h (fun us => ∃ o, M.LFin body us o ∧ Q o) fun us hu => ?_
   obtain ⟨o, ⟨n0, h1⟩, h2⟩ := M.wp_ok body _ _ hu
   match o, h1, h2 with
   | .jump 0 us', h1, h2 =>
    obtain ⟨o, ⟨n1, h3⟩, h4⟩ := h2
    refine ⟨o, ⟨n0 + n1 + 1, fun n hn m hm k hk => ?_⟩, h4⟩
    obtain ⟨k, rfl⟩ : ∃ k', k = k' + 1 := ⟨k - 1, by omega⟩
    simp only [loopN, h1 n (by omega) m (by omega)]
    exact h3 n (by omega) m (by omega) k (by omega)
   | .jump (l + 1) us', h1, h2 =>
    refine ⟨_, ⟨n0 + 1, fun n hn m hm k hk => ?_⟩, h2⟩
    obtain ⟨k, rfl⟩ : ∃ k', k = k' + 1 := ⟨k - 1, by omega⟩
    simp only [loopN, h1 n (by omega) m (by omega)]
   | .ret us', h1, h2 =>
    refine ⟨_, ⟨n0 + 1, fun n hn m hm k hk => ?_⟩, h2⟩
    obtain ⟨k, rfl⟩ : ∃ k', k = k' + 1 := ⟨k - 1, by omega⟩
    simp only [loopN, h1 n (by omega) m (by omega)]
   | .leaf _ _ _, h1, h2 => exact h2.elim
  obtain ⟨o, ⟨n0, h1⟩, h2⟩ := key
  exact ⟨o, ⟨n0, fun n hn m hm => by simp only [run]; exact h1 n hn m hm m hm⟩, h2⟩
theorem Mc.ends (M : Mc) {f : FuncId} {t : Tr} (hf : M.F f = some t) {ins outs : List AV} (h : M.wp t (envOf ins) (· = .ret outs)) : M.Ends f ins outs := by
 obtain ⟨o, ⟨n0, h1⟩, rfl⟩ := M.wp_ok t _ _ h
 refine ⟨n0 + 1, fun n hn => ?_⟩
 obtain ⟨k, rfl⟩ : ∃ k, n = k + 1 := ⟨n - 1, by omega⟩
 simp only [runF, hf, h1 k (by omega) k (by omega)]
def retQ (Q : List AV → Prop) : Out → Prop
 | .ret vs => Q vs
 | _ => False
theorem retQ_r {Q : List AV → Prop} {vs : List AV} : retQ Q (.ret vs) = Q vs := rfl
theorem retQ_j {Q : List AV → Prop} {l : Nat} {vs : List AV} : retQ Q (.jump l vs) = False := rfl
theorem Mc.c_of (M : Mc) {f : FuncId} {t : Tr} (hf : M.F f = some t) {ins : List AV} {Q : List AV → Prop} (h : M.wp t (envOf ins) (retQ Q)) : M.C f ins Q := by
 obtain ⟨o, h1, h2⟩ := M.wp_ok t _ _ h
 match o, h1, h2 with
 | .ret vs, ⟨n0, h1⟩, h2 =>
  refine ⟨vs, ⟨n0 + 1, fun n hn => ?_⟩, h2⟩
  obtain ⟨k, rfl⟩ : ∃ k, n = k + 1 := ⟨n - 1, by omega⟩
  simp only [runF, hf, h1 k (by omega) k (by omega)]
theorem Mc.ends_hand (M : Mc) {f : FuncId} (hf : M.F f = none) {ins outs : List AV} (h : M.H f ins = some outs) : M.Ends f ins outs := by
 refine ⟨1, fun n hn => ?_⟩
 obtain ⟨k, rfl⟩ : ∃ k, n = k + 1 := ⟨n - 1, by omega⟩
 simp only [runF, hf, h]
theorem Mc.Ends.fin {M : Mc} {f : FuncId} {ins outs : List AV} (h : M.Ends f ins outs) : ∃ n, runF M.F M.H n f ins = some outs := h.elim fun n0 h => ⟨n0, h n0 (Nat.le_refl _)⟩
theorem Mc.Ends.c {M : Mc} {f : FuncId} {ins outs : List AV} (h : M.Ends f ins outs) {Q : List AV → Prop} : M.C f ins Q = Q outs := by
 refine propext ⟨?_, fun hq => ⟨outs, h, hq⟩⟩
 rintro ⟨o, ⟨n1, h1⟩, h2⟩
 obtain ⟨n0, h0⟩ := h
 have e1 := h1 (n0 + n1) (by omega)
 rw [h0 (n0 + n1) (by omega)] at e1
 cases e1
 exact h2
theorem wrap_id {x : Int} (h1 : -9223372036854775808 ≤ x) (h2 : x ≤ 9223372036854775807) : IntKind.i64.wrap x = x := by rw [IntKind.wrap_i64]; omega
theorem cS {a b : Nat} : ((a + b : Nat) : Int) = (a : Int) + (b : Int) := rfl
theorem c1 : ((1 : Nat) : Int) = 1 := rfl
theorem c0 : ((0 : Nat) : Int) = 0 := rfl
theorem pN {n : Nat} : ((n : Int) - 1).toNat = n - 1 := by omega
theorem zI {k : IntKind} : (Ty.int k).z = (0 : Int) := rfl
theorem zP {a b : Ty} : (Ty.pr a b).z = (a.z, b.z) := rfl
theorem zB : Ty.bool.z = false := rfl
theorem zL {c : Bool} {t : Ty} : (Ty.sl c t).z = ([] : List t.D) := rfl
theorem sh1 {x : Int} {k : IntKind} (h : k.bits = 64) : shI false k x 1 = x / 2 := by
 unfold shI
 rw [h]
 exact Int.fdiv_eq_ediv_of_nonneg _ (by decide)
theorem sh1u {x : Int} : shI false .u64 x 1 = x / 2 := sh1 rfl
theorem wrap_u {x : Int} (h1 : 0 ≤ x) (h2 : x ≤ 9223372036854775807) : IntKind.u64.wrap x = x := by
 simp only [IntKind.wrap, IntKind.bits, IntKind.signed]
 simp
 omega
theorem ret_inj {a b : List AV} : (Out.ret a = Out.ret b) = (a = b) := propext ⟨fun h => by cases h; rfl, fun h => by rw [h]⟩
theorem av_inj {t : Ty} {x y : t.D} : ((⟨t, x⟩ : AV) = ⟨t, y⟩) = (x = y) := propext ⟨fun h => by cases h; rfl, fun h => by rw [h]⟩
theorem jmp_ret {l : Nat} {a b : List AV} : (Out.jump l a = Out.ret b) = False := eq_false fun h => nomatch h
theorem Sd {M : Mc} {r : Env} {Q : Out → Prop} :
  (M.wp .bad r Q = False) ∧ (∀ {c : E .bool} {a b : Tr}, M.wp (.ite c a b) r Q = ((den c r = true → M.wp a r Q) ∧ (¬ den c r = true → M.wp b r Q))) ∧
  (∀ {c : E .bool} {a : Tr}, M.wp (.guard c a) r Q = Gd (den c r = true) (M.wp a r Q)) ∧
  (∀ {f : FuncId} {ins : List AE} {b : Nat} {t : Tr}, M.wp (.call f ins b t) r Q = M.C f (ins.map (denA · r)) (M.K t r b Q)) ∧
  (∀ {l : Nat} {vs : List AE}, M.wp (.jump l vs) r Q = Q (.jump l (vs.map (denA · r)))) ∧ (∀ {vs : List AE}, M.wp (.ret vs) r Q = Q (.ret (vs.map (denA · r)))) ∧
  (∀ {init : List AE} {b : Tr}, M.wp (.loop init b) r Q = M.LP b (init.map (denA · r)) Q) := ⟨rfl, rfl, rfl, rfl, rfl, rfl, rfl⟩
theorem So {Q : Out → Prop} : (∀ {X : List AV → Prop} {us : List AV}, onJ X Q (.jump 0 us) = X us) ∧ (∀ {X : List AV → Prop} {us : List AV} {l : Nat}, onJ X Q (.jump (l + 1) us) = Q (.jump l us)) ∧ (∀ {X : List AV → Prop} {us : List AV}, onJ X Q (.ret us) = Q (.ret us)) :=
 ⟨rfl, rfl, rfl⟩
theorem Sk {M : Mc} {r : Env} {Q : Out → Prop} {t : Tr} {b : Nat} {vs : List AV} : M.K t r b Q vs = M.wp t (putN r b vs) Q := rfl
theorem Sa : (∀ {α β : Type} {f : α → β} {a : α} {l : List α}, (a :: l).map f = f a :: l.map f) ∧ (∀ {α β : Type} {f : α → β}, ([] : List α).map f = []) ∧ (∀ {t : Ty} {d : t.D}, AV.as t ⟨t, d⟩ = d) ∧
  (∀ {α : Type} {x d : α} {l : List α}, (x :: l).getD 0 d = x) ∧ (∀ {α : Type} {x d : α} {l : List α} {n : Nat}, (x :: l).getD (n + 1) d = l.getD n d) ∧
  (∀ {α : Type} {x : α} {l : List α}, (x :: l).length = l.length + 1) ∧ (∀ {α : Type}, ([] : List α).length = 0) ∧ (∀ {α : Type} {l m : List α}, (l ++ m).length = l.length + m.length) ∧
  (∀ {α : Type} {x y : α} {l m : List α}, (x :: l = y :: m) = (x = y ∧ l = m)) ∧
  (∀ {Q : List AV → Prop} {vs : List AV}, retQ Q (.ret vs) = Q vs) ∧ (∀ {Q : List AV → Prop} {l : Nat} {vs : List AV}, retQ Q (.jump l vs) = False) :=
 ⟨rfl, rfl, fun {t d} => AV.as_mk t d, rfl, rfl, rfl, rfl, List.length_append, by simp, rfl, rfl⟩
theorem Sb : (∀ {a b : List AV}, (Out.ret a = Out.ret b) = (a = b)) ∧ (∀ {t : Ty} {x y : t.D}, ((⟨t, x⟩ : AV) = ⟨t, y⟩) = (x = y)) ∧ (∀ {l : Nat} {a b : List AV}, (Out.jump l a = Out.ret b) = False) ∧
  (∀ {p : Prop} [Decidable p], (decide p = true) = p) ∧ (∀ {a b : Int}, ((a == b) = true) = (a = b)) ∧ (∀ {a b : Int}, ((a != b) = true) = ¬ a = b) ∧ (∀ {b : Bool}, ((!b) = true) = (b = false)) ∧ (∀ {p : Prop} [Decidable p], (decide p = false) = ¬ p) ∧
  (∀ {a b : Bool}, ((a == b) = true) = (a = b)) ∧ (∀ {a b : Bool}, ((a != b) = true) = ¬ a = b) :=
 ⟨ret_inj, av_inj, jmp_ret, by simp, by simp, by simp, by simp, by simp, by simp, by simp⟩
theorem Sc : (∀ {n : Nat}, ((n : Int)).toNat = n) ∧ ((0 : Int).toNat = 0) ∧ ((1 : Int).toNat = 1) ∧ (∀ {a b : Int}, a + b - b = a) ∧ (∀ {a b : Nat}, ((a + b : Nat) : Int) = (a : Int) + (b : Int)) ∧ (((1 : Nat) : Int) = 1) ∧ (((0 : Nat) : Int) = 0) ∧ (∀ {n : Nat}, ((n : Int) - 1).toNat = n - 1) ∧
  (∀ {k : IntKind}, (Ty.int k).z = (0 : Int)) ∧ (∀ {a b : Ty}, (Ty.pr a b).z = (a.z, b.z)) ∧ (Ty.bool.z = false) ∧ (∀ {c : Bool} {t : Ty}, (Ty.sl c t).z = ([] : List t.D)) ∧
  (∀ {x : Int}, -9223372036854775808 ≤ x → x ≤ 9223372036854775807 → IntKind.i64.wrap x = x) ∧ (∀ {x : Int}, 0 ≤ x → x ≤ 9223372036854775807 → IntKind.u64.wrap x = x) ∧ (∀ {x : Int}, shI false .u64 x 1 = x / 2) ∧
  (∀ {a b : Int}, 0 ≤ a → a.tdiv b = a / b) ∧ (∀ {a b : Int}, 0 ≤ a → a.tmod b = a % b) ∧ (∀ {A : Prop}, Gd True A = A) ∧ (∀ {c A : Prop}, c → Gd c A = A) :=
 ⟨Int.toNat_natCast _, rfl, rfl, by omega, rfl, rfl, rfl, pN, rfl, rfl, rfl, rfl, wrap_id, wrap_u, sh1u, Int.tdiv_eq_ediv_of_nonneg, Int.tmod_eq_emod_of_nonneg, Gd.tt, Gd.pos⟩
theorem Se : (∀ {a : Prop}, (a ∧ True) = a) ∧ (∀ {a : Prop}, (True ∧ a) = a) ∧ (∀ {a : Prop}, (a ∧ False) = False) ∧ (∀ {a : Prop}, (False ∧ a) = False) ∧
  (∀ {α : Type} {a' : α} {p : α → Prop}, (∃ a, a = a' ∧ p a) = p a') ∧ (∀ {α : Type} {a' : α} {p : α → Prop}, (∃ a, a' = a ∧ p a) = p a') ∧ (∀ {α : Type} [Nonempty α] {b : Prop}, (∃ _ : α, b) = b) ∧
  ((false = true) = False) ∧ ((true = false) = False) ∧ ((¬ True) = False) ∧ ((¬ False) = True) ∧ (∀ {p : Prop}, (False → p) = True) ∧ (∀ {p : Prop}, (p → True) = True) ∧ (∀ {p : Prop}, (True → p) = p) ∧
  (∀ {α : Type} {a b : α}, (if True then a else b) = a) ∧ (∀ {α : Type} {a b : α}, (if False then a else b) = b) ∧ (∀ {p : Prop}, (¬ ¬ p) = p) ∧ (∀ {α : Type} {a b : α}, (a ≠ b) = ¬ a = b) :=
 ⟨and_true _, true_and _, and_false _, false_and _, propext ⟨fun ⟨_, h, h2⟩ => h ▸ h2, fun h => ⟨_, rfl, h⟩⟩, propext ⟨fun ⟨_, h, h2⟩ => h ▸ h2, fun h => ⟨_, rfl, h⟩⟩, propext ⟨fun ⟨_, h⟩ => h, fun h => Nonempty.elim ‹_› fun x => ⟨x, h⟩⟩, by simp, by simp, by simp, by simp, by simp, by simp, by simp, by simp, by simp, propext Classical.not_not, rfl⟩
end Go.Sm
