/- A machine over symbols for loaded functions, and that it tells the truth; no condition. -/
import Derived.Test.YthapopegchnhlaaGreatSmLib1
import Derived.Laws.Slices
import Derived.Test.YthapopegchnhlaaGreatSmLib0
namespace Go.Sm
set_option linter.unusedVariables false
set_option linter.unusedSimpArgs false
section
variable {P : Program} {bd : Bd} {N : Nat → Prop} {s : St} {r : Env} {g : Nat → G} {st : List (Array Value)} {w : World} {a : Act}
theorem run_sliceAt' {t e : TypeId} {i : TypeInfo} (ht : P.underlying t = some (.slice e)) (hi : P.info? e = some i) {x : Option Addr} {n c : Nat} {lo hi' mx : Option Value} {l h m : Nat}
  (hl : lo = none ∧ l = 0 ∨ ∃ k, lo = some (.int k l)) (hh : hi' = none ∧ h = n ∧ mx = none ∨ ∃ k, hi' = some (.int k h)) (hm : mx = none ∧ m = c ∨ ∃ k, mx = some (.int k m)) (h1 : l ≤ h) (h2 : h ≤ m) (h3 : m ≤ c) :
  (Instr.sliceAt t (.slice x n c) lo hi' mx).run P w = .ok (.slice (if m = l then x else x.map (·.add (l * i.size))) (h - l) (m - l)) w := by
 have sb : ∀ (k : IntKind) (y z : Nat) (code : BoundsCode), y ≤ z → (Instr.sliceBound (.int k (y : Int)) z code).run P w = .ok y w := by
  intro k y z code hyz
  have := run_sliceBound (P := P) w k (y : Int) z code (by omega) (by omega)
  simpa using this
 have hb : (Instr.sliceBounds true n c lo hi' mx).run P w = .ok (l, h, m) w := by
  unfold Instr.sliceBounds
  rcases hm with ⟨rfl, rfl⟩ | ⟨km, rfl⟩
  ·rcases hh with ⟨rfl, rfl, _⟩ | ⟨kh, rfl⟩
   ·rcases hl with ⟨rfl, rfl⟩ | ⟨kl, rfl⟩
    ·simp
    ·simp [sb _ _ _ _ h1]
   ·rcases hl with ⟨rfl, rfl⟩ | ⟨kl, rfl⟩
    ·simp [sb _ _ _ _ h2]
    ·simp [sb _ _ _ _ h1, sb _ _ _ _ h2]
  ·rcases hh with ⟨rfl, rfl, hh⟩ | ⟨kh, rfl⟩
   ·cases hh
   ·rcases hl with ⟨rfl, rfl⟩ | ⟨kl, rfl⟩
    ·simp [sb _ _ _ _ h2, sb _ _ _ _ h3]
    ·simp [sb _ _ _ _ h1, sb _ _ _ _ h2, sb _ _ _ _ h3]
 unfold Instr.sliceAt
 rw [run_bind_ok (run_underlying' ht)]
 simp only []
 unfold Instr.slice
 rw [run_bind_ok (run_underlying' ht)]
 simp only []
 rw [run_bind_ok hb]
 simp only []
 rw [run_bind_ok (run_sizeOf' hi)]
 rfl
theorem optE_val (h : R bd N s r g a.tmps st w) {o : Option Operand} {l : Option (E (.int .i64))} (ho : optE s o = some l) : (o = none ∧ l = none) ∨ ∃ x n, o = some x ∧ l = some n ∧ a.eval x = .int .i64 (den n r) ∧ n.vs N := by
 unfold optE at ho
 split at ho
 ·cases ho; exact .inl ⟨rfl, rfl⟩
 ·rename_i x
  split at ho
  ·rename_i n hx
   cases ho
   obtain ⟨hv, hn⟩ := get_a h hx
   exact .inr ⟨x, n, rfl, rfl, int_of hv, hn⟩
  ·cases ho
theorem cut_facts {t : Ty} {e : E (.sl false t)} {lo hi : Option (E (.int .i64))} (hg : ∀ c ∈ cutG e lo hi, den c r = true) :
  ∃ l h : Nat, l ≤ h ∧ h ≤ (den e r : List t.D).length ∧ (den (cutE e lo hi) r : List t.D) = ((den e r : List t.D).take h).drop l ∧ (lo = none ∧ l = 0 ∨ ∃ x, lo = some x ∧ (den x r : Int) = l) ∧ (hi = none ∧ h = (den e r : List t.D).length ∨ ∃ x, hi = some x ∧ (den x r : Int) = h) := by
 cases hi with
 | none =>
  cases lo with
  | none => exact ⟨0, _, Nat.zero_le _, Nat.le_refl _, by simp [cutE], .inl ⟨rfl, rfl⟩, .inl ⟨rfl, rfl⟩⟩
  | some n =>
   have g0 : (0 : Int) ≤ den n r := gLe_iff.1 (hg (gLe (eI .i64 0) n) (by simp [cutG]))
   have g1 : (den n r : Int) ≤ ((den e r : List t.D).length : Int) := gLe_iff.1 (hg (gLe n (.o1 (.len false t) e)) (by simp [cutG]))
   obtain ⟨k, hk⟩ : ∃ k : Nat, (den n r : Int) = k := ⟨Int.toNat (den n r), (Int.toNat_of_nonneg g0).symm⟩
   rw [hk] at g1
   refine ⟨k, _, Int.ofNat_le.1 g1, Nat.le_refl _, ?_, .inr ⟨n, rfl, hk⟩, .inl ⟨rfl, rfl⟩⟩
   show List.drop (Int.toNat (den n r)) (den e r : List t.D) = _
   rw [hk, List.take_length]; rfl
 | some h =>
  have g2 : (den h r : Int) ≤ ((den e r : List t.D).length : Int) := gLe_iff.1 (hg (gLe h (.o1 (.len false t) e)) (by simp [cutG]))
  cases lo with
  | none =>
   have g0 : (0 : Int) ≤ den h r := gLe_iff.1 (hg (gLe (eI .i64 0) h) (by simp [cutG]))
   obtain ⟨k, hk⟩ : ∃ k : Nat, (den h r : Int) = k := ⟨Int.toNat (den h r), (Int.toNat_of_nonneg g0).symm⟩
   rw [hk] at g2
   refine ⟨0, k, Nat.zero_le _, Int.ofNat_le.1 g2, ?_, .inl ⟨rfl, rfl⟩, .inr ⟨h, rfl, hk⟩⟩
   show List.take (Int.toNat (den h r)) (den e r : List t.D) = _
   rw [hk]; rfl
  | some n =>
   have g0 : (0 : Int) ≤ den n r := gLe_iff.1 (hg (gLe (eI .i64 0) n) (by simp [cutG]))
   have g1 : (den n r : Int) ≤ den h r := gLe_iff.1 (hg (gLe n h) (by simp [cutG]))
   obtain ⟨k, hk⟩ : ∃ k : Nat, (den h r : Int) = k := ⟨Int.toNat (den h r), (Int.toNat_of_nonneg (Int.le_trans g0 g1)).symm⟩
   obtain ⟨k', hk'⟩ : ∃ k : Nat, (den n r : Int) = k := ⟨Int.toNat (den n r), (Int.toNat_of_nonneg g0).symm⟩
   rw [hk] at g2 g1
   rw [hk'] at g1
   refine ⟨k', k, Int.ofNat_le.1 g1, Int.ofNat_le.1 g2, ?_, .inr ⟨n, rfl, hk'⟩, .inr ⟨h, rfl, hk⟩⟩
   show List.drop (Int.toNat (den n r)) (List.take (Int.toNat (den h r)) (den e r : List t.D)) = _
   rw [hk, hk']; rfl
theorem cutE_vs {t : Ty} {e : E (.sl false t)} {lo hi : Option (E (.int .i64))} (he : e.vs N) (hl : ∀ n, lo = some n → n.vs N) (hh : ∀ n, hi = some n → n.vs N) : (cutE e lo hi).vs N := by
 unfold cutE
 cases lo with
 | none =>
  cases hi with
  | none => exact he
  | some h => exact ⟨he, hh h rfl⟩
 | some n =>
  cases hi with
  | none => exact ⟨he, hl n rfl⟩
  | some h => exact ⟨⟨he, hh h rfl⟩, hl n rfl⟩
theorem OwnV.cut {x : Option Addr} {n c : Nat} {o : Option Nat} {sz : Nat} {xs : List Value} (hv : OwnV w (.slice x n c) o sz n xs) {l h : Nat} (h1 : l ≤ h) (h2 : h ≤ n) :
  ∃ o', (o' = none ∨ o' = o) ∧ OwnV w (.slice (if c = l then x else x.map (·.add (l * sz))) (h - l) (c - l)) o' sz (h - l) ((xs.take (h * sz)).drop (l * sz)) := by
 have hlen : ((xs.take (h * sz)).drop (l * sz)).length = (h - l) * sz := by
  have := Nat.mul_le_mul_right sz h2
  rw [List.length_drop, List.length_take, hv.1, Nat.min_eq_left this, Nat.sub_mul]
 rcases hv.2 with ⟨x', e1, e2, e3⟩ | ⟨b, off, cap, cur, ety, a1, a2, a3, a4, a5, a6, a7⟩
 ·simp only [Value.slice.injEq] at e1
  obtain ⟨rfl, rfl, rfl⟩ := e1
  have : l = 0 := by omega
  have : h = 0 := by omega
  subst_vars
  exact ⟨none, .inl rfl, hlen, .inl ⟨x, by simp, by simp, rfl⟩⟩
 ·simp only [Value.slice.injEq] at a2
  obtain ⟨rfl, _, rfl⟩ := a2
  by_cases hc : c = l
  ·have : h = l := by omega
   subst this
   refine ⟨none, .inl rfl, hlen, .inl ⟨some ⟨b, off, none⟩, ?_, by omega, rfl⟩⟩
   rw [if_pos hc]
   simp [hc]
  ·have hm := Nat.mul_le_mul_right sz (show l ≤ c by omega)
   refine ⟨o, .inr rfl, hlen, .inr ⟨b, off + l * sz, c - l, cur, ety, a1, ?_, a3, by omega, by omega, ?_, ?_⟩⟩
   ·rw [if_neg hc]
    simp only [Option.map_some]
    rw [add_eq rfl]
   ·rw [Nat.sub_mul]; omega
   ·rw [← a7, List.take_take, Nat.min_eq_left (Nat.mul_le_mul_right sz h2), List.drop_take, List.drop_drop, Nat.sub_mul]
theorem Rep.cut {M : Nat → Prop} {t : Ty} {c0 : Bool} {ds : List t.D} {x : Option Addr} {n c : Nat} (h : Rep w M (.sl c0 t) ds [.slice x n c]) {l k m : Nat} (h1 : l ≤ k) (h2 : k ≤ ds.length) (h3 : k ≤ m) (h4 : m ≤ c) :
  Rep w M (.sl false t) ((ds.take k).drop l) [.slice (if m = l then x else x.map (·.add (l * t.size))) (k - l) (m - l)] := by
 obtain ⟨x', c', e1, e2, e3, e4, e5⟩ := h
 simp only [List.cons.injEq, Value.slice.injEq, and_true] at e1
 obtain ⟨rfl, rfl, rfl⟩ := e1
 have hlen : ((ds.take k).drop l).length = k - l := by rw [List.length_drop, List.length_take, Nat.min_eq_left h2]
 refine ⟨_, m - l, by rw [hlen], by rw [hlen]; omega, by simp, ?_, ?_⟩
 ·intro hx
  split at hx
  ·omega
  ·simp only [Option.map_eq_none_iff] at hx
   have := e4 hx; omega
 ·intro p hp hne
  have hpos : 0 < k - l := by rw [← hlen]; exact List.length_pos_iff.2 hne
  have hds : ds ≠ [] := by intro hh; rw [hh] at hne; simp at hne
  rw [if_neg (by omega)] at hp
  obtain ⟨q, hq, rfl⟩ := Option.map_eq_some_iff.1 hp
  obtain ⟨f1, f2, f3⟩ := e5 q hq hds
  rw [add_eq f1]
  refine ⟨rfl, f2, fun i hi => ?_⟩
  rw [hlen] at hi
  obtain ⟨us, a1, a2, a3⟩ := f3 (l + i) (by omega)
  refine ⟨us, a1, fun j u hu => ?_, by simpa using a3⟩
  have := a2 j u hu
  rw [Nat.add_mul] at this
  have e : q.off + l * t.size + (i * t.size + j) = q.off + (l * t.size + i * t.size + j) := by omega
  show cell w q.block (q.off + l * t.size + (i * t.size + j)) = some u
  rw [e]
  exact this
theorem sub_flatten {l1 l2 : List (List Nat)} (h : l1.Sublist l2) : l1.flatten.Sublist l2.flatten := by
 induction h with
 | slnil => exact List.Sublist.refl _
 | cons a _ ih => rw [List.flatten_cons]; exact ih.trans (List.sublist_append_right _ _)
 | cons_cons a _ ih => rw [List.flatten_cons, List.flatten_cons]; exact List.Sublist.append (List.Sublist.refl _) ih
theorem opt_lo (h : R bd N s r g a.tmps st w) {o : Option Operand} {l : Option (E (.int .i64))} (ho : optE s o = some l) {k : Nat} (hk : l = none ∧ k = 0 ∨ ∃ x, l = some x ∧ (den x r : Int) = k) : o.map a.eval = none ∧ k = 0 ∨ ∃ kk, o.map a.eval = some (.int kk k) := by
 rcases optE_val h ho with ⟨rfl, rfl⟩ | ⟨x, n, rfl, rfl, hv, _⟩
 ·rcases hk with ⟨_, hk⟩ | ⟨x, hx, _⟩
  ·exact .inl ⟨rfl, hk⟩
  ·cases hx
 ·rcases hk with ⟨hx, _⟩ | ⟨x', hx, hk⟩
  ·cases hx
  ·cases hx
   refine .inr ⟨.i64, ?_⟩
   simp only [Option.map_some]
   rw [hv, hk]
theorem opt_none (h : R bd N s r g a.tmps st w) {o : Option Operand} (ho : optE s o = some none) : o = none := by
 rcases optE_val h ho with ⟨rfl, _⟩ | ⟨x, n, _, hh, _⟩
 ·rfl
 ·cases hh
theorem opt_some (h : R bd N s r g a.tmps st w) {o : Option Operand} {x : E (.int .i64)} (ho : optE s o = some (some x)) : o.map a.eval = some (.int .i64 (den x r)) ∧ x.vs N := by
 rcases optE_val h ho with ⟨_, hh⟩ | ⟨y, n, rfl, hh, hv, hn⟩
 ·cases hh
 ·cases hh
  simp only [Option.map_some]
  exact ⟨by rw [hv], hn⟩
theorem opt_vs (h : R bd N s r g a.tmps st w) {o : Option Operand} {l : Option (E (.int .i64))} (ho : optE s o = some l) : ∀ n, l = some n → n.vs N := by
 intro n hn
 subst hn
 exact (opt_some h ho).2
set_option maxHeartbeats 1000000 in
theorem good_slice (h0 : R bd N s r g a.tmps st w) {frz : Bool} {id : Nat} {t : TypeId} {x : Operand} {lo hi mx : Option Operand} (o : Oper) (ho : o.op = .slice t x lo hi mx) {gs : List (E .bool)} {sv : SV} {s' : St}
  (hs : symSlice P frz s id t x lo hi mx = some (gs, sv, s')) (hg : ∀ c ∈ gs, den c r = true) : Good P bd N r st (execOp a.eval o) a.tmps w sv s' := by
 unfold symSlice at hs
 split at hs
 case h_2 => cases hs
 rename_i e ht
 split at hs
 case h_2 => cases hs
 rename_i i hi'
 have h : R bd N (if frz = true then s.solid x else s) r g a.tmps st w := by
  split
  ·exact h0.solid x
  ·exact h0
 generalize (if frz = true then s.solid x else s) = s1 at hs h
 clear h0
 unfold sliceTo at hs
 split at hs
 case h_2 => cases hs
 rename_i l hh m hlo hhi hmx
 have run : ∀ (xv : Option Addr) (n c kl kh km : Nat), a.eval x = .slice xv n c → (lo.map a.eval = none ∧ kl = 0 ∨ ∃ k, lo.map a.eval = some (.int k kl)) → (hi.map a.eval = none ∧ kh = n ∧ mx.map a.eval = none ∨ ∃ k, hi.map a.eval = some (.int k kh)) →
   (mx.map a.eval = none ∧ km = c ∨ ∃ k, mx.map a.eval = some (.int k km)) → kl ≤ kh → kh ≤ km → km ≤ c → (execOp a.eval o).run P w = .ok (.value (.slice (if km = kl then xv else xv.map (·.add (kl * i.size))) (kh - kl) (km - kl))) w := by
  intro xv n c kl kh km hx h1 h2 h3 h4 h5 h6
  simp only [execOp, ho, hx]
  exact run_v (run_sliceAt' ht hi' h1 h2 h3 h4 h5 h6)
 split at hs
 ·-- a row of the call's own
  rename_i rr hx
  obtain ⟨hxv, hxn⟩ := get_a h hx
  simp only [ARep] at hxv
  split at hs
  case h_2 => cases hs
  rename_i dp ty el hid
  split at hs
  case isFalse => cases hs
  rename_i hsz
  obtain ⟨ov, xs, Fs, b1, b2, b3⟩ := OwnA_iff.1 (h.heap rr _ hid)
  rw [← hxv] at b1
  obtain ⟨xa, c, hxe, hle, hz1, hz2⟩ := b1.shape
  split at hs
  ·-- it goes over to what is cut
   split at hs
   case isFalse => cases hs
   rename_i hf
   simp only [Option.some.injEq, Prod.mk.injEq] at hs
   obtain ⟨rfl, rfl, rfl⟩ := hs
   obtain ⟨kl, kh, f1, f2, f3, f4, f5⟩ := cut_facts hg
   have hmxn := opt_none h hmx
   subst hmxn
   have hrun := run xa _ c kl kh c hxe (opt_lo h hlo f4) (by
    rcases f5 with ⟨rfl, hk⟩ | ⟨y, rfl, hk⟩
    ·have := opt_none h hhi; subst this; exact .inl ⟨rfl, hk, rfl⟩
    ·have := (opt_some h hhi).1; rw [hk] at this; exact .inr ⟨_, this⟩) (.inl ⟨rfl, rfl⟩) f1 (by omega) (Nat.le_refl _)
   rw [hxe] at b1
   obtain ⟨o', ho', hown⟩ := b1.cut f1 f2
   obtain ⟨hfid, hnp⟩ := free_eq hf
   have hrows := (b3.take kh).drop kl
   have hlen : (((den el r : List ty.D).take kh).drop kl).length = kh - kl := by rw [List.length_drop, List.length_take, Nat.min_eq_left f2]
   have hnd := h.nodup rr _ hid
   rw [b2] at hnd
   obtain ⟨n1, n2, n3⟩ := List.nodup_append.1 hnd
   have hsub : (((Fs.take kh).drop kl).flatten).Sublist Fs.flatten := sub_flatten ((List.drop_sublist _ _).trans (List.take_sublist _ _))
   have hosub : ∀ b ∈ o'.toList, b ∈ ov.toList := by
    intro b hb
    rcases ho' with rfl | rfl
    ·simp at hb
    ·exact hb
   have hmade := h.made (w' := w) [rr] id (.arr dp ty (cutE el l hh)) ⟨0, .slice (if c = kl then xa else xa.map (·.add (kl * ty.size))) (kh - kl) (c - kl), o'.toList ++ ((Fs.take kh).drop kl).flatten⟩ hfid hnp (by simp [hid]) (fun _ _ _ => rfl) ?_
    (cutE_vs (h.nheap rr _ hid) (opt_vs h hlo) (opt_vs h hhi)) ?_ ?_ (Nat.le_refl _) rfl rfl rfl
   ·rw [hsz] at hrun
    exact ⟨_, w, _, .inl hrun, hmade, by simp [SRep, ARep], by simp [SV.all, Atom.ok, St.new, upd]⟩
   ·intro M' hk _ _ _
    refine OwnA_iff.2 ⟨o', (xs.take (kh * ty.size)).drop (kl * ty.size), (Fs.take kh).drop kl, ?_, by simp, ?_⟩
    ·simp only [if_true]
     rw [f3, hlen]
     exact hown
    ·rw [f3]
     exact hrows.keep hk fun _ _ => rfl
   ·refine foot_nodup ?_ (n2.sublist hsub) fun b hb hb' => n3 b (hosub b hb) b (hsub.subset hb') rfl
    cases o' <;> simp
   ·intro b hb
    refine .inr ⟨rr, _, by simp, hid, ?_⟩
    rw [b2]
    rcases List.mem_append.1 hb with hb | hb
    ·exact List.mem_append_left _ (hosub b hb)
    ·exact List.mem_append_right _ (hsub.subset hb)
  ·-- nothing of it, to its length
   rename_i m' h'
   simp only [Option.some.injEq, Prod.mk.injEq] at hs
   obtain ⟨rfl, rfl, rfl⟩ := hs
   obtain ⟨kl, kh, f1, f2, f3, f4, f5⟩ := cut_facts (fun c hc => hg c (List.mem_cons_of_mem _ (List.mem_cons_of_mem _ hc)))
   have q1 := hg (.o2 (.cm .eql .i64 .i64) h' m') (by simp)
   have q2 := hg (.o2 (.cm .eql .i64 .i64) h' (eI .i64 0)) (by simp)
   simp only [den, O2.d, cmI, beq_iff_eq, eI] at q1 q2
   have hk0 : (den h' r : Int) = kh := by
    rcases f5 with ⟨hh, _⟩ | ⟨y, hy, hk⟩
    ·cases hh
    ·cases hy; exact hk
   have hkh : kh = 0 := by
    have : (kh : Int) = 0 := hk0.symm.trans q2
    exact Int.ofNat_eq_zero.1 this
   subst hkh
   have hkl : kl = 0 := by omega
   subst hkl
   have hm0 : (den m' r : Int) = ((0 : Nat) : Int) := q1.symm.trans hk0
   obtain ⟨hv1, hn1⟩ := opt_some h hhi
   obtain ⟨hv2, hn2⟩ := opt_some h hmx
   have hrun := run xa _ c 0 0 0 hxe (opt_lo h hlo f4) (.inr ⟨.i64, by rw [hv1, hk0]⟩) (.inr ⟨.i64, by rw [hv2, hm0]⟩) (Nat.le_refl _) (Nat.le_refl _) (Nat.zero_le _)
   simp only [if_true, Nat.sub_self] at hrun
   have hd0 : (den (cutE el l (some h')) r : List ty.D) = [] := by rw [f3]; simp
   refine Good.look h hrun ⟨?_, xa, ?_⟩ (cutE_vs (h.nheap rr _ hid) (opt_vs h hlo) (fun n hn => by cases hn; exact hn1))
   ·rw [hd0]
    exact ⟨xa, 0, rfl, Nat.le_refl _, by simp, fun _ => rfl, fun p _ hne => (hne rfl).elim⟩
   ·rw [hd0]; rfl
  ·cases hs
 ·-- what is read
  rename_i cc ty el hx
  obtain ⟨hxv, hxn⟩ := get_a h hx
  split at hs
  case isFalse => cases hs
  rename_i hsz
  have hxv' := hxv
  obtain ⟨xa, c, hxe, hle, _⟩ := hxv'
  simp only [List.cons.injEq, and_true] at hxe
  simp only [ARep] at hxv
  rw [hxe] at hxv
  split at hs
  ·simp only [Option.some.injEq, Prod.mk.injEq] at hs
   obtain ⟨rfl, rfl, rfl⟩ := hs
   obtain ⟨kl, kh, f1, f2, f3, f4, f5⟩ := cut_facts hg
   have f2' : kh ≤ (den el r : List ty.D).length := f2
   have hmxn := opt_none h hmx
   subst hmxn
   have hrun := run xa _ c kl kh c hxe (opt_lo h hlo f4) (by
    rcases f5 with ⟨rfl, hk⟩ | ⟨y, rfl, hk⟩
    ·have := opt_none h hhi; subst this; exact .inl ⟨rfl, hk, rfl⟩
    ·have := (opt_some h hhi).1; rw [hk] at this; exact .inr ⟨_, this⟩) (.inl ⟨rfl, rfl⟩) f1 (by omega) (Nat.le_refl _)
   rw [hsz] at hrun
   refine Good.look h hrun ?_ (cutE_vs hxn (opt_vs h hlo) (opt_vs h hhi))
   show Rep w _ _ _ _
   rw [f3]
   exact Rep.cut hxv f1 f2' (by omega) (Nat.le_refl _)
  ·rename_i m' h'
   simp only [Option.some.injEq, Prod.mk.injEq] at hs
   obtain ⟨rfl, rfl, rfl⟩ := hs
   obtain ⟨kl, kh, f1, f2, f3, f4, f5⟩ := cut_facts (fun c hc => hg c (List.mem_cons_of_mem _ hc))
   have f2' : kh ≤ (den el r : List ty.D).length := f2
   have q1 := hg (.o2 (.cm .eql .i64 .i64) h' m') (by simp)
   simp only [den, O2.d, cmI, beq_iff_eq] at q1
   have hk0 : (den h' r : Int) = kh := by
    rcases f5 with ⟨hh, _⟩ | ⟨y, hy, hk⟩
    ·cases hh
    ·cases hy; exact hk
   have hm0 : (den m' r : Int) = (kh : Int) := q1.symm.trans hk0
   obtain ⟨hv1, hn1⟩ := opt_some h hhi
   obtain ⟨hv2, hn2⟩ := opt_some h hmx
   have hrun := run xa _ c kl kh kh hxe (opt_lo h hlo f4) (.inr ⟨.i64, by rw [hv1, hk0]⟩) (.inr ⟨.i64, by rw [hv2, hm0]⟩) f1 (Nat.le_refl _) (by omega)
   rw [hsz] at hrun
   have hlen : (((den el r : List ty.D).take kh).drop kl).length = kh - kl := by rw [List.length_drop, List.length_take, Nat.min_eq_left f2']
   have f3' : (den (cutE (.o1 (.re cc false ty) el) l (some h')) r : List ty.D) = ((den el r : List ty.D).take kh).drop kl := f3
   refine Good.look h hrun ⟨?_, (if kh = kl then xa else xa.map (·.add (kl * ty.size))), ?_⟩ (cutE_vs hxn (opt_vs h hlo) (fun n hn => by cases hn; exact hn1))
   ·rw [f3']
    exact Rep.cut hxv f1 f2' (Nat.le_refl _) (by omega)
   ·rw [f3', hlen]
  ·cases hs
 ·cases hs
theorem good_view (h : R bd N s r g a.tmps st w) (o : Oper) {gs : List (E .bool)} {sv : SV} {s' : St} (hs : symView P s o.op = some (gs, sv, s')) (hg : ∀ c ∈ gs, den c r = true) : Good P bd N r st (execOp a.eval o) a.tmps w sv s' := by
 unfold symView at hs
 split at hs
 case h_2 => cases hs
 rename_i t x lo hi ho
 split at hs
 case h_2 => cases hs
 rename_i e ht
 split at hs
 case h_2 => cases hs
 rename_i i rr hi' hx
 split at hs
 case h_2 => cases hs
 rename_i l hh ty el hlo hhi hid
 split at hs
 case isFalse => cases hs
 rename_i hsz
 simp only [Option.some.injEq, Prod.mk.injEq] at hs
 obtain ⟨rfl, rfl, rfl⟩ := hs
 obtain ⟨hxv, hxn⟩ := get_a h hx
 simp only [ARep] at hxv
 obtain ⟨ov, xs, Fs, b1, b2, b3⟩ := OwnA_iff.1 (h.heap rr _ hid)
 rw [← hxv] at b1
 obtain ⟨xa, c, hxe, hle, hz1, hz2⟩ := b1.shape
 obtain ⟨kl, kh, f1, f2, f3, f4, f5⟩ := cut_facts hg
 have hrun : (execOp a.eval o).run P w = .ok (.value (.slice (if c = kl then xa else xa.map (·.add (kl * i.size))) (kh - kl) (c - kl))) w := by
  simp only [execOp, ho, hxe]
  refine run_v (run_sliceAt' ht hi' (opt_lo h hlo f4) ?_ (.inl ⟨rfl, rfl⟩) f1 (by omega) (Nat.le_refl _))
  rcases f5 with ⟨rfl, hk⟩ | ⟨y, rfl, hk⟩
  ·have := opt_none h hhi; subst this; exact .inl ⟨rfl, hk, rfl⟩
  ·have := (opt_some h hhi).1; rw [hk] at this; exact .inr ⟨_, this⟩
 rw [hsz] at hrun
 have hlv : E.vs N (l.getD (eI .i64 0)) := by
  cases l with
  | none => exact trivial
  | some n => exact opt_vs h hlo n rfl
 have hhv : E.vs N (hh.getD (lenI el)) := by
  cases hh with
  | none => exact h.nheap rr _ hid
  | some n => exact opt_vs h hhi n rfl
 refine Good.look h hrun ?_ ⟨⟨hlv, hhv⟩, by simp [hid]⟩
 refine ⟨xa, _, c, kl, kh, by rw [← hxv]; exact hxe, f1, f2, ?_, ?_, rfl⟩
 ·rcases f4 with ⟨rfl, hk⟩ | ⟨y, rfl, hk⟩
  ·subst hk; rfl
  ·exact hk
 ·rcases f5 with ⟨rfl, hk⟩ | ⟨y, rfl, hk⟩
  ·rw [hk]; rfl
  ·exact hk
end
end Go.Sm
namespace Go.Sm
set_option linter.unusedVariables false
set_option linter.unusedSimpArgs false
section
variable {P : Program} {bd : Bd} {N : Nat → Prop} {s : St} {r : Env} {g : Nat → G} {st : List (Array Value)} {w : World} {a : Act}
theorem mapM_get {α β : Type} {f : α → Option β} : ∀ {l : List α} {m : List β}, l.mapM f = some m → ∀ (i : Nat) x, l[i]? = some x → ∃ y, f x = some y ∧ m[i]? = some y
 | [], m, h, i, x, hx => by simp at hx
 | b :: l, m, h, i, x, hx => by
  simp only [List.mapM_cons, Option.bind_eq_bind, Option.pure_def, Option.bind_eq_some_iff] at h
  obtain ⟨y, h1, ys, h2, h3⟩ := h
  cases h3
  cases i with
  | zero => simp at hx; subst hx; exact ⟨y, h1, rfl⟩
  | succ i => simpa using mapM_get h2 i x (by simpa using hx)
theorem mapM_some {α β : Type} {f : α → Option β} : ∀ {l : List α}, (∀ x ∈ l, (f x).isSome = true) → ∃ m, l.mapM f = some m
 | [], _ => ⟨[], rfl⟩
 | b :: l, h => by
  obtain ⟨y, hy⟩ := Option.isSome_iff_exists.1 (h b (List.mem_cons_self ..))
  obtain ⟨m, hm⟩ := mapM_some (l := l) fun x hx => h x (List.mem_cons_of_mem _ hx)
  exact ⟨y :: m, by simp [List.mapM_cons, hy, hm]⟩
theorem fill_set {off : Nat} {v : Value} {cells : Array Value} (h : off + v.cells.size ≤ cells.size) : (v.cells.zipIdx.foldl (fun cs (x : Value × Nat) => cs.setIfInBounds (off + x.2) x.1) cells).toList = splice cells.toList off v.cells.toList := by
 rw [← Array.foldl_toList, Array.toList_zipIdx]
 obtain ⟨h1, h2⟩ := Great.foldl_set off v.cells.toList 0 cells
 have hl : v.cells.toList.length = v.cells.size := Array.length_toList ..
 have hc : cells.toList.length = cells.size := Array.length_toList ..
 apply List.ext_getElem?
 intro k
 rw [Array.getElem?_toList, h2 k, splice_get (by omega), Nat.add_zero]
 by_cases q1 : k < off
 ·rw [if_neg (by omega), if_pos q1, Array.getElem?_toList]
 ·rw [if_neg q1]
  by_cases q2 : k < off + v.cells.toList.length
  ·rw [if_pos ⟨by omega, q2, by omega⟩, if_pos q2]
  ·rw [if_neg (by omega), if_neg q2, Array.getElem?_toList]
theorem buildL_rep (h : R bd N s r g a.tmps st w) {fs : Array Field} {places : List (Nat × Nat)} (hp : fs.toList.mapM (fun f => (P.info? f.type).map fun i => (f.offset, i.size)) = some places) :
  ∀ {ps : List (Nat × Operand)} {l l' : List Atom} {cells : Array Value}, buildL P fs s ps l = some l' → AReps w (Mt bd.Z s.heap g) g r l cells.toList → (∀ b ∈ l, b.ok N s.heap) →
   ∃ cells', Instr.fill (places.toArray[·]?) cells (ps.map fun p => (p.1, a.eval p.2)) = some cells' ∧ AReps w (Mt bd.Z s.heap g) g r l' cells'.toList ∧ ∀ b ∈ l', b.ok N s.heap
 | [], l, l', cells, hb, hl, hn => by
  simp only [buildL, Option.some.injEq] at hb
  subst hb
  exact ⟨cells, rfl, hl, hn⟩
 | (i, x) :: ps, l, l', cells, hb, hl, hn => by
  simp only [buildL] at hb
  split at hb
  case h_2 => cases hb
  rename_i f hf
  split at hb
  ·cases hb
  ·rename_i v inf hinf hnt
   split at hb
   case isFalse => cases hb
   rename_i hc
   obtain ⟨c1, c2, c3⟩ := hc
   obtain ⟨hv, hvn⟩ := get_rep h x
   have hcells := cells_rep h hv hvn c2
   have hlen := hcells.length
   have hll := hl.length
   have hcs : cells.toList.length = cells.size := Array.length_toList ..
   have hvs : (a.eval x).cells.toList.length = (a.eval x).cells.size := Array.length_toList ..
   obtain ⟨y, hy1, hy2⟩ := mapM_get hp i f (by simpa using hf)
   rw [hinf] at hy1
   simp only [Option.map_some, Option.some.injEq] at hy1
   subst hy1
   have hfit : f.offset + (a.eval x).cells.size ≤ cells.size := by omega
   have hset := fill_set hfit
   obtain ⟨cells', e1, e2, e3⟩ := buildL_rep h hp (ps := ps) (cells := (a.eval x).cells.zipIdx.foldl (fun cs (x : Value × Nat) => cs.setIfInBounds (f.offset + x.2) x.1) cells) hb (by
    rw [hset]
    have := take_drop_cells (j := f.offset) hl hcells
    exact this) (by
    intro b hb
    simp only [List.mem_append] at hb
    rcases hb with (hb | hb) | hb
    ·exact hn b (List.mem_of_mem_take hb)
    ·exact SV.cells_all hvn b hb
    ·exact hn b (List.mem_of_mem_drop hb))
   refine ⟨cells', ?_, e2, e3⟩
   simp only [List.map_cons]
   unfold Instr.fill
   have hpl : places.toArray[i]? = some (f.offset, inf.size) := by simpa using hy2
   simp only [hpl]
   have hsz : (a.eval x).cells.size = inf.size := by omega
   rw [if_neg (by simp [hsz]; omega)]
   exact e1
  ·cases hb
theorem good_build (h : R bd N s r g a.tmps st w) {t : TypeId} {parts : Array (Nat × Operand)} (o : Oper) (ho : o.op = .build t parts) {gs : List (E .bool)} {sv : SV} {s' : St} (hs : symBuild P s t parts.toList = some (gs, sv, s')) :
  GoodP P bd N r st false (execOp a.eval o) a.tmps w sv s' := by
 unfold symBuild at hs
 split at hs
 case h_2 => cases hs
 rename_i fs i ht hi
 split at hs
 case h_2 => cases hs
 rename_i z hz
 split at hs
 case isFalse => cases hs
 rename_i hall
 obtain ⟨l, hl, h1⟩ := Option.map_eq_some_iff.1 hs
 simp only [Prod.mk.injEq] at h1
 obtain ⟨rfl, rfl, rfl⟩ := h1
 obtain ⟨places, hp⟩ := mapM_some (l := fs.toList) (f := fun f => (P.info? f.type).map fun i => (f.offset, i.size)) fun f hf => by
  rw [List.all_eq_true] at hall
  have := hall f hf
  simpa using this
 obtain ⟨cells, e1, e2, e3⟩ := buildL_rep h hp hl (AReps_lits z.toList) (fun b hb => by obtain ⟨v, _, rfl⟩ := List.mem_map.1 hb; exact atomLit_ok v)
 have hbuilt : P.built t (parts.map fun (i, x) => (i, a.eval x)).toList = some cells := by
  have hpa : (parts.map fun (i, x) => (i, a.eval x)).toList = parts.toList.map fun p => (p.1, a.eval p.2) := by simp
  rw [hpa]
  unfold Program.built
  simp only [ht, hi, hz, hp]
  exact e1
 refine GoodP.look h (v := .agg cells) ?_ ⟨cells, rfl, e2⟩ e3
 intro w2 _
 simp only [execOp, ho]
 exact run_v (run_build w2 t _ cells hbuilt)
theorem good_nilCheck (h : R bd N s r g a.tmps st w) {x : Operand} (o : Oper) (ho : o.op = .nilCheck x) {gs : List (E .bool)} {sv : SV} {s' : St} (hs : symOp P false s 0 (.nilCheck x) = some (gs, sv, s')) :
  GoodP P bd N r st false (execOp a.eval o) a.tmps w sv s' := by
 simp only [symOp] at hs
 have run : ∀ p, a.eval x = .pointer (some p) → ∀ w2, (execOp a.eval o).run P w2 = .ok (.value (a.eval x)) w2 := by
  intro p hp w2
  simp only [execOp, ho, hp]
  rfl
 split at hs
 ·rename_i i j hx
  obtain ⟨-, rfl, rfl⟩ := one_eq hs
  obtain ⟨hv, hn⟩ := get_a h hx
  exact GoodP.look h (fun w2 _ => run _ hv w2) hv hn
 ·rename_i i t k ix j hx
  obtain ⟨-, rfl, rfl⟩ := one_eq hs
  obtain ⟨hv, hn⟩ := get_a h hx
  have hv' := hv
  obtain ⟨_, _, _, _, _, _, _, h5⟩ := hv'
  exact GoodP.look h (fun w2 _ => run _ h5 w2) hv hn
 ·rename_i c t l k ix j hx
  obtain ⟨-, rfl, rfl⟩ := one_eq hs
  obtain ⟨hv, hn⟩ := get_a h hx
  have hv' := hv
  obtain ⟨_, _, _, _, _, _, _, h5⟩ := hv'
  exact GoodP.look h (fun w2 _ => run _ h5 w2) hv hn
 ·cases hs
theorem good_index (h : R bd N s r g a.tmps st w) {t : TypeId} {x ix : Operand} (o : Oper) (ho : o.op = .index t x ix) (ht : P.underlying t = some .string) {gs : List (E .bool)} {sv : SV} {s' : St} {k : IntKind} {e : E .str} {n : E (.int k)} (hx : s.get x = .a (.x .str e)) (hix : s.get ix = .a (.x (.int k) n))
  (g0 : den (gLe (eI k 0) n) r = true) (g1 : den (gLt n (.o1 .slen e)) r = true) : GoodP P bd N r st false (execOp a.eval o) a.tmps w (ax (.int .u8) (.o2 (.sidx k) e n)) s := by
 obtain ⟨hv, hn⟩ := get_a h hx
 obtain ⟨hiv, hin⟩ := get_a h hix
 have hv := str_of hv
 have hiv := int_of hiv
 have h0 : (0 : Int) ≤ den n r := gLe_iff.1 g0
 have h1 : (den n r : Int) < ((den e r : ByteArray).size : Int) := gLt_iff.1 g1
 have key : ∀ (m : Int) (sb : ByteArray), m = den n r → sb = den e r → 0 ≤ m → m < (sb.size : Int) → GoodP P bd N r st false (execOp a.eval o) a.tmps w (ax (.int .u8) (.o2 (.sidx k) e n)) s := by
  intro m sb hm hsb h0 h1
  have hlt : m.toNat < sb.size := by omega
  have hget : sb[m.toNat]? = some sb[m.toNat] := by simp [hlt]
  refine GoodP.look h (v := .int .u8 ((sb[m.toNat]).toNat : Int)) ?_ ?_ ⟨hn, hin⟩
  ·intro w2 _
   simp only [execOp, ho, hv, hiv, ← hm, ← hsb]
   refine run_v ?_
   unfold Instr.index
   rw [run_bind_ok (v := (k, m)) (w' := w2) rfl]
   simp only []
   rw [run_bind_ok (run_underlying' ht)]
   simp only [h0, if_true, hget]
   rfl
  ·have : ((sb[m.toNat]).toNat : Int) = den (.o2 (.sidx k) e n) r := by
    simp only [den, O2.d]
    rw [← hm, ← hsb]
    have hd : sb.data.getD m.toNat 0 = sb[m.toNat] := by
     rw [Array.getD_eq_getD_getElem?]
     have : sb.data[m.toNat]? = some sb[m.toNat] := by
      rw [Array.getElem?_eq_getElem (by exact hlt)]; rfl
     rw [this]; rfl
    exact congrArg (fun b : UInt8 => (b.toNat : Int)) hd.symm
   rw [this]; exact int_srep _ _
 exact key _ _ rfl rfl h0 h1
theorem capsOf_eq (h : R bd N s r g a.tmps st w) : ∀ {xs : List Operand} {l : List (Nat × Nat)}, capsOf (xs.map s.get) = some l → xs.map a.eval = (l.map fun c => Value.pointer (some ⟨(g c.1).blk, c.2, none⟩)) ∧ ∀ c ∈ l, (s.heap c.1).isSome = true
 | [], l, hc => by simp only [List.map_nil, capsOf, Option.some.injEq] at hc; subst hc; simp
 | x :: xs, l, hc => by
  simp only [List.map_cons] at hc
  cases hx : s.get x with
  | a b =>
   rw [hx] at hc
   cases b <;> simp only [capsOf, reduceCtorEq] at hc
   rename_i id j
   obtain ⟨m, hm, rfl⟩ := Option.map_eq_some_iff.1 hc
   obtain ⟨i1, i2⟩ := capsOf_eq h hm
   obtain ⟨hv, hn⟩ := get_a h hx
   refine ⟨?_, fun c hc => ?_⟩
   ·simp only [List.map_cons, i1]
    congr 1
   ·rcases List.mem_cons.1 hc with rfl | hc
    ·exact hn
    ·exact i2 c hc
  | agg l' => rw [hx] at hc; simp [capsOf] at hc
  | tup l' => rw [hx] at hc; simp [capsOf] at hc
theorem good_makeFunc (h : R bd N s r g a.tmps st w) {f : FuncId} {first caps : Array Operand} (o : Oper) (ho : o.op = .makeFunc (.func f) first caps) (hfs : first.size = 0) {l : List (Nat × Nat)} (hl : capsOf (caps.toList.map s.get) = some l) :
  GoodP P bd N r st false (execOp a.eval o) a.tmps w (.a (.clo f l)) s := by
 obtain ⟨h1, h2⟩ := capsOf_eq h hl
 have hfirst : first = #[] := Array.size_eq_zero_iff.1 hfs
 refine GoodP.look h (v := .func (.func f) (first.map a.eval) (caps.map a.eval)) ?_ ?_ h2
 ·intro w2 _; simp only [execOp, ho]; rfl
 ·have e1 : caps.map a.eval = (l.map fun c => Value.pointer (some ⟨(g c.1).blk, c.2, none⟩)).toArray := by
   apply Array.ext'
   simp only [Array.toList_map, h1]
  simp only [SRep, ARep, hfirst, e1]
  simp
theorem good_mm (h : R bd N s r g a.tmps st w) {mx : Bool} {ts : Array TypeId} {args : Array Operand} (o : Oper) (ho : o.op = .call { callee := .builtin (if mx then .max else .min), args := args, argTypes := ts }) {gs : List (E .bool)} {sv : SV} {s' : St} (hs : symMM mx s args.toList = some (gs, sv, s')) :
  GoodP P bd N r st false (execOp a.eval o) a.tmps w sv s' := by
 unfold symMM at hs
 split at hs
 case h_2 => cases hs
 rename_i k e1 k' e2 hl
 split at hs
 case isFalse => cases hs
 rename_i hk
 subst hk
 obtain ⟨-, rfl, rfl⟩ := one_eq hs
 obtain ⟨x, y, hxy, hx, hy⟩ : ∃ x y, args.toList = [x, y] ∧ s'.get x = .a (.x (.int k') e1) ∧ s'.get y = .a (.x (.int k') e2) := by
  match hh : args.toList with
  | [] => rw [hh] at hl; simp at hl
  | [x] => rw [hh] at hl; simp at hl
  | [x, y] => rw [hh] at hl; simp at hl; exact ⟨x, y, rfl, hl.1, hl.2⟩
  | x :: y :: z :: m => rw [hh] at hl; simp at hl
 obtain ⟨hv1, hn1⟩ := get_a h hx
 obtain ⟨hv2, hn2⟩ := get_a h hy
 have hv1 := int_of hv1
 have hv2 := int_of hv2
 have hargs : args.map a.eval = #[a.eval x, a.eval y] := by
  apply Array.ext'
  simp [hxy]
 cases mx with
 | true =>
  refine GoodP.look h (v := .int k' (den (.o2 (.mx k') e1 e2) r)) ?_ (int_srep _ _) ⟨hn1, hn2⟩
  intro w2 _
  rw [run_builtin o (by rw [ho]), hargs, hv1, hv2]
  exact run_v rfl
 | false =>
  refine GoodP.look h (v := .int k' (den (.o2 (.mn k') e1 e2) r)) ?_ (int_srep _ _) ⟨hn1, hn2⟩
  intro w2 _
  rw [run_builtin o (by rw [ho]), hargs, hv1, hv2]
  exact run_v rfl
end
end Go.Sm
namespace Go.Sm
set_option linter.unusedVariables false
set_option linter.unusedSimpArgs false
section
variable {P : Program} {bd : Bd} {N : Nat → Prop} {s : St} {r : Env} {g : Nat → G} {st : List (Array Value)} {w : World} {a : Act}
def valEq : Value → Value → Bool
 | .int _ a, .int _ b => a == b
 | .bool a, .bool b => a == b
 | _, _ => false
def allEq : List Value → List Value → Bool
 | [], [] => true
 | u :: us, v :: vs => valEq u v && allEq us vs
 | _, _ => false
theorem eqCells_den {M : Nat → Prop} {neq : Bool} : ∀ {l m : List Atom} {e : E .bool} {us vs : List Value}, eqCells neq l m = some e → AReps w M g r l us → AReps w M g r m vs → (∀ b ∈ l, b.vs N) → (∀ b ∈ m, b.vs N) →
  (den e r : Bool) = (if neq then !(allEq us vs) else allEq us vs) ∧ e.vs N := by
 intro l
 induction l with
 | nil => intro m e us vs h; simp [eqCells] at h
 | cons b l ih =>
  intro m e us vs h hl hm nl nm
  cases us with
  | nil => exact hl.elim
  | cons u us =>
   cases m with
   | nil => cases b <;> simp [eqCells] at h
   | cons c m =>
    cases vs with
    | nil => exact hm.elim
    | cons v vs =>
     have hone : ∀ (ec : E .bool), ec.vs N → (den ec r : Bool) = (if neq then !(valEq u v) else valEq u v) → (l = [] ∧ m = [] ∧ e = ec ∨ ∃ er, eqCells neq l m = some er ∧ e = .o2 (if neq then .or else .and) ec er) →
       (den e r : Bool) = (if neq then !(allEq (u :: us) (v :: vs)) else allEq (u :: us) (v :: vs)) ∧ e.vs N := by
      intro ec hv hd hcase
      rcases hcase with ⟨rfl, rfl, rfl⟩ | ⟨er, her, rfl⟩
      ·cases us with
       | cons _ _ => exact hl.2.elim
       | nil =>
        cases vs with
        | cons _ _ => exact hm.2.elim
        | nil => rw [hd]; simp [allEq, hv]
      ·obtain ⟨i1, i2⟩ := ih her hl.2 hm.2 (fun b hb => nl b (List.mem_cons_of_mem _ hb)) (fun b hb => nm b (List.mem_cons_of_mem _ hb))
       cases neq with
       | true =>
        simp only [if_true] at hd i1 ⊢
        refine ⟨?_, hv, i2⟩
        simp only [den, O2.d, hd, i1, allEq, Bool.not_and]
       | false =>
        simp only [Bool.false_eq_true, if_false] at hd i1 ⊢
        refine ⟨?_, hv, i2⟩
        simp only [den, O2.d, hd, i1, allEq]
     have hnb := nl b (List.mem_cons_self ..)
     have hnc := nm c (List.mem_cons_self ..)
     have hb := hl.1
     have hc := hm.1
     have hint : ∀ (k : IntKind) (x y : E (.int k)), ARep w M g r (.x (.int k) x) u → ARep w M g r (.x (.int k) y) v → (den (.o2 (.cm (if neq then .neq else .eql) k k) x y) r : Bool) = (if neq then !(valEq u v) else valEq u v) := by
      intro k x y h1 h2
      rw [int_of h1, int_of h2]
      cases neq <;> simp [den, O2.d, cmI, valEq] <;> rfl
     have hbool : ∀ (x y : E .bool), ARep w M g r (.x .bool x) u → ARep w M g r (.x .bool y) v → (den (.o2 (if neq then .bne else .beq) x y) r : Bool) = (if neq then !(valEq u v) else valEq u v) := by
      intro x y h1 h2
      rw [bool_of h1, bool_of h2]
      cases neq <;> simp [den, O2.d, valEq] <;> rfl
     unfold eqCells at h
     split at h
     ·rename_i k x k' y e1 e2
      simp only [List.cons.injEq] at e1 e2
      obtain ⟨rfl, rfl⟩ := e1
      obtain ⟨rfl, rfl⟩ := e2
      split at h
      case isFalse => cases h
      rename_i hk
      subst hk
      cases h
      exact hone _ (by exact ⟨hnb, hnc⟩) (hint _ _ _ hb hc) (.inl ⟨rfl, rfl, rfl⟩)
     ·rename_i x y e1 e2
      simp only [List.cons.injEq] at e1 e2
      obtain ⟨rfl, rfl⟩ := e1
      obtain ⟨rfl, rfl⟩ := e2
      cases h
      exact hone _ (by exact ⟨hnb, hnc⟩) (hbool _ _ hb hc) (.inl ⟨rfl, rfl, rfl⟩)
     ·rename_i k x l' k' y m' _ e1 e2
      simp only [List.cons.injEq] at e1 e2
      obtain ⟨rfl, rfl⟩ := e1
      obtain ⟨rfl, rfl⟩ := e2
      split at h
      case isFalse => cases h
      rename_i hk
      subst hk
      obtain ⟨er, h1, h2⟩ := Option.map_eq_some_iff.1 h
      exact hone _ (by exact ⟨hnb, hnc⟩) (hint _ _ _ hb hc) (.inr ⟨er, h1, h2.symm⟩)
     ·rename_i x l' y m' _ e1 e2
      simp only [List.cons.injEq] at e1 e2
      obtain ⟨rfl, rfl⟩ := e1
      obtain ⟨rfl, rfl⟩ := e2
      obtain ⟨er, h1, h2⟩ := Option.map_eq_some_iff.1 h
      exact hone _ (by exact ⟨hnb, hnc⟩) (hbool _ _ hb hc) (.inr ⟨er, h1, h2.symm⟩)
     ·cases h
theorem run_forIn_stop {β σ : Type} {l : List β} {init fin : σ} {body : β → σ → Sem (ForInStep σ)} {q : β → Bool} (h : ∀ b ∈ l, (body b init).run P w = .ok (if q b = true then .yield init else .done fin) w) :
  (forIn l init body).run P w = .ok (if l.all q = true then init else fin) w := by
 induction l with
 | nil => rfl
 | cons b l ih =>
  rw [List.forIn_cons, run_bind_ok (h b (List.mem_cons_self ..))]
  cases hq : q b with
  | true =>
   simp only [if_true, List.all_cons, hq, Bool.true_and]
   exact ih fun c hc => h c (List.mem_cons_of_mem _ hc)
  | false =>
   simp only [Bool.false_eq_true, if_false, List.all_cons, hq, Bool.false_and]
   rfl
theorem run_equal_struct {t : TypeId} {fs : Array Field} (ht : P.underlying t = some (.struct fs)) (hst : P.stoodInHeld t = false) {xs ys : Array Value} {q : Field → Bool}
  (h : ∀ f ∈ fs.toList, f.name ≠ "_" ∧ ∃ u v, (Go.part f.type xs f.offset).run P w = .ok u w ∧ (Go.part f.type ys f.offset).run P w = .ok v w ∧ (Op.equalIn 9999 f.type u v).run P w = .ok (q f) w) :
  (Op.equal t (.agg xs) (.agg ys)).run P w = .ok (fs.toList.all q) w := by
 show (Op.equalIn (9999 + 1) t (.agg xs) (.agg ys)).run P w = _
 rw [Op.equalIn, run_bind_ok (run_underlying' ht)]
 simp only []
 rw [run_bind_ok (v := P) (w' := w) rfl]
 simp only [hst, Bool.false_eq_true, if_false]
 rw [← Array.forIn_toList]
 rw [run_bind_ok (run_forIn_stop (init := (none, ())) (fin := (some false, ())) (q := q) ?_)]
 ·cases fs.toList.all q <;> rfl
 ·intro f hf
  obtain ⟨hn, u, v, h1, h2, h3⟩ := h f hf
  rw [if_pos hn, run_bind_ok h1, run_bind_ok h2, run_bind_ok h3]
  cases q f <;> rfl
theorem run_part1 {t : TypeId} (h : isAggT P t = some false) {cs : Array Value} {i : Nat} {v : Value} (hv : cs[i]? = some v) : (Go.part t cs i).run P w = .ok v w := by
 unfold Go.part
 rw [run_bind_ok (run_isAgg' h)]
 simp only [Bool.false_eq_true, if_false, hv]
 rfl
theorem good_field {bd : Bd} {N : Nat → Prop} {s : St} {st : List (Array Value)} {a : Act} (h : R bd N s r g a.tmps st w) {t : TypeId} {x : Operand} {f : Nat} (o : Oper) (ho : o.op = .field t x f) {gs : List (E .bool)} {sv : SV} {s' : St}
  (hs : symOp P false s 0 (.field t x f) = some (gs, sv, s')) : GoodP P bd N r st false (execOp a.eval o) a.tmps w sv s' := by
 simp only [symOp] at hs
 split at hs
 case h_2 => cases hs
 rename_i fs l ht hx
 split at hs
 case h_2 => cases hs
 rename_i fd hf
 split at hs
 case isFalse => cases hs
 rename_i hag
 split at hs
 case h_2 => cases hs
 rename_i b hb
 obtain ⟨-, rfl, rfl⟩ := one_eq hs
 have hget := get_rep h x
 rw [hx] at hget
 obtain ⟨⟨cs, hcs, hr⟩, hn⟩ := hget
 obtain ⟨v, hv, hc⟩ := AReps.get hr hb
 have hv' : cs[fd.offset]? = some v := by simpa using hv
 refine GoodP.look h (v := v) (fun w2 _ => ?_) hc (hn _ (List.mem_of_getElem? hb))
 simp only [execOp, ho, hcs]
 refine run_v ?_
 unfold Instr.field
 rw [run_bind_ok (run_underlying' ht)]
 simp only [hf]
 rw [run_bind_ok (v := cs) (w' := w2) rfl]
 exact run_part1 hag hv'
theorem eqFields_all {M : Nat → Prop} {neq : Bool} {xs ys : Array Value} : ∀ {l m : List Atom} {fs : List Field} {i : Nat} {e : E .bool} {us vs : List Value}, eqFields P fs i l = true → eqCells neq l m = some e → AReps w M g r l us → AReps w M g r m vs →
  (∀ j, xs[i + j]? = us[j]?) → (∀ j, ys[i + j]? = vs[j]?) →
  (∀ f ∈ fs, f.name ≠ "_" ∧ ∃ u v, (∀ w : World, (Go.part f.type xs f.offset).run P w = .ok u w) ∧ (∀ w : World, (Go.part f.type ys f.offset).run P w = .ok v w) ∧ ∀ w : World, (Op.equalIn 9999 f.type u v).run P w = .ok (valEq (xs.getD f.offset undef) (ys.getD f.offset undef)) w) ∧
   fs.all (fun f => valEq (xs.getD f.offset undef) (ys.getD f.offset undef)) = allEq us vs := by
 intro l
 induction l with
 | nil => intro m fs i e us vs _ h; simp [eqCells] at h
 | cons b l ih =>
  intro m fs i e us vs hf hc hl hm hx hy
  cases us with
  | nil => exact hl.elim
  | cons u us =>
   cases m with
   | nil => cases b <;> simp [eqCells] at hc
   | cons c m =>
    cases vs with
    | nil => exact hm.elim
    | cons v vs =>
     cases fs with
     | nil => cases b <;> simp [eqFields] at hf
     | cons f fs =>
      have step : ∀ (hoff : f.offset = i) (hname : f.name ≠ "_") (hag : isAggT P f.type = some false) (heq : ∀ w : World, (Op.equalIn 9999 f.type u v).run P w = .ok (valEq u v) w) (hrest : l = [] ∧ m = [] ∧ fs = [] ∨ eqFields P fs (i + 1) l = true ∧ ∃ er, eqCells neq l m = some er),
        (∀ f' ∈ f :: fs, f'.name ≠ "_" ∧ ∃ u v, (∀ w : World, (Go.part f'.type xs f'.offset).run P w = .ok u w) ∧ (∀ w : World, (Go.part f'.type ys f'.offset).run P w = .ok v w) ∧ ∀ w : World, (Op.equalIn 9999 f'.type u v).run P w = .ok (valEq (xs.getD f'.offset undef) (ys.getD f'.offset undef)) w) ∧
         (f :: fs).all (fun f => valEq (xs.getD f.offset undef) (ys.getD f.offset undef)) = allEq (u :: us) (v :: vs) := by
       intro hoff hname hag heq hrest
       have hxu : xs[f.offset]? = some u := by rw [hoff]; simpa using hx 0
       have hyv : ys[f.offset]? = some v := by rw [hoff]; simpa using hy 0
       have e1 : xs.getD f.offset undef = u := by rw [Array.getD_eq_getD_getElem?, hxu]; rfl
       have e2 : ys.getD f.offset undef = v := by rw [Array.getD_eq_getD_getElem?, hyv]; rfl
       have first : f.name ≠ "_" ∧ ∃ u v, (∀ w : World, (Go.part f.type xs f.offset).run P w = .ok u w) ∧ (∀ w : World, (Go.part f.type ys f.offset).run P w = .ok v w) ∧ ∀ w : World, (Op.equalIn 9999 f.type u v).run P w = .ok (valEq (xs.getD f.offset undef) (ys.getD f.offset undef)) w :=
        ⟨hname, u, v, fun _ => run_part1 hag hxu, fun _ => run_part1 hag hyv, by rw [e1, e2]; exact heq⟩
       rcases hrest with ⟨rfl, rfl, rfl⟩ | ⟨h1, er, h2⟩
       ·cases us with
        | cons _ _ => exact hl.2.elim
        | nil =>
         cases vs with
         | cons _ _ => exact hm.2.elim
         | nil => exact ⟨fun f' hf' => by simp only [List.mem_singleton] at hf'; subst hf'; exact first, by simp only [List.all_cons, List.all_nil, Bool.and_true, e1, e2, allEq]⟩
       ·obtain ⟨i1, i2⟩ := ih h1 h2 hl.2 hm.2 (fun j => by have := hx (j + 1); rw [show i + (j + 1) = i + 1 + j by omega] at this; simpa using this) (fun j => by have := hy (j + 1); rw [show i + (j + 1) = i + 1 + j by omega] at this; simpa using this)
        refine ⟨fun f' hf' => ?_, ?_⟩
        ·rcases List.mem_cons.1 hf' with rfl | hf'
         ·exact first
         ·exact i1 f' hf'
        ·simp only [List.all_cons, e1, e2, i2, allEq]
      have hrest : ∀ (h5 : eqFields P fs (i + 1) l = true), (l = [] ∧ m = [] ∨ ∃ er, eqCells neq l m = some er) → (l = [] ∧ m = [] ∧ fs = [] ∨ eqFields P fs (i + 1) l = true ∧ ∃ er, eqCells neq l m = some er) := by
       rintro h5 (⟨rfl, rfl⟩ | h6)
       ·left
        refine ⟨rfl, rfl, ?_⟩
        cases fs with
        | nil => rfl
        | cons f' fs' => simp [eqFields] at h5
       ·exact .inr ⟨h5, h6⟩
      unfold eqCells at hc
      split at hc
      ·rename_i k x k' y q1 q2
       simp only [List.cons.injEq] at q1 q2
       obtain ⟨rfl, rfl⟩ := q1
       obtain ⟨rfl, rfl⟩ := q2
       split at hc
       case isFalse => cases hc
       rename_i hk
       subst hk
       simp only [eqFields, Bool.and_eq_true, decide_eq_true_eq] at hf
       obtain ⟨⟨⟨⟨h1, h2⟩, h3⟩, h4⟩, h5⟩ := hf
       refine step h1 h2 h3 ?_ (hrest h5 (.inl ⟨rfl, rfl⟩))
       rw [int_of hl.1, int_of hm.1]
       intro w2
       split at h4
       ·rename_i k' hu
        rw [Op.equalIn, run_bind_ok (run_underlying' hu)]
        simp only [if_true]
        rfl
       ·cases h4
      ·rename_i x y q1 q2
       simp only [List.cons.injEq] at q1 q2
       obtain ⟨rfl, rfl⟩ := q1
       obtain ⟨rfl, rfl⟩ := q2
       simp only [eqFields, Bool.and_eq_true, decide_eq_true_eq] at hf
       obtain ⟨⟨⟨⟨h1, h2⟩, h3⟩, h4⟩, h5⟩ := hf
       refine step h1 h2 h3 ?_ (hrest h5 (.inl ⟨rfl, rfl⟩))
       rw [bool_of hl.1, bool_of hm.1]
       intro w2
       split at h4
       ·rename_i hu
        rw [Op.equalIn, run_bind_ok (run_underlying' hu)]
        rfl
       ·cases h4
      ·rename_i k x l' k' y m' _ q1 q2
       simp only [List.cons.injEq] at q1 q2
       obtain ⟨rfl, rfl⟩ := q1
       obtain ⟨rfl, rfl⟩ := q2
       split at hc
       case isFalse => cases hc
       rename_i hk
       subst hk
       obtain ⟨er, her, _⟩ := Option.map_eq_some_iff.1 hc
       simp only [eqFields, Bool.and_eq_true, decide_eq_true_eq] at hf
       obtain ⟨⟨⟨⟨h1, h2⟩, h3⟩, h4⟩, h5⟩ := hf
       refine step h1 h2 h3 ?_ (hrest h5 (.inr ⟨er, her⟩))
       rw [int_of hl.1, int_of hm.1]
       intro w2
       split at h4
       ·rename_i k' hu
        rw [Op.equalIn, run_bind_ok (run_underlying' hu)]
        simp only [if_true]
        rfl
       ·cases h4
      ·rename_i x l' y m' _ q1 q2
       simp only [List.cons.injEq] at q1 q2
       obtain ⟨rfl, rfl⟩ := q1
       obtain ⟨rfl, rfl⟩ := q2
       obtain ⟨er, her, _⟩ := Option.map_eq_some_iff.1 hc
       simp only [eqFields, Bool.and_eq_true, decide_eq_true_eq] at hf
       obtain ⟨⟨⟨⟨h1, h2⟩, h3⟩, h4⟩, h5⟩ := hf
       refine step h1 h2 h3 ?_ (hrest h5 (.inr ⟨er, her⟩))
       rw [bool_of hl.1, bool_of hm.1]
       intro w2
       split at h4
       ·rename_i hu
        rw [Op.equalIn, run_bind_ok (run_underlying' hu)]
        rfl
       ·cases h4
      ·cases hc
theorem good_structEq (h : R bd N s r g a.tmps st w) {neq : Bool} {t ty : TypeId} {x y : Operand} (o : Oper) (ho : o.op = .binOp (if neq then .neq else .eql) t x y ty) {l m : List Atom} {e : E .bool} (hx : s.get x = .agg l) (hy : s.get y = .agg m) (hgd : P.eqGuardType P.depth t = false) (hok : eqOk P t l = true) (hc : eqCells neq l m = some e) :
  GoodP P bd N r st false (execOp a.eval o) a.tmps w (ax .bool e) s := by
 obtain ⟨⟨cs, hcs, hl⟩, hn⟩ := get_agg h hx
 obtain ⟨⟨ds, hds, hm⟩, hn'⟩ := get_agg h hy
 unfold eqOk at hok
 split at hok
 case h_2 => cases hok
 rename_i fs ht
 simp only [Bool.and_eq_true, Bool.not_eq_true'] at hok
 obtain ⟨h1, h2⟩ := eqFields_all (P := P) (w := w) (xs := cs) (ys := ds) hok.2 hc hl hm (fun j => by simp) (fun j => by simp)
 obtain ⟨h3, h4⟩ := eqCells_den hc hl hm (fun b hb => (hn b hb).vs) (fun b hb => (hn' b hb).vs)
 have heq := fun w2 : World => run_equal_struct (w := w2) ht hok.1 (fun f hf => by obtain ⟨b1, u, v, b2, b3, b4⟩ := h1 f hf; exact ⟨b1, u, v, b2 w2, b3 w2, b4 w2⟩)
 rw [h2] at heq
 have hguard : ∀ (b : BinOp) (w2 : World), (eqGuard b t x y (.agg cs) (.agg ds)).run P w2 = .ok () w2 := by
  intro b w2
  cases b <;> simp [eqGuard, hgd]
 cases neq with
 | true =>
  refine GoodP.look h (v := .bool (den e r)) ?_ (bool_srep e _) h4
  intro w2 _
  simp only [execOp, ho, hcs, hds, if_true]
  refine run_v ?_
  rw [run_bind_ok (hguard _ w2), h3]
  exact run_neq (heq w2) rfl
 | false =>
  refine GoodP.look h (v := .bool (den e r)) ?_ (bool_srep e _) h4
  intro w2 _
  simp only [execOp, ho, hcs, hds, Bool.false_eq_true, if_false]
  refine run_v ?_
  rw [run_bind_ok (hguard _ w2), h3]
  exact run_eql (heq w2) rfl
end
end Go.Sm
namespace Go.Sm
set_option linter.unusedVariables false
set_option linter.unusedSimpArgs false
section
variable {P : Program} {bd : Bd} {N : Nat → Prop} {s : St} {r : Env} {g : Nat → G} {st : List (Array Value)} {w : World} {a : Act}
theorem nest_take {M : Nat → Prop} {c : Bool} {u : Ty} : ∀ {t : Ty} {j : Nat} {e : E t} {l : E (.sl c u)} {F : List Nat} {us : List Value}, projE t j e = some ⟨.sl c u, l⟩ → DRep w t none F (den e r) us →
  ∃ v o zs Fs F1, us[j]? = some v ∧ OwnV w v o u.size (den l r : List u.D).length zs ∧ Rws w M true u noHo Fs (den l r) zs ∧ DRep w t (some j) F1 (den e r) us ∧ F.Perm (o.toList ++ Fs.flatten ++ F1) ∧ (e.vs N → l.vs N) := by
 intro t
 induction t with
 | int k => intro j e l F us hp; cases j <;> simp [projE] at hp
 | bool => intro j e l F us hp; cases j <;> simp [projE] at hp
 | str => intro j e l F us hp; cases j <;> simp [projE] at hp
 | sl c' e' ih =>
  intro j e l F us hp hr
  cases j with
  | succ j => simp [projE] at hp
  | zero =>
   simp only [projE, Option.some.injEq, Sigma.mk.injEq] at hp
   obtain ⟨hty, hl⟩ := hp
   cases hty
   have hl := eq_of_heq hl
   subst hl
   simp only [DRep] at hr
   rw [if_neg (by simp)] at hr
   obtain ⟨v, o, xs, Fs, rfl, h2, h3, rfl, h5, h6⟩ := hr
   refine ⟨v, o, xs, Fs, [], rfl, h2, ⟨h5, h2.1, fun i hi => ?_⟩, ?_, by simp, fun h => h⟩
   ·obtain ⟨cs, q1, q2, q3⟩ := h6 i hi
    exact ⟨cs, q1, q2, by simpa [Row, noHo] using q3⟩
   ·simp only [DRep]
    rw [if_pos trivial]
    exact ⟨trivial, rfl⟩
 | pr x y ihx ihy =>
  intro j e l F us hp hr
  simp only [projE] at hp
  simp only [DRep] at hr
  obtain ⟨F1, F2, m1, m2, rfl, rfl, hl, hm⟩ := hr
  have hll := hl.len
  split at hp
  ·rename_i hj
   obtain ⟨v, o, zs, Fs, G1, q1, q2, q3, q4, q5, q6⟩ := ihx (e := .o1 (.fst x y) e) hp hl
   refine ⟨v, o, zs, Fs, G1 ++ F2, by rw [List.getElem?_append_left (by omega)]; exact q1, q2, q3, ?_, ?_, q6⟩
   ·simp only [DRep]
    exact ⟨G1, F2, m1, m2, rfl, rfl, by simp only [hj, if_true]; exact q4, by simp only [hj, if_true]; exact hm⟩
   ·rw [← List.append_assoc]
    exact q5.append_right F2
  ·rename_i hj
   obtain ⟨v, o, zs, Fs, G1, q1, q2, q3, q4, q5, q6⟩ := ihy (e := .o1 (.snd x y) e) hp hm
   refine ⟨v, o, zs, Fs, F1 ++ G1, by rw [List.getElem?_append_right (by omega), hll]; exact q1, q2, q3, ?_, ?_, q6⟩
   ·simp only [DRep]
    exact ⟨F1, G1, m1, m2, rfl, rfl, by simp only [hj, if_false]; exact hl, by simp only [hj, if_false]; exact q4⟩
   ·exact (q5.append_left F1).trans (List.perm_append_comm_assoc F1 (o.toList ++ Fs.flatten) G1)
theorem Rws.undeep {M : Nat → Prop} {t : Ty} {Fs : List (List Nat)} {ds : List t.D} {xs : List Value} (h : Rws w M true t noHo Fs ds xs) : Rws w M t.hasSl t noHo Fs ds xs := by
 cases ht : t.hasSl with
 | true => exact h
 | false =>
  refine ⟨h.lf, h.lx, fun i hi => ?_⟩
  obtain ⟨us, a1, a2, a3⟩ := h.row i hi
  refine ⟨us, a1, a2, ?_⟩
  simp only [Row, if_true, noHo] at a3
  simp only [Row, Bool.false_eq_true, if_false]
  obtain ⟨p1, p2⟩ := a3.flat (M := M) (w' := w) ht
  exact ⟨p1, p2⟩
theorem flatten_set_not : ∀ {Fs : List (List Nat)} {n : Nat} {F : List Nat} {b : Nat}, Fs.flatten.Nodup → b ∈ Fs.getD n [] → b ∉ F → b ∉ (Fs.set n F).flatten
 | [], n, F, b, _, hb, _ => by simp at hb
 | G :: Fs, 0, F, b, hnd, hb, hF => by
  simp only [List.flatten_cons] at hnd
  obtain ⟨n1, n2, n3⟩ := List.nodup_append.1 hnd
  simp only [List.set_cons_zero, List.flatten_cons, List.mem_append, not_or]
  exact ⟨hF, fun h => n3 b (by simpa using hb) b h rfl⟩
 | G :: Fs, n + 1, F, b, hnd, hb, hF => by
  simp only [List.flatten_cons] at hnd
  obtain ⟨n1, n2, n3⟩ := List.nodup_append.1 hnd
  simp only [List.set_cons_succ, List.flatten_cons, List.mem_append, not_or]
  have hb' : b ∈ Fs.getD n [] := by simpa using hb
  exact ⟨fun h => n3 b h b (getD_mem_flatten hb') rfl, flatten_set_not n2 hb' hF⟩
theorem nref_state (s : St) (mv : List Nat) (i id : Nat) (B1 B2 : Blk) : (((s.kills mv).unnest i).new id B1).new i B2 =
  ⟨s.cur.map (SV.map fun a => nstA i (killsA mv a)), s.stk.map (List.map (SV.map fun a => nstA i (killsA mv a))),
   upd (upd (fun m => bif mv.contains m then none else (s.heap m).map (Blk.map fun a => nstA i (killsA mv a))) id (some B1)) i (some B2), s.base, s.np, s.kp⟩ := by
 rw [kills_eq]
 simp only [St.unnest, St.new, St.mk.injEq, and_true, true_and, List.map_map]
 refine ⟨List.map_congr_left fun v _ => by simp only [Function.comp, SV.map_map], List.map_congr_left fun l _ => by simp only [Function.comp, List.map_map]; exact List.map_congr_left fun v _ => by simp only [Function.comp, SV.map_map], ?_⟩
 congr 2
 funext m
 cases mv.contains m
 ·simp only [cond_false, Option.map_map]
  congr 1
  funext C
  simp only [Function.comp, Blk.map_map]
 ·rfl
set_option maxHeartbeats 2000000 in
theorem good_appNref (h : R bd N s r g a.tmps st w) {id i : Nat} {t t2 : TypeId} {ts : Array TypeId} {x y : Operand} (op : Oper) (ho : op.op = .call { callee := .builtin .append, args := #[x, y], argTypes := ts }) (hts : ts = #[t, t2]) (ht2 : isSliceT P t2 = true) {ty : Ty} (hel : elemT P t = some ty)
  {t0 : Ty} {k : IntKind} {ix : E (.int k)} {j : Nat} (hx : (s.get x).atom = .nref i t0 k ix j)
  {gs : List (E .bool)} {sv : SV} {s' : St} (hs : appNref s id ty i t0 k ix j y = some (gs, sv, s')) (hg : ∀ c ∈ gs, den c r = true) : Good P bd N r st (execOp a.eval op) a.tmps w sv s' := by
 obtain ⟨hxv, hxn⟩ := atom_rep h x
 rw [hx] at hxv hxn
 unfold appNref at hs
 split at hs
 case h_2 => cases hs
 rename_i t' e hid
 split at hs
 case isFalse => cases hs
 rename_i htt
 subst htt
 split at hs
 case h_2 => cases hs
 rename_i u l hpr
 split at hs
 case isFalse => cases hs
 rename_i huu
 subst huu
 split at hs
 case h_2 => cases hs
 rename_i e2 mv hsrc
 split at hs
 case isFalse => cases hs
 rename_i hc
 simp only [Bool.and_eq_true, Bool.not_eq_true'] at hc
 simp only [Option.some.injEq, Prod.mk.injEq] at hs
 obtain ⟨rfl, rfl, rfl⟩ := hs
 obtain ⟨hfid, hnp⟩ := free_eq hc.2
 obtain ⟨hyv, hyn⟩ := atom_rep h y
 obtain ⟨he2, Gs, ys, ⟨sx, sc, hyx, hys, hy0, hyr⟩, hmv⟩ := appSrc_ok h hsrc hyv hyn
 obtain ⟨l1, l2⟩ := gApp_lim hg
 obtain ⟨p, n, c, h1, h2, h3, h4, h5⟩ := hxv
 obtain ⟨ov, xs, Fs, b1, b2, b3⟩ := OwnA_iff.1 (h.heap i _ hid)
 have hn0 : 0 < n := Nat.lt_of_le_of_lt (Nat.zero_le _) h4
 obtain ⟨hov, hps, hnn, _, hcell⟩ := b1.cells h1 hn0
 have hlt : Int.toNat (den ix r) < (den e r : List t'.D).length := by rw [← hnn]; exact h4
 obtain ⟨us, a1, a2, a3⟩ := b3.row _ hlt
 simp only [Row, if_true] at a3
 have hd : den (.o2 (.idx false t' k) e ix) r = (den e r : List t'.D)[Int.toNat (den ix r)] := by rw [den_idx]; exact getD_of_lt hlt
 rw [← hd] at a3
 obtain ⟨vv, oo, zs, Hs, F1, q1, q2, q3, q4, q5, q6⟩ := nest_take (N := N) (M := Mt bd.Z s.heap g) hpr a3
 have hvv : vv = a.eval x := by
  have hcv := hcell (Int.toNat (den ix r) * t'.size + j) vv (a2 j vv q1)
  rw [hcv] at h5
  exact Option.some.inj h5
 subst hvv
 have hevs : (E.o2 (.idx false t' k) e ix).vs N := ⟨h.nheap i _ hid, hxn.1⟩
 obtain ⟨v', w', o', hrun, hown', ho', hfresh, hsame, hsize, hos, htp, hout⟩ := apps_own (t := t) (t2 := t2) (tr := op.type) hel ht2 q2 l1 l2 sx sc ys hyr.lx hys hy0 hyr.ones
 have hq3 := q3.undeep
 have hii : i ≠ id := by rintro rfl; rw [hfid] at hid; cases hid
 have hnd := h.nodup i _ hid
 rw [b2] at hnd
 obtain ⟨n1, n2, n3⟩ := List.nodup_append.1 hnd
 have hlf : Int.toNat (den ix r) < Fs.length := by rw [b3.lf]; exact hlt
 have hFsub : ∀ b ∈ Fs.getD (Int.toNat (den ix r)) [], b ∈ Fs.flatten := fun b hb => getD_mem_flatten hb
 have hFnd : (Fs.getD (Int.toNat (den ix r)) []).Nodup := by
  rw [getD_of_lt hlf]
  exact List.Nodup.sublist (List.sublist_flatten_of_mem (List.getElem_mem hlf)) n2
 have hPnd := q5.nodup_iff.1 hFnd
 have hPmem : ∀ b, b ∈ oo.toList ++ Hs.flatten ++ F1 ↔ b ∈ Fs.getD (Int.toNat (den ix r)) [] := fun b => q5.symm.mem_iff
 obtain ⟨p1, p2, p3⟩ := List.nodup_append.1 hPnd
 have hF1sub : ∀ b ∈ F1, b ∈ Fs.getD (Int.toNat (den ix r)) [] := fun b hb => (hPmem b).1 (List.mem_append_right _ hb)
 have hAsub : ∀ b ∈ oo.toList ++ Hs.flatten, b ∈ Fs.getD (Int.toNat (den ix r)) [] := fun b hb => (hPmem b).1 (List.mem_append_left _ hb)
 have hAnot : ∀ b ∈ oo.toList ++ Hs.flatten, b ∉ (Fs.set (Int.toNat (den ix r)) F1).flatten := fun b hb => flatten_set_not n2 (hAsub b hb) fun hb' => p3 b hb b hb' rfl
 have hBsub : ∀ b ∈ (Fs.set (Int.toNat (den ix r)) F1).flatten, b ∈ Fs.flatten := fun b hb => by
  rcases flatten_set_mem hb with q | q
  ·exact q
  ·exact hFsub b (hF1sub b q)
 have hmf : ∀ b ∈ Gs.flatten, ∃ kk B, kk ∈ mv ∧ kk ≠ i ∧ kk ≠ id ∧ s.heap kk = some B ∧ (∀ l, B ≠ .box l) ∧ b ∈ (g kk).foot := by
  intro b hb
  rcases hmv with ⟨_, hh⟩ | ⟨kk, B, o1, rfl, hy, hB, hbox, hft⟩
  ·rw [hh] at hb; cases hb
  ·refine ⟨kk, B, by simp, ?_, ?_, hB, hbox, by rw [hft]; exact List.mem_append_right _ hb⟩
   ·rintro rfl; rw [hy] at hc; simp [Atom.isRef] at hc
   ·rintro rfl; rw [hfid] at hB; cases hB
 have hmv2 : ∀ kk ∈ mv, kk ≠ i ∧ kk ≠ id ∧ ∃ B, s.heap kk = some B ∧ ∀ l, B ≠ .box l := by
  intro kk hk
  rcases hmv with ⟨hh, _⟩ | ⟨k', B, o1, rfl, hy, hB, hbox, hft⟩
  ·rw [hh] at hk; cases hk
  ·simp only [List.mem_singleton] at hk
   subst hk
   refine ⟨?_, ?_, B, hB, hbox⟩
   ·rintro rfl; rw [hy] at hc; simp [Atom.isRef] at hc
   ·rintro rfl; rw [hfid] at hB; cases hB
 have holt : ∀ b, oo = some b → b < w.heap.size := q2.lt
 have hGsub : ∀ b ∈ Gs.flatten, b ∉ (g i).foot ∧ b < w.heap.size := by
  intro b hb
  obtain ⟨kk, B, _, hki, _, hB, _, hbk⟩ := hmf b hb
  refine ⟨fun hbi => hki (h.inj kk i B _ b hB hid hbk hbi), h.lt kk B hB b hbk⟩
 have hGnd : Gs.flatten.Nodup := by
  rcases hmv with ⟨_, hh⟩ | ⟨kk, B, o1, rfl, hy, hB, hbox, hft⟩
  ·rw [hh]; exact List.nodup_nil
  ·have := h.nodup kk B hB
   rw [hft] at this
   exact (List.nodup_append.1 this).2.1
 have hfoot : ∀ b, b ∈ (g i).foot ↔ b ∈ ov.toList ++ Fs.flatten := fun b => by rw [b2]
 have hsameI : ∀ b, b < w.heap.size → b ∉ (g i).foot → w'.heap[b]? = w.heap[b]? := fun b hb hbi => hsame b hb fun hh => hbi (by
  rw [b2]; exact List.mem_append_right _ (hFsub _ (hAsub b (List.mem_append_left _ (by simp [← hh])))))
 have hltI : ∀ b ∈ (g i).foot, b < w.heap.size := h.lt i _ hid
 have ho'F : ∀ b ∈ o'.toList, (oo = some b) ∨ (w.heap.size ≤ b ∧ b < w'.heap.size) := by
  intro b hb
  simp only [Option.mem_toList] at hb
  rcases ho' with hh | hh
  ·exact .inl (hh ▸ hb)
  ·right
   have := hfresh hh
   rw [hh] at hb
   cases hb
   exact ⟨Nat.le_refl _, this⟩
 have ho'not : ∀ b ∈ o'.toList, b ∉ Hs.flatten ++ Gs.flatten := by
  intro b hb hb'
  rcases ho'F b hb with hh | hh
  ·rcases List.mem_append.1 hb' with q | q
   ·exact (List.nodup_append.1 p1).2.2 b (by simp [hh]) b q rfl
   ·exact (hGsub b q).1 (by rw [b2]; exact List.mem_append_right _ (hFsub _ (hAsub b (List.mem_append_left _ (by simp [hh])))))
  ·rcases List.mem_append.1 hb' with q | q
   ·have := hltI b (by rw [b2]; exact List.mem_append_right _ (hFsub _ (hAsub b (List.mem_append_right _ q)))); omega
   ·have := (hGsub b q).2; omega
 have hHG : ∀ b ∈ Hs.flatten, b ∉ Gs.flatten := fun b hb hb' => (hGsub b hb').1 (by rw [b2]; exact List.mem_append_right _ (hFsub _ (hAsub b (List.mem_append_right _ hb))))
 have hstayHG : ∀ b ∈ Hs.flatten ++ Gs.flatten, w'.heap[b]? = w.heap[b]? := by
  intro b hb
  rcases List.mem_append.1 hb with q | q
  ·refine hsame b (hltI b (by rw [b2]; exact List.mem_append_right _ (hFsub _ (hAsub b (List.mem_append_right _ q))))) fun hh => ?_
   exact (List.nodup_append.1 p1).2.2 b (by simp [← hh]) b q rfl
  ·exact hsameI b (hGsub b q).2 (hGsub b q).1
 have hstayF : ∀ b ∈ ov.toList ++ (Fs.set (Int.toNat (den ix r)) F1).flatten, w'.heap[b]? = w.heap[b]? := by
  intro b hb
  rcases List.mem_append.1 hb with q | q
  ·refine hsame b (hltI b (by rw [b2]; exact List.mem_append_left _ q)) fun hh => ?_
   exact n3 b q b (hFsub _ (hAsub b (List.mem_append_left _ (by simp [← hh])))) rfl
  ·refine hsame b (hltI b (by rw [b2]; exact List.mem_append_right _ (hBsub b q))) fun hh => ?_
   exact hAnot b (List.mem_append_left _ (by simp [← hh])) q
 have hh' : ∀ m, upd (upd (fun m => bif mv.contains m then none else (s.heap m).map (Blk.map fun a => nstA i (killsA mv a))) id (some (.arr u.hasSl u (.o2 (.app u) l e2)))) i (some (.hole t' e k ix j .no)) m =
   if m = i then some (.hole t' e k ix j .no) else if m = id then some (.arr u.hasSl u (.o2 (.app u) l e2)) else if m ∈ mv then none else (s.heap m).map (Blk.map fun a => nstA i (killsA mv a)) := by
  intro m
  by_cases c1 : m = i
  ·subst c1; simp [upd]
  ·have c1' : (m == i) = false := by simpa using c1
   rw [if_neg c1]
   simp only [upd, c1', cond_false]
   by_cases c2 : m = id
   ·rw [if_pos c2, c2, beq_self_eq_true, cond_true]
   ·have c2' : (m == id) = false := by simpa using c2
    rw [if_neg c2, c2', cond_false]
    by_cases c3 : m ∈ mv
    ·simp [c3]
    ·simp [c3]
 have horg : ∀ a, nstA i (killsA mv a) = .no ∨ (nstA i (killsA mv a) = a ∧ (∀ m ∈ mv, a.uses m = false) ∧ (a.nst && a.uses i) = false) := by
  intro a
  rcases killsA_or mv a with z1 | ⟨z1, z2⟩
  ·left; rw [z1]; rfl
  ·rw [z1]
   rcases nstA_or i a with z3 | ⟨z3, z4⟩
   ·exact .inl z3
   ·exact .inr ⟨z3, z2, z4⟩
 have huse : ∀ a : Atom, a.ok N s.heap → a.uses id = false := by
  intro a ha
  cases hu : a.uses id with
  | false => rfl
  | true => have := ha.live hu; rw [hfid] at this; cases this
 have main := h.replace (w' := w') (g' := fun m => if m = i then ⟨(g i).blk, (g i).val, ov.toList ++ (Fs.set (Int.toNat (den ix r)) F1).flatten⟩ else if m = id then ⟨0, v', o'.toList ++ (Hs.flatten ++ Gs.flatten)⟩ else g m) (fun a => nstA i (killsA mv a))
  (upd (upd (fun m => bif mv.contains m then none else (s.heap m).map (Blk.map fun a => nstA i (killsA mv a))) id (some (.arr u.hasSl u (.o2 (.app u) l e2)))) i (some (.hole t' e k ix j .no))) s.base (fun m => m = i ∨ m = id ∨ m ∈ mv) ?_ ?_ ?_ ?_ ?_ hsize hos htp hout ?_ ?_
 ·refine ⟨v', w', fun m => if m = i then ⟨(g i).blk, (g i).val, ov.toList ++ (Fs.set (Int.toNat (den ix r)) F1).flatten⟩ else if m = id then ⟨0, v', o'.toList ++ (Hs.flatten ++ Gs.flatten)⟩ else g m, .inl ?_, ?_, ?_, ?_⟩
  ·rw [run_builtin op ho, hts, show (#[x, y] : Array Operand).map a.eval = #[a.eval x, a.eval y] by simp]
   have hyv' : a.eval y = .slice sx (den e2 r : List u.D).length sc := hyx
   rw [hyv']
   exact run_v hrun
  ·rw [nref_state]; exact main.1
  ·simp [SRep, ARep, Ne.symm hii]
  ·show (St.heap _ id).isSome = true
   rw [nref_state]
   show (upd _ i _ id).isSome = true
   rw [hh', if_neg (Ne.symm hii), if_pos rfl]; rfl
 ·intro b hb
  rcases horg b with z1 | ⟨z1, z2, z3⟩
  ·exact .inl z1
  ·refine .inr ⟨z1, fun m hm ht => ?_⟩
   rcases ht with rfl | rfl | ht
   ·refine ⟨by rw [hh']; simp, by simp, by simp, fun hn => ?_⟩
    rw [hn, hm] at z3; cases z3
   ·rw [huse b hb] at hm; cases hm
   ·rw [z2 m ht] at hm; cases hm
 ·intro m hm
  simp only [not_or] at hm
  exact ⟨by rw [hh', if_neg hm.1, if_neg hm.2.1, if_neg hm.2.2], by rw [if_neg hm.1, if_neg hm.2.1]⟩
 ·intro b hb hT
  exact hsameI b hb (hT i _ (.inl rfl) hid)
 ·intro m B ht hB
  rw [hh'] at hB
  by_cases c1 : m = i
  ·rw [if_pos c1] at hB
   cases hB
   subst c1
   refine ⟨fun hk => ?_, ⟨h.nheap _ _ hid, hxn.1, trivial⟩, ?_, ?_⟩
   ·refine ⟨?_, a.eval x, ⟨p, n, c, by simp only [if_true]; exact h1, by simp only [if_true]; exact List.mem_append_left _ (by simp [hov]), h3, h4, (cell_congr (hstayF _ (List.mem_append_left _ (by simp [hov]))) _).trans h5⟩, trivial⟩
    refine OwnA_iff.2 ⟨ov, xs, Fs.set (Int.toNat (den ix r)) F1, ?_, by simp, ?_⟩
    ·simp only [if_true]
     exact b1.keep fun b hb => hstayF b (List.mem_append_left _ (by simp [hb]))
    ·refine ⟨by simp [b3.lf], b3.lx, fun m hm => ?_⟩
     by_cases hmi : m = Int.toNat (den ix r)
     ·subst hmi
      refine ⟨us, a1, a2, ?_⟩
      have e1 : (Fs.set (Int.toNat (den ix r)) F1).getD (Int.toNat (den ix r)) [] = F1 := by simp [List.getD_eq_getElem?_getD, List.getElem?_set, hlf]
      rw [e1, ← hd]
      simp only [Row, if_true]
      exact q4.keep fun b hb => hstayF b (List.mem_append_right _ (List.mem_flatten.2 ⟨F1, List.mem_iff_getElem.2 ⟨Int.toNat (den ix r), by simpa using hlf, by simp⟩, hb⟩))
     ·obtain ⟨us', g1, g2, g3⟩ := b3.row m hm
      refine ⟨us', g1, g2, ?_⟩
      have e1 : (Fs.set (Int.toNat (den ix r)) F1).getD m [] = Fs.getD m [] := by simp [List.getD_eq_getElem?_getD, List.getElem?_set, Ne.symm hmi]
      rw [e1]
      simp only [Row, if_true] at g3
      simp only [Row, if_true, if_neg hmi]
      refine g3.keep fun b hb => hstayF b (List.mem_append_right _ ?_)
      rw [← e1] at hb
      exact getD_mem_flatten hb
   ·simp only [if_true]
    exact foot_nodup n1 (flatten_set_nodup n2 p2 fun b hb => .inl (hF1sub b hb)) fun b hb hb' => n3 b hb b (hBsub b hb') rfl
   ·intro b hb
    simp only [if_true] at hb
    refine .inr ⟨m, _, .inl rfl, hid, ?_⟩
    rw [b2]
    rcases List.mem_append.1 hb with q | q
    ·exact List.mem_append_left _ q
    ·exact List.mem_append_right _ (hBsub b q)
  ·rw [if_neg c1] at hB
   by_cases c2 : m = id
   ·rw [if_pos c2] at hB
    cases hB
    subst c2
    refine ⟨fun hk => ?_, ⟨q6 hevs, he2⟩, ?_, ?_⟩
    ·refine OwnA_iff.2 ⟨o', zs ++ ys, Hs ++ Gs, ?_, by simp [c1], ?_⟩
     ·simp only [if_neg c1, if_true, den_app, List.length_append]
      exact hown'
     ·rw [den_app]
      exact Rws.append (hq3.keep hk fun b hb => hstayHG b (List.mem_append_left _ hb)) (hyr.keep hk fun b hb => hstayHG b (List.mem_append_right _ hb))
    ·simp only [if_neg c1, if_true]
     refine foot_nodup ?_ (foot_nodup (List.nodup_append.1 p1).2.1 hGnd hHG) ho'not
     cases o' <;> simp
    ·intro b hb
     simp only [if_neg c1, if_true] at hb
     rcases List.mem_append.1 hb with q | q
     ·rcases ho'F b q with z | z
      ·exact .inr ⟨i, _, .inl rfl, hid, by rw [b2]; exact List.mem_append_right _ (hFsub _ (hAsub b (List.mem_append_left _ (by simp [z]))))⟩
      ·exact .inl z
     ·rcases List.mem_append.1 q with q | q
      ·exact .inr ⟨i, _, .inl rfl, hid, by rw [b2]; exact List.mem_append_right _ (hFsub _ (hAsub b (List.mem_append_right _ q)))⟩
      ·obtain ⟨kk, C, hk1, _, _, hC, _, hbk⟩ := hmf b q
       exact .inr ⟨kk, C, .inr (.inr hk1), hC, hbk⟩
   ·rw [if_neg c2] at hB
    rcases ht with ht | ht | ht
    ·exact absurd ht c1
    ·exact absurd ht c2
    ·rw [if_pos ht] at hB; cases hB
 ·have hlive : ∀ m B, (m = i ∨ m = id ∨ m ∈ mv) → upd (upd (fun m => bif mv.contains m then none else (s.heap m).map (Blk.map fun a => nstA i (killsA mv a))) id (some (.arr u.hasSl u (.o2 (.app u) l e2)))) i (some (.hole t' e k ix j .no)) m = some B → m = i ∨ m = id := by
   intro m B ht hB
   rw [hh'] at hB
   by_cases c1 : m = i
   ·exact .inl c1
   ·by_cases c2 : m = id
    ·exact .inr c2
    ·rcases ht with ht | ht | ht
     ·exact absurd ht c1
     ·exact absurd ht c2
     ·rw [if_neg c1, if_neg c2, if_pos ht] at hB; cases hB
  have cross : ∀ b, b ∈ ov.toList ++ (Fs.set (Int.toNat (den ix r)) F1).flatten → b ∈ o'.toList ++ (Hs.flatten ++ Gs.flatten) → False := by
   intro b hb hb'
   have hbi : b ∈ (g i).foot := by
    rw [b2]
    rcases List.mem_append.1 hb with q | q
    ·exact List.mem_append_left _ q
    ·exact List.mem_append_right _ (hBsub b q)
   have hA : b ∈ oo.toList ++ Hs.flatten → False := by
    intro hA
    rcases List.mem_append.1 hb with q | q
    ·exact n3 b q b (hFsub _ (hAsub b hA)) rfl
    ·exact hAnot b hA q
   rcases List.mem_append.1 hb' with q | q
   ·rcases ho'F b q with z | z
    ·exact hA (List.mem_append_left _ (by simp [z]))
    ·have := hltI b hbi; omega
   ·rcases List.mem_append.1 q with q | q
    ·exact hA (List.mem_append_right _ q)
    ·exact (hGsub b q).1 hbi
  intro m m' B C b hm hm' hB hC hb hb'
  rcases hlive m B hm hB with z | z <;> rcases hlive m' C hm' hC with z' | z'
  ·rw [z, z']
  ·subst z; subst z'
   simp only [if_true] at hb
   simp only [if_neg (Ne.symm hii), if_true] at hb'
   exact (cross b hb hb').elim
  ·subst z; subst z'
   simp only [if_true] at hb'
   simp only [if_neg (Ne.symm hii), if_true] at hb
   exact (cross b hb' hb).elim
  ·rw [z, z']
 ·intro c hc ht
  exfalso
  obtain ⟨_, l', hl'⟩ := h.kpl c hc
  rcases ht with ht | ht | ht
  ·rw [ht, hid] at hl'; cases hl'
  ·rw [ht, hfid] at hl'; cases hl'
  ·obtain ⟨_, _, B, hB, hbx⟩ := hmv2 _ ht
   rw [hB] at hl'; cases hl'; exact hbx l' rfl
 ·intro m hm ht
  by_cases hmi : m = i
  ·subst hmi; simp
  ·have : m ≠ id := by omega
   simp [hmi, this]
end
end Go.Sm
namespace Go.Sm
set_option linter.unusedVariables false
set_option linter.unusedSimpArgs false
section
variable {P : Program} {bd : Bd} {N : Nat → Prop} {s : St} {r : Env} {g : Nat → G} {st : List (Array Value)} {w : World} {a : Act}
theorem set_same {α : Type} : ∀ {l : List α} {j : Nat} {v : α}, l[j]? = some v → l.set j v = l
 | [], _, _, h => by simp at h
 | x :: l, 0, v, h => by simp at h; simp [h]
 | x :: l, j + 1, v, h => by simp at h; simp [set_same h]
theorem getD_cur {t : Nat} {b : Atom} (h : s.cur.getD t (.a .no) = .a b) : s.get (.tmp t) = .a b := h
theorem setIf_same {tm : Array Value} {t : Nat} : tm.setIfInBounds t (tm.getD t undef) = tm := by
 apply Array.ext'
 rw [Array.toList_setIfInBounds]
 by_cases h : t < tm.size
 ·apply set_same
  simp [Array.getD, h]
 ·exact List.set_eq_of_length_le (by simpa using h)
set_option maxHeartbeats 2000000 in
theorem lend_ok (h : R bd N s r g a.tmps st w) {t n i : Nat} {s1 : St} (hs : lend s t n = some (i, s1)) : ∃ g1, R bd N s1 r g1 a.tmps st w := by
 unfold lend at hs
 split at hs
 case h_2 => cases hs
 rename_i i0 t0 k ix j hx
 split at hs
 case h_2 => cases hs
 rename_i t' e hid
 split at hs
 case isFalse => cases hs
 rename_i htt
 subst htt
 split at hs
 case h_2 => cases hs
 rename_i u l hpr
 split at hs
 case isFalse => cases hs
 rename_i hfr
 simp only [Option.some.injEq, Prod.mk.injEq] at hs
 obtain ⟨rfl, rfl⟩ := hs
 obtain ⟨hfid, hnp⟩ := free_eq hfr
 obtain ⟨hxv, hxn⟩ := get_a h (getD_cur hx)
 obtain ⟨p, n', c, h1, h2, h3, h4, h5⟩ := hxv
 obtain ⟨ov, xs, Fs, b1, b2, b3⟩ := OwnA_iff.1 (h.heap i0 _ hid)
 have hn0 : 0 < n' := Nat.lt_of_le_of_lt (Nat.zero_le _) h4
 obtain ⟨hov, hps, hnn, _, hcell⟩ := b1.cells h1 hn0
 have hlt : Int.toNat (den ix r) < (den e r : List t'.D).length := by rw [← hnn]; exact h4
 obtain ⟨us, a1, a2, a3⟩ := b3.row _ hlt
 simp only [Row, if_true] at a3
 have hd : den (.o2 (.idx false t' k) e ix) r = (den e r : List t'.D)[Int.toNat (den ix r)] := by rw [den_idx]; exact getD_of_lt hlt
 rw [← hd] at a3
 obtain ⟨vv, oo, zs, Hs, F1, q1, q2, q3, q4, q5, q6⟩ := nest_take (N := N) (M := Mt bd.Z s.heap g) hpr a3
 have hvv : vv = a.eval (.tmp t) := by
  have hcv := hcell (Int.toNat (den ix r) * t'.size + j) vv (a2 j vv q1)
  rw [hcv] at h5
  exact Option.some.inj h5
 have hevs : (E.o2 (.idx false t' k) e ix).vs N := ⟨h.nheap i0 _ hid, hxn.1⟩
 have hq3 := q3.undeep
 have hii : i0 ≠ n := by rintro rfl; rw [hfid] at hid; cases hid
 have hnd := h.nodup i0 _ hid
 rw [b2] at hnd
 obtain ⟨n1, n2, n3⟩ := List.nodup_append.1 hnd
 have hlf : Int.toNat (den ix r) < Fs.length := by rw [b3.lf]; exact hlt
 have hFsub : ∀ b ∈ Fs.getD (Int.toNat (den ix r)) [], b ∈ Fs.flatten := fun b hb => getD_mem_flatten hb
 have hFnd : (Fs.getD (Int.toNat (den ix r)) []).Nodup := by
  rw [getD_of_lt hlf]
  exact List.Nodup.sublist (List.sublist_flatten_of_mem (List.getElem_mem hlf)) n2
 have hPnd := q5.nodup_iff.1 hFnd
 have hPmem : ∀ b, b ∈ oo.toList ++ Hs.flatten ++ F1 ↔ b ∈ Fs.getD (Int.toNat (den ix r)) [] := fun b => q5.symm.mem_iff
 obtain ⟨p1, p2, p3⟩ := List.nodup_append.1 hPnd
 have hF1sub : ∀ b ∈ F1, b ∈ Fs.getD (Int.toNat (den ix r)) [] := fun b hb => (hPmem b).1 (List.mem_append_right _ hb)
 have hAsub : ∀ b ∈ oo.toList ++ Hs.flatten, b ∈ Fs.getD (Int.toNat (den ix r)) [] := fun b hb => (hPmem b).1 (List.mem_append_left _ hb)
 have hAnot : ∀ b ∈ oo.toList ++ Hs.flatten, b ∉ (Fs.set (Int.toNat (den ix r)) F1).flatten := fun b hb => flatten_set_not n2 (hAsub b hb) fun hb' => p3 b hb b hb' rfl
 have hBsub : ∀ b ∈ (Fs.set (Int.toNat (den ix r)) F1).flatten, b ∈ Fs.flatten := fun b hb => by
  rcases flatten_set_mem hb with q | q
  ·exact q
  ·exact hFsub b (hF1sub b q)
 have hh' : ∀ m, upd (upd (s.unnest i0).heap n (some (.arr u.hasSl u l))) i0 (some (.hole t' e k ix j (.ref n))) m =
   if m = i0 then some (.hole t' e k ix j (.ref n)) else if m = n then some (.arr u.hasSl u l) else (s.heap m).map (Blk.map (nstA i0)) := by
  intro m
  by_cases c1 : m = i0
  ·subst c1; simp [upd]
  ·have c1' : (m == i0) = false := by simpa using c1
   rw [if_neg c1]
   simp only [upd, c1', cond_false]
   by_cases c2 : m = n
   ·rw [if_pos c2, c2, beq_self_eq_true, cond_true]
   ·have c2' : (m == n) = false := by simpa using c2
    rw [if_neg c2, c2', cond_false]
    rfl
 have huse : ∀ a : Atom, a.ok N s.heap → a.uses n = false := by
  intro a ha
  cases hu : a.uses n with
  | false => rfl
  | true => have := ha.live hu; rw [hfid] at this; cases this
 have main := h.replace (w' := w) (g' := fun m => if m = i0 then ⟨(g i0).blk, (g i0).val, ov.toList ++ (Fs.set (Int.toNat (den ix r)) F1).flatten⟩ else if m = n then ⟨0, vv, oo.toList ++ Hs.flatten⟩ else g m) (nstA i0)
  (upd (upd (s.unnest i0).heap n (some (.arr u.hasSl u l))) i0 (some (.hole t' e k ix j (.ref n)))) s.base (fun m => m = i0 ∨ m = n) ?_ ?_ (fun _ _ _ => rfl) ?_ ?_ (Nat.le_refl _) rfl rfl rfl ?_ ?_
 ·refine ⟨(fun m => if m = i0 then ⟨(g i0).blk, (g i0).val, ov.toList ++ (Fs.set (Int.toNat (den ix r)) F1).flatten⟩ else if m = n then ⟨0, vv, oo.toList ++ Hs.flatten⟩ else g m), ?_⟩
  have hput := R.put (w := w) main.1 (d := t) (sv := .a (.ref n)) (v := vv) (by simp [SRep, ARep, Ne.symm hii]) (by
   show (upd _ i0 _ n).isSome = true
   rw [hh', if_neg (Ne.symm hii), if_pos rfl]; rfl)
  have e0 : a.tmps.setIfInBounds t vv = a.tmps := by rw [hvv]; exact setIf_same
  rw [e0] at hput
  exact hput
 ·intro b hb
  rcases nstA_or i0 b with z3 | ⟨z3, z4⟩
  ·exact .inl z3
  ·refine .inr ⟨z3, fun m hm ht => ?_⟩
   rcases ht with rfl | rfl
   ·refine ⟨by rw [hh']; simp, by simp, by simp, fun hn => ?_⟩
    rw [hn, hm] at z4; cases z4
   ·rw [huse b hb] at hm; cases hm
 ·intro m hm
  simp only [not_or] at hm
  exact ⟨by rw [hh', if_neg hm.1, if_neg hm.2], by rw [if_neg hm.1, if_neg hm.2]⟩
 ·intro m B ht hB
  rw [hh'] at hB
  by_cases c1 : m = i0
  ·rw [if_pos c1] at hB
   cases hB
   subst c1
   refine ⟨fun hk => ⟨?_, vv, ⟨p, n', c, by simp only [if_true]; exact h1, by simp only [if_true]; exact List.mem_append_left _ (by simp [hov]), h3, h4, by rw [hvv]; exact h5⟩, by simp [ARep, Ne.symm hii]⟩, ⟨h.nheap _ _ hid, hxn.1, ?_⟩, ?_, ?_⟩
   ·refine OwnA_iff.2 ⟨ov, xs, Fs.set (Int.toNat (den ix r)) F1, by simp only [if_true]; exact b1, by simp, ?_⟩
    refine ⟨by simp [b3.lf], b3.lx, fun m hm => ?_⟩
    by_cases hmi : m = Int.toNat (den ix r)
    ·subst hmi
     refine ⟨us, a1, a2, ?_⟩
     have e1 : (Fs.set (Int.toNat (den ix r)) F1).getD (Int.toNat (den ix r)) [] = F1 := by simp [List.getD_eq_getElem?_getD, List.getElem?_set, hlf]
     rw [e1, ← hd]
     simp only [Row, if_true]
     exact q4
    ·obtain ⟨us', g1, g2, g3⟩ := b3.row m hm
     refine ⟨us', g1, g2, ?_⟩
     have e1 : (Fs.set (Int.toNat (den ix r)) F1).getD m [] = Fs.getD m [] := by simp [List.getD_eq_getElem?_getD, List.getElem?_set, Ne.symm hmi]
     rw [e1]
     simp only [Row, if_true] at g3
     simp only [Row, if_true, if_neg hmi]
     exact g3
   ·show (upd _ m _ n).isSome = true
    rw [hh', if_neg (Ne.symm hii), if_pos rfl]; rfl
   ·simp only [if_true]
    exact foot_nodup n1 (flatten_set_nodup n2 p2 fun b hb => .inl (hF1sub b hb)) fun b hb hb' => n3 b hb b (hBsub b hb') rfl
   ·intro b hb
    simp only [if_true] at hb
    refine .inr ⟨m, _, .inl rfl, hid, ?_⟩
    rw [b2]
    rcases List.mem_append.1 hb with q | q
    ·exact List.mem_append_left _ q
    ·exact List.mem_append_right _ (hBsub b q)
  ·rw [if_neg c1] at hB
   by_cases c2 : m = n
   ·rw [if_pos c2] at hB
    cases hB
    subst c2
    refine ⟨fun hk => ?_, q6 hevs, ?_, ?_⟩
    ·refine OwnA_iff.2 ⟨oo, zs, Hs, ?_, by simp [c1], ?_⟩
     ·simp only [if_neg c1, if_true]; exact q2
     ·exact hq3.keep hk fun b hb => rfl
    ·simp only [if_neg c1, if_true]; exact p1
    ·intro b hb
     simp only [if_neg c1, if_true] at hb
     exact .inr ⟨i0, _, .inl rfl, hid, by rw [b2]; exact List.mem_append_right _ (hFsub _ (hAsub b hb))⟩
   ·rcases ht with ht | ht
    ·exact absurd ht c1
    ·exact absurd ht c2
 ·have cross : ∀ b, b ∈ ov.toList ++ (Fs.set (Int.toNat (den ix r)) F1).flatten → b ∈ oo.toList ++ Hs.flatten → False := by
   intro b hb hb'
   rcases List.mem_append.1 hb with q | q
   ·exact n3 b q b (hFsub _ (hAsub b hb')) rfl
   ·exact hAnot b hb' q
  intro m m' B C b hm hm' hB hC hb hb'
  rcases hm with z | z <;> rcases hm' with z' | z'
  ·rw [z, z']
  ·subst z; subst z'
   simp only [if_true] at hb
   simp only [if_neg (Ne.symm hii), if_true] at hb'
   exact (cross b hb hb').elim
  ·subst z; subst z'
   simp only [if_true] at hb'
   simp only [if_neg (Ne.symm hii), if_true] at hb
   exact (cross b hb' hb).elim
  ·rw [z, z']
 ·intro c hc ht
  exfalso
  obtain ⟨_, l', hl'⟩ := h.kpl c hc
  rcases ht with ht | ht
  ·rw [ht, hid] at hl'; cases hl'
  ·rw [ht, hfid] at hl'; cases hl'
 ·intro m hm ht
  by_cases hmi : m = i0
  ·subst hmi; simp
  ·have : m ≠ n := by omega
   simp [hmi, this]
theorem unlend_ok (h : R bd N s r g a.tmps st w) {n i : Nat} {s1 : St} (hs : unlend s i n = some s1) : ∃ g1, R bd N s1 r g1 a.tmps st w := by
 unfold unlend at hs
 split at hs
 case h_2 => cases hs
 rename_i t e k ix j n' hid
 split at hs
 case h_2 => cases hs
 rename_i mv hmv
 split at hs
 case isFalse => cases hs
 rename_i hc
 obtain ⟨rfl, him⟩ := hc
 split at hs
 case h_2 => cases hs
 rename_i row hput
 cases hs
 obtain ⟨hB, v, ⟨p, n0, c, h1, h2, h3, h4, h5⟩, hav⟩ := h.heap i _ hid
 obtain ⟨he, hix, hao⟩ := h.nheap i _ hid
 obtain ⟨ov, xs, Fs, b1, b2, b3⟩ := OwnA_iff.1 hB
 have hn0 : 0 < n0 := Nat.lt_of_le_of_lt (Nat.zero_le _) h4
 obtain ⟨hov, hps, hnn, _, hcell⟩ := b1.cells h1 hn0
 have hlt : Int.toNat (den ix r) < (den e r : List t.D).length := by rw [← hnn]; exact h4
 obtain ⟨us, a1, a2, a3⟩ := b3.row _ hlt
 simp only [Row, if_true] at a3
 have hd : den (.o2 (.idx false t k) e ix) r = (den e r : List t.D)[Int.toNat (den ix r)] := by rw [den_idx]; exact getD_of_lt hlt
 rw [← hd] at a3
 obtain ⟨F', q1, q2, q3, q4, q5⟩ := putCell_drep h hput (ho := some j) (.inr rfl) hav hao ⟨he, hix⟩ hmv a3
 have husj : us[j]? = some v := by
  obtain ⟨x, hx⟩ : ∃ x, us[j]? = some x := ⟨us[j], List.getElem?_eq_getElem q1⟩
  have := hcell _ _ (a2 j x hx)
  rw [this] at h5
  rw [hx, ← Option.some.inj h5]
 rw [set_same husj] at q2
 obtain ⟨j1, j2⟩ := movable_arr hmv
 have himm : i ∉ mv := by simpa using him
 have hnd := h.nodup i _ hid
 rw [b2] at hnd
 obtain ⟨n1, n2, n3⟩ := List.nodup_append.1 hnd
 have hfm : ∀ b ∈ (g i).foot, b ∉ feet g mv := by
  intro b hb hb'
  obtain ⟨k, hk, hbk⟩ := List.mem_flatMap.1 hb'
  obtain ⟨_, _, _, q⟩ := j2 k hk
  have := h.inj i k _ _ b hid q hb hbk
  subst this
  exact himm hk
 have hfeetnd : (feet g mv).Nodup := feet_nodup h j1 fun i hi => by obtain ⟨_, _, _, q⟩ := j2 i hi; exact ⟨_, q⟩
 have hgetnd : (Fs.getD (Int.toNat (den ix r)) []).Nodup := by
  by_cases hlf : Int.toNat (den ix r) < Fs.length
  ·rw [getD_of_lt hlf]
   exact List.Nodup.sublist (List.sublist_flatten_of_mem (List.getElem_mem hlf)) n2
  ·rw [List.getD_eq_getElem?_getD, List.getElem?_eq_none (by omega)]; exact List.nodup_nil
 have hF'nd : F'.Nodup := q5 hgetnd hfeetnd fun b hb => hfm b (by rw [b2]; exact List.mem_append_right _ (getD_mem_flatten hb))
 have hnewflat : ∀ b ∈ (Fs.set (Int.toNat (den ix r)) F').flatten, b ∈ Fs.flatten ∨ b ∈ feet g mv := by
  intro b hb
  rcases flatten_set_mem hb with q | q
  ·exact .inl q
  ·rcases q4 b q with q | q
   ·exact .inl (getD_mem_flatten q)
   ·exact .inr q
 have hdn : (den (.o3 (.set t k) e ix row) r : List t.D) = (den e r : List t.D).set (Int.toNat (den ix r)) (den row r) := den_set e ix row
 refine ⟨_, h.poked (w' := w) mv i _ (.arr true t (.o3 (.set t k) e ix row)) ⟨(g i).blk, (g i).val, ov.toList ++ (Fs.set (Int.toNat (den ix r)) F').flatten⟩ hid himm rfl rfl (fun k hk l hl => by obtain ⟨_, _, _, q⟩ := j2 k hk; rw [q] at hl; cases hl) (fun b _ _ _ => rfl) ?_ ⟨he, hix, q3⟩ ?_ ?_ ?_ (Nat.le_refl _) rfl rfl rfl⟩
 ·intro M' hk _
  refine OwnA_iff.2 ⟨ov, xs, Fs.set (Int.toNat (den ix r)) F', ?_, ?_, ?_⟩
  ·simp only [if_true]
   rw [hdn, List.length_set]
   exact b1
  ·simp only [if_true]
  ·rw [hdn]
   have hsp : splice us j [v] = us := by rw [splice_one q1, set_same husj]
   have hlx := b3.lx
   have hle : (Int.toNat (den ix r) + 1) * t.size ≤ (den e r : List t.D).length * t.size := Nat.mul_le_mul_right _ hlt
   rw [Nat.add_mul, Nat.one_mul] at hle
   have hput2 := b3.put (ho' := noHo) (d := den row r) (F := F') (vs := [v]) (j := j) hlt a1 a2 (by simp; omega) (by simp only [noHo, Row, if_true]; rw [hsp]; exact q2) (fun i hi => by simp [noHo, hi])
   rw [splice_one (by omega), set_same (a2 j v husj)] at hput2
   exact Rws.keep hk (fun b hb => rfl) hput2
 ·refine foot_nodup n1 (flatten_set_nodup n2 hF'nd fun b hb => ?_) fun b hb hb' => ?_
  ·rcases q4 b hb with q | q
   ·exact .inl q
   ·exact .inr fun hh => hfm b (by rw [b2]; exact List.mem_append_right _ hh) q
  ·rcases hnewflat b hb' with q | q
   ·exact n3 b hb b q rfl
   ·exact hfm b (by rw [b2]; exact List.mem_append_left _ hb) q
 ·intro b hb
  rcases List.mem_append.1 hb with hb | hb
  ·exact .inr (.inl (by rw [b2]; exact List.mem_append_left _ hb))
  ·rcases hnewflat b hb with q | q
   ·exact .inr (.inl (by rw [b2]; exact List.mem_append_right _ q))
   ·obtain ⟨k, hk, hbk⟩ := List.mem_flatMap.1 q
    obtain ⟨_, _, _, q⟩ := j2 k hk
    exact .inr (.inr ⟨k, _, hk, q, hbk⟩)
 ·intro c hc hcid
  obtain ⟨_, l, hl⟩ := h.kpl c hc
  rw [hcid, hid] at hl
  cases hl
end
end Go.Sm
namespace Go.Sm
set_option linter.unusedVariables false
set_option linter.unusedSimpArgs false
section
variable {P : Program} {bd : Bd} {N : Nat → Prop} {s : St} {r : Env} {g : Nat → G} {st : List (Array Value)} {w : World} {a : Act}
theorem good_append (h0 : R bd N s r g a.tmps st w) {frz : Bool} {id : Nat} {t t2 : TypeId} {ts : Array TypeId} {x y : Operand} (o : Oper) (ho : o.op = .call { callee := .builtin .append, args := #[x, y], argTypes := ts }) (hts : ts = #[t, t2]) (ht2 : isSliceT P t2 = true)
  {gs : List (E .bool)} {sv : SV} {s' : St} (hs : symAppend P frz s id t x y = some (gs, sv, s')) (hg : ∀ c ∈ gs, den c r = true) : Good P bd N r st (execOp a.eval o) a.tmps w sv s' := by
 unfold symAppend at hs
 split at hs
 case h_2 => cases hs
 rename_i ty hel
 obtain ⟨g1, h⟩ := appPre_R h0 frz ty x y
 generalize appPre frz s ty x y = s1 at hs h
 unfold appTo at hs
 split at hs
 ·rename_i i hx; exact good_appRef h o ho hts ht2 hel hx hs hg
 ·rename_i hx
  have hv := (atom_rep h x).1
  rw [hx] at hv
  exact good_appNil h o ho hts ht2 hel hv hs hg
 ·rename_i ty' e1 hx
  split at hs
  case isFalse => cases hs
  rename_i hty
  subst hty
  exact good_appXc h o ho hts ht2 hel hx hs hg
 ·rename_i i t0 k ix j hx; exact good_appNref h o ho hts ht2 hel hx hs hg
 ·cases hs
theorem arr1 {α : Type} {l : Array α} {x : α} (h : l.toList = [x]) : l = #[x] := by
 apply Array.ext'; simpa using h
theorem arr2 {α : Type} {l : Array α} {x y : α} (h : l.toList = [x, y]) : l = #[x, y] := by
 apply Array.ext'; simpa using h
theorem both {sem : Sem Next} {tm : Array Value} {sv : SV} {s' : St} {op : Op} {ld : Bool} (h : GoodP P bd N r st ld sem tm w sv s') (hk : pureKind op = some ld) :
  Good P bd N r st sem tm w sv s' ∧ ∀ l, pureKind op = some l → GoodP P bd N r st l sem tm w sv s' :=
 ⟨h.good, fun l e => by rw [hk] at e; cases e; exact h⟩
theorem oth {sem : Sem Next} {tm : Array Value} {sv : SV} {s' : St} {op : Op} (h : Good P bd N r st sem tm w sv s') (hk : pureKind op = none) :
  Good P bd N r st sem tm w sv s' ∧ ∀ l, pureKind op = some l → GoodP P bd N r st l sem tm w sv s' :=
 ⟨h, fun l e => by rw [hk] at e; cases e⟩
theorem good_op2 (h : R bd N s r g a.tmps st w) {frz : Bool} {id : Nat} (o : Oper) {gs : List (E .bool)} {sv : SV} {s' : St} (hs : symOp P frz s id o.op = some (gs, sv, s')) (hg : ∀ c ∈ gs, den c r = true) :
  Good P bd N r st (execOp a.eval o) a.tmps w sv s' ∧ ∀ l, pureKind o.op = some l → GoodP P bd N r st l (execOp a.eval o) a.tmps w sv s' := by
 generalize hop : o.op = op at hs ⊢
 cases op with
 | move x => obtain ⟨-, rfl, rfl⟩ := one_eq hs; exact both (good_move h x o (.inl hop)) (by rfl)
 | assign x => obtain ⟨-, rfl, rfl⟩ := one_eq hs; exact both (good_move h x o (.inr hop)) (by rfl)
 | pick c x y => exact both (good_pick h hs o hop) (by rfl)
 | alloc t => exact oth (good_alloc h o hop hs) (by rfl)
 | box t v => exact oth (good_box h o hop hs) (by rfl)
 | build t ps => exact both (good_build h o hop hs) (by rfl)
 | buildSlice t n ps => exact oth (good_buildSlice h o hop hs) (by rfl)
 | load t x => exact both (good_load h o hop hs) (by rfl)
 | store t x v => exact oth (good_store h o hop hs hg) (by rfl)
 | nilCheck x => exact both (good_nilCheck h o hop hs) (by rfl)
 | binOp b t x y ty =>
  simp only [symOp] at hs
  split at hs
  ·rename_i p q hx hy
   split at hs
   ·rename_i pr hnc
    obtain ⟨gs', sv'⟩ := pr
    simp only [Option.some.injEq, Prod.mk.injEq] at hs
    obtain ⟨rfl, rfl, rfl⟩ := hs
    exact both (good_nilCmp h o hop hx hy hnc hg) (by rfl)
   split at hs
   case isFalse => cases hs
   rename_i hok
   obtain ⟨⟨gs', sv'⟩, hb, h1⟩ := Option.map_eq_some_iff.1 hs
   simp only [Prod.mk.injEq] at h1
   obtain ⟨rfl, rfl, rfl⟩ := h1
   exact both (good_binOp h o hop hx hy hok hb hg) (by rfl)
  ·rename_i l m hx hy
   split at hs
   ·cases hs
   rename_i hc
   simp only [Bool.or_eq_true, Bool.not_eq_true', not_or, Bool.not_eq_true, Bool.not_eq_false] at hc
   split at hs
   ·obtain ⟨e, he, h1⟩ := Option.map_eq_some_iff.1 hs
    simp only [Prod.mk.injEq] at h1
    obtain ⟨rfl, rfl, rfl⟩ := h1
    exact both (good_structEq h (neq := false) o hop hx hy hc.1 hc.2 he) (by rfl)
   ·obtain ⟨e, he, h1⟩ := Option.map_eq_some_iff.1 hs
    simp only [Prod.mk.injEq] at h1
    obtain ⟨rfl, rfl, rfl⟩ := h1
    exact both (good_structEq h (neq := true) o hop hx hy hc.1 hc.2 he) (by rfl)
   ·cases hs
  ·cases hs
 | unOp u t x => exact both (good_un h o hop hs) (by rfl)
 | convert t d x => exact both (good_conv h o hop hs) (by rfl)
 | makeFunc f first caps =>
  simp only [symOp] at hs
  cases f with
  | func f =>
   simp only [] at hs
   split at hs
   case isFalse => cases hs
   rename_i hfs
   obtain ⟨l, hl, h1⟩ := Option.bind_eq_some_iff.1 hs
   obtain ⟨-, rfl, rfl⟩ := one_eq h1
   exact both (good_makeFunc h o hop hfs hl) (by rfl)
  | _ => cases hs
 | makeSlice t l c => exact oth (good_make h o hop hs hg) (by rfl)
 | slice t x lo hi mx => exact oth (good_slice h o hop hs hg) (by rfl)
 | fieldAddr t x f => exact both (good_fieldAddr h o hop hs) (by rfl)
 | indexAddr t x i => exact both (good_indexAddr h o hop hs hg) (by rfl)
 | index t x i =>
  simp only [symOp] at hs
  split at hs
  ·rename_i e k n ht hx hix
   simp only [Option.some.injEq, Prod.mk.injEq] at hs
   obtain ⟨rfl, rfl, rfl⟩ := hs
   exact both (good_index (gs := []) (sv := .a .no) (s' := s) h o hop ht hx hix (hg _ (by simp)) (hg _ (by simp))) (by rfl)
  ·cases hs
 | field t x f => exact both (good_field h o hop hs) (by rfl)
 | extract t i => exact both (good_extract h o hop hs) (by rfl)
 | call c =>
  obtain ⟨callee, args, ts⟩ := c
  cases callee with
  | builtin b =>
   simp only [symOp] at hs
   split at hs
   ·rename_i x t hargs hts
    rw [arr1 hargs] at hop
    split at hs
    case isFalse => cases hs
    rename_i hok
    obtain ⟨e, he, h1⟩ := Option.bind_eq_some_iff.1 hs
    obtain ⟨-, rfl, rfl⟩ := one_eq h1
    exact both (good_len h (t := t) (ty := t) o hop hts he hok) (by rfl)
   ·rename_i x y t hargs hts
    rw [arr2 hargs] at hop
    split at hs
    ·rename_i t2 ht2
     split at hs
     case isFalse => cases hs
     rename_i hsl
     exact oth (good_append h o hop (ts_eq hts ht2 hsl.2) hsl.1 hs hg) (by rfl)
    ·cases hs
   ·rename_i x y t hargs hts
    rw [arr2 hargs] at hop
    exact oth (good_copy h o hop hts hs) (by rfl)
   ·exact both (good_mm h (mx := true) o hop hs) (by rfl)
   ·exact both (good_mm h (mx := false) o hop hs) (by rfl)
   ·cases hs
  | _ => cases hs
 | _ => cases hs
theorem good_op (h : R bd N s r g a.tmps st w) {frz : Bool} {id : Nat} (o : Oper) {gs : List (E .bool)} {sv : SV} {s' : St} (hs : symOp P frz s id o.op = some (gs, sv, s')) (hg : ∀ c ∈ gs, den c r = true) :
  Good P bd N r st (execOp a.eval o) a.tmps w sv s' := (good_op2 h o hs hg).1
theorem good_pure (h : R bd N s r g a.tmps st w) {frz : Bool} {id : Nat} (o : Oper) {gs : List (E .bool)} {sv : SV} {s' : St} (hs : symOp P frz s id o.op = some (gs, sv, s')) (hg : ∀ c ∈ gs, den c r = true) {ld : Bool} (hk : pureKind o.op = some ld) :
  GoodP P bd N r st ld (execOp a.eval o) a.tmps w sv s' := (good_op2 h o hs hg).2 ld hk
end
end Go.Sm
namespace Go.Sm
set_option linter.unusedVariables false
set_option linter.unusedSimpArgs false
theorem Ext.trans {w w' w'' : World} (h : Ext w w') (h' : Ext w' w'') : Ext w w'' := by
 intro b hb
 have h1 := h b hb
 have hb' : b < w'.heap.size := by
  rcases Nat.lt_or_ge b w'.heap.size with h2 | h2
  ·exact h2
  ·rw [Array.getElem?_eq_none h2, Array.getElem?_eq_getElem hb] at h1; cases h1
 rw [h' b hb', h1]
theorem Ext.refl (w : World) : Ext w w := fun _ _ => rfl
section
variable {P : Program} {ops : Array Oper} {Q : Exit → Act → World → Prop}
def YieldsL (P : Program) (ops : Array Oper) (ld : Bool) (w : World) (o : Oper) (v : Value) (a : Act) : Prop :=
 (Region.wanted o (yielded ops a.tmps) = true ∧ ∀ w2, (ld = true → Ext w w2) → (execOp a.eval o).run P w2 = .ok (.value v) w2) ∨
 (Region.wanted o (yielded ops a.tmps) = false ∧ v = undef)
theorem YieldsL.wpOp {ld : Bool} {i : Nat} {o : Oper} {v : Value} {a : Act} {w : World} (hi : ops[i]? = some o) (hy : YieldsL P ops ld w o v a)
  {K : Act → World → Prop} (h : K (a.put o.dst v) w) : wpOp P ops Q i K a w := by
 unfold Go.wpOp
 simp only [hi]
 rcases hy with ⟨hw, hv⟩ | ⟨hw, rfl⟩
 ·simp only [hw, if_true, Oper.wp, hv w (fun _ => Ext.refl w), Oper.upon]; exact .inl h
 ·simp only [hw, Bool.false_eq_true, if_false]; exact h
theorem YieldsL.of_same {ld : Bool} {w : World} {o : Oper} {v : Value} {a a' : Act} (hy : YieldsL P ops ld w o v a) (he : execOp a'.eval o = execOp a.eval o)
  (hw : Region.wanted o (yielded ops a'.tmps) = Region.wanted o (yielded ops a.tmps)) : YieldsL P ops ld w o v a' := by
 unfold YieldsL at *
 rw [he, hw]
 exact hy
theorem YieldsL.later {ld : Bool} {w w' : World} {o : Oper} {v : Value} {a : Act} (hy : YieldsL P ops ld w o v a) (he : ld = true → Ext w w') : YieldsL P ops ld w' o v a := by
 rcases hy with ⟨h1, h2⟩ | h
 ·exact .inl ⟨h1, fun w2 h3 => h2 w2 fun hl => (he hl).trans (h3 hl)⟩
 ·exact .inr h
theorem wpOp_putL {ld : Bool} {j : Nat} {oi oj : Oper} {v : Value} (hj : ops[j]? = some oj) (hap : oi.apart ops oj = true)
  (hsi : ∀ cs b, oi.op ≠ .select cs b) (hsj : ∀ cs b, oj.op ≠ .select cs b)
  (hQ : ∀ c a w, ¬ Q (.panic c) a w) {K : Act → World → Prop} {a : Act} {w w0 : World}
  (hy : YieldsL P ops ld w0 oi v a) (h : wpOp P ops Q j K (a.put oi.dst v) w) :
  wpOp P ops Q j (fun a' w' => YieldsL P ops ld w0 oi v a' ∧ K (a'.put oi.dst v) w') a w := by
 obtain ⟨h1, h2, h3⟩ := Oper.apart_spec hap
 have keep : ∀ (a : Act), YieldsL P ops ld w0 oi v a → ∀ u, YieldsL P ops ld w0 oi v (a.put oj.dst u) := fun a hy u =>
  hy.of_same (execOp_put oi hsi a oj.dst u h3) (wanted_put oi a oj.dst u h3)
 have keepD : ∀ d, YieldsL P ops ld w0 oi v { a with defers := d :: a.defers } := fun d => hy.of_same rfl rfl
 unfold wpOp at *
 simp only [hj] at *
 rw [wanted_put oj a oi.dst v h1] at h
 split
 ·rename_i hw
  simp only [hw, if_true] at h
  rcases h with h | ⟨hasks, hlets⟩
  case inr => exact .inr ⟨by unfold Oper.asks at *; rw [execOp_put oj hsj a oi.dst v h1] at hasks; exact hasks, hlets⟩
  refine .inl ?_
  unfold Oper.wp at *
  rw [execOp_put oj hsj a oi.dst v h1] at h
  generalize (execOp a.eval oj).run P w = r at *
  cases r with
  | ok n w' =>
   cases n <;> simp only [Oper.upon] at h ⊢
   case value u => exact ⟨keep a hy u, by rw [← Act.put_comm a v u h2]; exact h⟩
   case skip => exact ⟨keep a hy _, by rw [← Act.put_comm a v undef h2]; exact h⟩
   case defer d =>
    refine ⟨keep _ (keepD d) _, ?_⟩
    rw [← Act.put_comm _ v undef h2, ← Act.put_defers]
    exact h
   case enter f args =>
    refine Calls.mono h fun e w'' he => ?_
    cases e with
    | returned u => exact ⟨keep a hy u, by rw [← Act.put_comm a v u h2]; exact he⟩
    | panicked c => exact (hQ _ _ _ he).elim
    | outgrown => exact he
   case row row args => exact Rows.mono h fun u w'' he => ⟨keep a hy u, by rw [← Act.put_comm a v u h2]; exact he⟩
  | halt x w' =>
   cases x <;> simp only [Oper.upon] at h ⊢
   case panic u => exact (hQ _ _ _ h).elim
 ·rename_i hw
  simp only [hw] at h
  exact ⟨keep a hy _, by rw [← Act.put_comm a v undef h2]; exact h⟩
def wpAnyE (P : Program) (ops : Array Oper) (Q : Exit → Act → World → Prop) (late : Nat → Bool) : Nat → Array Bool → Act → World → Prop
 | 0, listed, a, w => Region.ready .any ops listed = [] ∧ Q .normal a w
 | fuel + 1, listed, a, w =>
  (Region.ready .any ops listed = [] → Q .normal a w) ∧
  ∀ i ∈ Region.ready .any ops listed, wpOp P ops Q i (fun a' w' => (late i = false → Ext w w') ∧ wpAnyE P ops Q late fuel (listed.setIfInBounds i true) a' w') a w
theorem wpAny_of_E {late : Nat → Bool} : ∀ (fuel : Nat) (listed : Array Bool) (a : Act) (w : World), wpAnyE P ops Q late fuel listed a w → wpAny P .any ops Q fuel listed a w
 | 0, _, _, _, h => h
 | fuel + 1, _, _, _, h => ⟨h.1, fun i hi => wpOp_mono (fun a' w' h' => wpAny_of_E fuel _ a' w' h'.2) (h.2 i hi)⟩
def ClosedL (ops : Array Oper) (listed : Array Bool) : Prop :=
 ∀ j oj, ops[j]? = some oj → listed.getD j false = true → ∀ e ∈ oj.after, Region.binds .any e = true → listed.getD e.on false = true
theorem ClosedL.set {listed : Array Bool} (h : ClosedL ops listed) {i : Nat} (hi : i ∈ Region.ready .any ops listed) : ClosedL ops (listed.setIfInBounds i true) := by
 intro j oj hj hl e he hb
 by_cases hji : i = j
 ·subst hji
  obtain ⟨_, o, ho, hall⟩ := mem_ready.1 hi
  rw [hj] at ho; cases ho
  exact getD_set_true (hall e he hb)
 ·rw [getD_set_ne false hji] at hl
  exact getD_set_true (h j oj hj hl e he hb)
theorem wpAnyE_first {late : Nat → Bool} {ld : Bool} {i : Nat} {oi : Oper} {v : Value} (hi : ops[i]? = some oi) (hsel : ∀ (j : Nat) (o : Oper) cs b, ops[j]? = some o → o.op ≠ .select cs b)
  (hQ : ∀ c a w, ¬ Q (.panic c) a w) :
  ∀ (fuel : Nat) (listed : Array Bool) (a : Act) (w : World),
   (∀ j oj, ops[j]? = some oj → j ≠ i → listed.getD j true = false → (∀ e ∈ oj.after, Region.binds .any e = true → e.on ≠ i) → oi.apart ops oj = true) →
   ClosedL ops listed → (ld = true → ∀ listed', ClosedL ops listed' → (∀ k, listed.getD k true = true → listed'.getD k true = true) → listed'.getD i true = false → ∀ j ∈ Region.ready .any ops listed', late j = false) →
   i ∈ Region.ready .any ops listed → YieldsL P ops ld w oi v a →
   wpAnyE P ops Q late fuel (listed.setIfInBounds i true) (a.put oi.dst v) w → wpAnyE P ops Q late (fuel + 1) listed a w := by
 intro fuel
 induction fuel with
 | zero =>
  intro listed a w _ _ _ hr hy H
  refine ⟨fun h => (by rw [h] at hr; cases hr), fun j hj => ?_⟩
  by_cases hji : j = i
  ·subst hji; exact hy.wpOp hi ⟨fun _ => Ext.refl w, H⟩
  ·have := ready_mono hj hji
   rw [H.1] at this
   cases this
 | succ fuel ih =>
  intro listed a w hfree hcl hlate hr hy H
  refine ⟨fun h => (by rw [h] at hr; cases hr), fun j hj => ?_⟩
  by_cases hji : j = i
  ·subst hji; exact hy.wpOp hi ⟨fun _ => Ext.refl w, H⟩
  ·have h1 := H.2 j (ready_mono hj hji)
   obtain ⟨hjun, oj, hoj, hall⟩ := mem_ready.1 hj
   have hiun := (mem_ready.1 hr).1
   have hnot : ∀ e ∈ oj.after, Region.binds .any e = true → e.on ≠ i := fun e he hb heq => by
    have h1 := hall e he hb
    rw [heq] at h1
    rcases Nat.lt_or_ge i listed.size with h' | h'
    ·simp [h'] at hiun h1; rw [hiun] at h1; cases h1
    ·simp [Array.getElem?_eq_none h'] at h1
   have h2 := wpOp_putL hoj (hfree j oj hoj hji hjun hnot) (fun cs b => hsel i oi cs b hi) (fun cs b => hsel j oj cs b hoj) hQ hy h1
   have hfree' : ∀ k ok, ops[k]? = some ok → k ≠ i → (listed.setIfInBounds j true).getD k true = false →
     (∀ e ∈ ok.after, Region.binds .any e = true → e.on ≠ i) → oi.apart ops ok = true := fun k ok hk hki hun hno => by
    refine hfree k ok hk hki ?_ hno
    by_cases hjk : j = k
    ·subst hjk; exact hjun
    ·rw [getD_set_ne true hjk] at hun; exact hun
   have hgrow : ∀ k, listed.getD k true = true → (listed.setIfInBounds j true).getD k true = true := fun k hk => by
    by_cases hjk : j = k
    ·subst hjk; rw [hk] at hjun; cases hjun
    ·rw [getD_set_ne true hjk]; exact hk
   refine wpOp_mono (fun a' w' h3 => ⟨h3.2.1, ih (listed.setIfInBounds j true) a' w' hfree' (hcl.set hj) (fun hl l' hc' hg' => hlate hl l' hc' fun k hk => hg' k (hgrow k hk)) (ready_mono hr (Ne.symm hji))
    (h3.1.later fun hl => h3.2.1 (hlate hl listed hcl (fun _ h => h) hiun j hj)) ?_⟩) h2
   rw [Array.setIfInBounds_comm _ _ hji]
   exact h3.2.2
theorem wpAnyE_one {late : Nat → Bool} {i fuel : Nat} {listed : Array Bool} {a : Act} {w : World} (hr : Region.ready .any ops listed = [i])
  (h : wpOp P ops Q i (fun a' w' => (late i = false → Ext w w') ∧ wpAnyE P ops Q late fuel (listed.setIfInBounds i true) a' w') a w) : wpAnyE P ops Q late (fuel + 1) listed a w :=
 ⟨fun h0 => absurd (hr ▸ h0) (by simp), by rw [hr]; intro j hj; simp only [List.mem_singleton] at hj; subst hj; exact h⟩
theorem anc_listed {t : List (List Nat)} (ht : ancOk ops t = true) {listed : Array Bool} (hc : ClosedL ops listed) :
  ∀ (n j : Nat), j < n → j < ops.size → (∀ oj, ops[j]? = some oj → ∀ e ∈ oj.after, Region.binds .any e = true → listed.getD e.on false = true) → ∀ i ∈ t.getD j [], listed.getD i false = true := by
 intro n
 induction n with
 | zero => intro j hj; omega
 | succ n ih =>
  intro j hj hjs hall i hi
  simp only [ancOk, List.all_eq_true, List.mem_range] at ht
  have h1 := ht j hjs i hi
  cases ho : ops[j]? with
  | none => rw [ho] at h1; cases h1
  | some o =>
   rw [ho] at h1
   simp only [List.any_eq_true, Bool.and_eq_true, Bool.or_eq_true, beq_iff_eq, decide_eq_true_eq] at h1
   obtain ⟨e, he, hb, h2⟩ := h1
   have hel := hall o ho e (by simpa using he) hb
   rcases h2 with rfl | ⟨hlt, hin⟩
   ·exact hel
   ·exact ih e.on (by omega) (by omega) (fun oj hoj e' he' hb' => hc e.on oj hoj hel e' he' hb') i (by simpa using hin)
theorem getD_false_of_true {listed : Array Bool} {i : Nat} (h : listed.getD i true = false) : listed.getD i false = false := by
 rcases Nat.lt_or_ge i listed.size with h' | h'
 ·simp only [Array.getD, h', dif_pos] at *; exact h
 ·simp [Array.getD, Nat.not_lt.2 h'] at h
end
def Grows {α : Type} : Sem α → Prop
 | .pure _ => True
 | .load _ _ k => ∀ v, Grows (k v)
 | .new _ k => ∀ n, Grows (k n)
 | .shape _ k => ∀ v, Grows (k v)
 | .frozen _ k => ∀ v, Grows (k v)
 | .getObj _ k => ∀ v, Grows (k v)
 | .choose _ k => ∀ v, Grows (k v)
 | .program k => ∀ v, Grows (k v)
 | .mark _ k => Grows k
 | .halt _ => True
 | _ => False
theorem Grows.bind {α β : Type} {f : α → Sem β} : ∀ {x : Sem α}, Grows x → (∀ v, Grows (f v)) → Grows (x.bind f) := by
 intro x
 induction x with
 | pure a => intro _ h; exact h a
 | load m a k ih => intro h hf v; exact ih v (h v) hf
 | store m a v k ih => intro h; exact h.elim
 | new o k ih => intro h hf v; exact ih v (h v) hf
 | shape r k ih => intro h hf v; exact ih v (h v) hf
 | freeze a n k ih => intro h; exact h.elim
 | frozen a k ih => intro h hf v; exact ih v (h v) hf
 | getObj r k ih => intro h hf v; exact ih v (h v) hf
 | setObj r o k ih => intro h; exact h.elim
 | choose q k ih => intro h hf v; exact ih v (h v) hf
 | sys c k ih => intro h; exact h.elim
 | program k ih => intro h hf v; exact ih v (h v) hf
 | mark m k ih => intro h hf; exact ih h hf
 | halt h => intro _ _; trivial
theorem Ext.push (w : World) (o : Obj) : Ext w { w with heap := w.heap.push o } := by
 intro b hb
 simp [Array.getElem?_push, Nat.ne_of_lt hb]
theorem Grows.run {α : Type} {P : Program} : ∀ {x : Sem α}, Grows x → ∀ {w w' : World} {v : α}, x.run P w = .ok v w' → Ext w w' := by
 intro x
 induction x with
 | pure a => intro _ w w' v h; simp only [Sem.run] at h; cases h; exact Ext.refl w
 | load m a k ih =>
  intro hg w w' v h
  simp only [Sem.run] at h
  split at h
  ·exact ih _ (hg _) h
  ·split at h
   ·exact ih _ (hg _) h
   ·cases h
 | store m a v k ih => intro h; exact h.elim
 | new o k ih => intro hg w w' v h; simp only [Sem.run] at h; exact (Ext.push w o).trans (ih _ (hg _) h)
 | shape r k ih => intro hg w w' v h; simp only [Sem.run] at h; exact ih _ (hg _) h
 | freeze a n k ih => intro h; exact h.elim
 | frozen a k ih => intro hg w w' v h; simp only [Sem.run] at h; exact ih _ (hg _) h
 | getObj r k ih =>
  intro hg w w' v h
  simp only [Sem.run] at h
  split at h
  ·cases h
  ·exact ih _ (hg _) h
  ·cases h
 | setObj r o k ih => intro h; exact h.elim
 | choose q k ih =>
  intro hg w w' v h
  simp only [Sem.run] at h
  split at h
  ·exact ih _ (hg _) h
  ·have := ih _ (hg _) h
   exact this
 | sys c k ih => intro h; exact h.elim
 | program k ih => intro hg w w' v h; simp only [Sem.run] at h; exact ih _ (hg _) h
 | mark m k ih => intro hg w w' v h; simp only [Sem.run] at h; exact ih hg h
 | halt h => intro _ w w' v h; simp only [Sem.run] at h; cases h
theorem grows_bind {α β : Type} {x : Sem α} {f : α → Sem β} (h : Grows x) (hf : ∀ v, Grows (f v)) : Grows (x >>= f) := Grows.bind h hf
theorem grows_pure {α : Type} (x : α) : Grows (pure x : Sem α) := trivial
theorem grows_stuck {α : Type} (x : String) : Grows (stuck x : Sem α) := by simp [stuck, Grows]
theorem grows_unsupported {α : Type} (x : Unsupported) : Grows (unsupported x : Sem α) := by simp [unsupported, Grows]
theorem grows_typeInfo (t : TypeId) : Grows (typeInfo t) := by
 unfold typeInfo
 refine grows_bind (fun _ => trivial) fun p => ?_
 split <;> first | exact grows_pure _ | exact grows_stuck _
theorem grows_underlying (t : TypeId) : Grows (underlying t) := by
 unfold underlying
 refine grows_bind (fun _ => trivial) fun p => ?_
 split <;> first | exact grows_pure _ | exact grows_stuck _
theorem grows_sizeOf (t : TypeId) : Grows (sizeOf t) := grows_bind (grows_typeInfo t) fun _ => grows_pure _
theorem grows_zeroValue (t : TypeId) : Grows (zeroValue t) := by
 unfold zeroValue
 refine grows_bind (grows_typeInfo t) fun i => ?_
 split <;> first | exact grows_pure _ | exact grows_stuck _ | exact grows_unsupported _
theorem grows_newRow (t : TypeId) (c : Array Value) : Grows (newRow t c) := grows_bind (fun _ => trivial) fun _ => grows_pure _
theorem grows_newVar (t : TypeId) (c : Value) : Grows (newVar t c) := grows_newRow _ _
theorem grows_op {ρ : Operand → Value} {o : Oper} (h : (∃ t, o.op = .alloc t) ∨ (∃ t v, o.op = .box t v) ∨ ∃ t n ps, o.op = .buildSlice t n ps) : Grows (execOp ρ o) := by
 have v : ∀ {x : Sem Value}, Grows x → Grows ((do pure (.value (← x))) : Sem Next) := fun h => grows_bind h fun _ => grows_pure _
 rcases h with ⟨t, h⟩ | ⟨t, x, h⟩ | ⟨t, n, ps, h⟩ <;> simp only [execOp, h]
 ·refine v ?_
  unfold Instr.alloc
  exact grows_bind (grows_zeroValue _) fun z => grows_bind (grows_newVar _ _) fun _ => grows_pure _
 ·refine v ?_
  unfold Instr.box
  exact grows_bind (grows_newVar _ _) fun _ => grows_pure _
 ·refine v ?_
  unfold Instr.buildSlice
  refine grows_bind (grows_underlying _) fun u => ?_
  split
  ·refine grows_bind (grows_sizeOf _) fun sz => ?_
   dsimp only
   repeat' first
    | split
    | exact grows_stuck _
    | exact grows_pure _
    | refine grows_bind (grows_unsupported _) fun _ => ?_
    | refine grows_bind (grows_zeroValue _) fun _ => ?_
    | refine grows_bind (grows_newRow _ _) fun _ => ?_
    | refine grows_bind (grows_pure _) fun _ => ?_
  ·exact grows_stuck _
end Go.Sm
namespace Go.Sm
set_option linter.unusedVariables false
set_option linter.unusedSimpArgs false
theorem run_guards {K : Sem1} {m : Nat} {t : Tr} {r : Env} {out : Out} : ∀ {gs : List (E .bool)}, run K m (Tr.guards gs t) r = some out → (∀ c ∈ gs, den c r = true) ∧ run K m t r = some out
 | [], h => ⟨fun _ hc => (List.not_mem_nil hc).elim, h⟩
 | c :: gs, h => by
  unfold Tr.guards at h
  split at h
  ·rename_i hl
   obtain ⟨h1, h2⟩ := run_guards h
   refine ⟨fun d hd => ?_, h2⟩
   rcases List.mem_cons.1 hd with rfl | hd
   ·exact litB_eq hl r
   ·exact h1 d hd
  ·simp only [run] at h; cases h
  ·simp only [run] at h
   split at h
   case isFalse => cases h
   rename_i hc
   obtain ⟨h1, h2⟩ := run_guards h
   refine ⟨fun d hd => ?_, h2⟩
   rcases List.mem_cons.1 hd with rfl | hd
   ·exact hc
   ·exact h1 d hd
def Closed (K : Sem1) (m : Nat) (t : Tr) : Prop := ∀ r l vs, run K m t r ≠ some (.jump l vs)
section
variable {K : Sem1} {m : Nat}
theorem Closed.bad : Closed K m .bad := fun r l vs h => by simp only [run] at h; cases h
theorem Closed.leaf (x : Ex) (s : St) : Closed K m (.leaf x s) := fun r l vs h => by simp only [run] at h; cases h
theorem Closed.guards {gs : List (E .bool)} {t : Tr} (h : Closed K m t) : Closed K m (Tr.guards gs t) := fun r l vs hr => h r l vs (run_guards hr).2
theorem Closed.ite {c : E .bool} {a b : Tr} (ha : Closed K m a) (hb : Closed K m b) : Closed K m (.ite c a b) := fun r l vs h => by
 simp only [run] at h
 split at h
 ·exact ha r l vs h
 ·exact hb r l vs h
theorem Closed.call {f : FuncId} {ins : List AE} {b : Nat} {t : Tr} (h : Closed K m t) : Closed K m (.call f ins b t) := fun r l vs hr => by
 simp only [run] at hr
 split at hr
 ·exact h _ l vs hr
 ·cases hr
theorem loopN_bind {t : Tr} {f : Ex → St → Tr} (hf : ∀ x s, Closed K m (f x s))
  (ih : ∀ r out, run K m (t.bind f) r = some out → (∃ l us, run K m t r = some (.jump l us) ∧ out = .jump l us) ∨ (∃ us, run K m t r = some (.ret us) ∧ out = .ret us) ∨ ∃ x s r', run K m t r = some (.leaf x s r') ∧ run K m (f x s) r' = some out) :
  ∀ (n : Nat) (vs : List AV) (out : Out), loopN (run K m (t.bind f)) n vs = some out → (∃ l us, loopN (run K m t) n vs = some (.jump l us) ∧ out = .jump l us) ∨ (∃ us, loopN (run K m t) n vs = some (.ret us) ∧ out = .ret us) ∨
   ∃ x s r', loopN (run K m t) n vs = some (.leaf x s r') ∧ run K m (f x s) r' = some out
 | 0, _, _, h => by simp only [loopN] at h; cases h
 | n + 1, vs, out, h => by
  simp only [loopN] at h ⊢
  split at h
  ·rename_i us hr
   rcases ih _ _ hr with ⟨l, us', h1, h2⟩ | ⟨us', h1, h2⟩ | ⟨x, s, r', h1, h2⟩
   ·cases h2; rw [h1]; exact loopN_bind hf ih n us out h
   ·cases h2
   ·exact (hf x s _ _ _ h2).elim
  ·rename_i l us hr
   cases h
   rcases ih _ _ hr with ⟨l', us', h1, h2⟩ | ⟨us', h1, h2⟩ | ⟨x, s, r', h1, h2⟩
   ·cases h2; rw [h1]; exact .inl ⟨l, us, rfl, rfl⟩
   ·cases h2
   ·exact (hf x s _ _ _ h2).elim
  ·rename_i x s r' hr
   cases h
   rcases ih _ _ hr with ⟨l', us', h1, h2⟩ | ⟨us', h1, h2⟩ | ⟨x', s', r'', h1, h2⟩
   ·cases h2
   ·cases h2
   ·rw [h1]; exact .inr (.inr ⟨x', s', r'', rfl, h2⟩)
  ·rename_i us hr
   cases h
   rcases ih _ _ hr with ⟨l', us', h1, h2⟩ | ⟨us', h1, h2⟩ | ⟨x', s', r'', h1, h2⟩
   ·cases h2
   ·cases h2; rw [h1]; exact .inr (.inl ⟨us, rfl, rfl⟩)
   ·rw [h1]; exact .inr (.inr ⟨x', s', r'', rfl, h2⟩)
  ·cases h
theorem run_bind {f : Ex → St → Tr} (hf : ∀ x s, Closed K m (f x s)) : ∀ (t : Tr) (r : Env) (out : Out), run K m (t.bind f) r = some out →
  (∃ l us, run K m t r = some (.jump l us) ∧ out = .jump l us) ∨ (∃ us, run K m t r = some (.ret us) ∧ out = .ret us) ∨ ∃ x s r', run K m t r = some (.leaf x s r') ∧ run K m (f x s) r' = some out
 | .leaf x s, r, out, h => .inr (.inr ⟨x, s, r, rfl, h⟩)
 | .bad, r, out, h => by simp only [Tr.bind, run] at h; cases h
 | .ite c a b, r, out, h => by
  simp only [Tr.bind, run] at h ⊢
  split at h
  ·rename_i hc; simp only [hc, if_true]; exact run_bind hf a r out h
  ·rename_i hc; simp only [hc, if_false, Bool.false_eq_true]; exact run_bind hf b r out h
 | .guard c t, r, out, h => by
  simp only [Tr.bind, run] at h ⊢
  split at h
  ·rename_i hc; simp only [hc, if_true]; exact run_bind hf t r out h
  ·cases h
 | .call g ins b t, r, out, h => by
  simp only [Tr.bind, run] at h ⊢
  split at h
  ·rename_i vs hv; exact run_bind hf t _ out h
  ·cases h
 | .jump l vs, r, out, h => by
  simp only [Tr.bind, run] at h ⊢
  cases h
  exact .inl ⟨_, _, rfl, rfl⟩
 | .ret vs, r, out, h => by
  simp only [Tr.bind, run] at h ⊢
  cases h
  exact .inr (.inl ⟨_, rfl, rfl⟩)
 | .join t k, r, out, h => by
  simp only [Tr.bind, run] at h ⊢
  split at h
  ·rename_i us hr
   rcases run_bind hf t _ _ hr with ⟨l, us', h1, h2⟩ | ⟨us', h1, h2⟩ | ⟨x, s, r', h1, h2⟩
   ·cases h2; rw [h1]; exact run_bind hf k _ out h
   ·cases h2
   ·exact (hf x s _ _ _ h2).elim
  ·rename_i l us hr
   cases h
   rcases run_bind hf t _ _ hr with ⟨l', us', h1, h2⟩ | ⟨us', h1, h2⟩ | ⟨x, s, r', h1, h2⟩
   ·cases h2; rw [h1]; exact .inl ⟨l, us, rfl, rfl⟩
   ·cases h2
   ·exact (hf x s _ _ _ h2).elim
  ·rename_i x s r' hr
   cases h
   rcases run_bind hf t _ _ hr with ⟨l', us', h1, h2⟩ | ⟨us', h1, h2⟩ | ⟨x', s', r'', h1, h2⟩
   ·cases h2
   ·cases h2
   ·rw [h1]; exact .inr (.inr ⟨x', s', r'', rfl, h2⟩)
  ·rename_i us hr
   cases h
   rcases run_bind hf t _ _ hr with ⟨l', us', h1, h2⟩ | ⟨us', h1, h2⟩ | ⟨x', s', r'', h1, h2⟩
   ·cases h2
   ·cases h2; rw [h1]; exact .inr (.inl ⟨us, rfl, rfl⟩)
   ·rw [h1]; exact .inr (.inr ⟨x', s', r'', rfl, h2⟩)
  ·cases h
 | .loop init body, r, out, h => by
  simp only [Tr.bind, run] at h ⊢
  exact loopN_bind hf (fun r out h => run_bind hf body r out h) m _ out h
theorem Closed.bind {t : Tr} {f : Ex → St → Tr} (ht : Closed K m t) (hf : ∀ x s, Closed K m (f x s)) : Closed K m (t.bind f) := fun r l vs h => by
 rcases run_bind hf t r _ h with ⟨l', us, h1, h2⟩ | ⟨us, h1, h2⟩ | ⟨x, s, r', h1, h2⟩
 ·exact ht _ _ _ h1
 ·cases h2
 ·exact hf _ _ _ _ _ h2
end
def Leafy (K : Sem1) (m : Nat) (t : Tr) : Prop := ∀ r out, run K m t r = some out → ∃ x s r', out = .leaf x s r'
section
variable {K : Sem1} {m : Nat}
theorem Leafy.closed {t : Tr} (h : Leafy K m t) : Closed K m t := fun r l vs hr => by obtain ⟨_, _, _, h1⟩ := h r _ hr; cases h1
theorem Leafy.bad : Leafy K m .bad := fun r out h => by simp only [run] at h; cases h
theorem Leafy.leaf (x : Ex) (s : St) : Leafy K m (.leaf x s) := fun r out h => by simp only [run] at h; cases h; exact ⟨_, _, _, rfl⟩
theorem Leafy.guards {gs : List (E .bool)} {t : Tr} (h : Leafy K m t) : Leafy K m (Tr.guards gs t) := fun r out hr => h r out (run_guards hr).2
theorem Leafy.ite {c : E .bool} {a b : Tr} (ha : Leafy K m a) (hb : Leafy K m b) : Leafy K m (.ite c a b) := fun r out h => by
 simp only [run] at h
 split at h
 ·exact ha r out h
 ·exact hb r out h
theorem Leafy.call {f : FuncId} {ins : List AE} {b : Nat} {t : Tr} (h : Leafy K m t) : Leafy K m (.call f ins b t) := fun r out hr => by
 simp only [run] at hr
 split at hr
 ·exact h _ out hr
 ·cases hr
theorem Leafy.bind {t : Tr} {f : Ex → St → Tr} (ht : Leafy K m t) (hf : ∀ x s, Leafy K m (f x s)) : Leafy K m (t.bind f) := fun r out h => by
 rcases run_bind (fun x s => (hf x s).closed) t r _ h with ⟨l', us, h1, h2⟩ | ⟨us, h1, h2⟩ | ⟨x, s, r', h1, h2⟩
 ·obtain ⟨_, _, _, h3⟩ := ht _ _ h1; cases h3
 ·obtain ⟨_, _, _, h3⟩ := ht _ _ h1; cases h3
 ·exact hf _ _ _ _ h2
end
section
variable {P : Program} {bd : Bd} {N N' : Nat → Prop} {s : St} {r : Env} {g : Nat → G} {tm : Array Value} {st : List (Array Value)} {w : World}
theorem SV.all_mono {p q : Atom → Prop} (hpq : ∀ a, p a → q a) {v : SV} (h : v.all p) : v.all q := by
 cases v with
 | a x => exact hpq _ h
 | agg l => exact fun a ha => hpq _ (h a ha)
 | tup l => exact fun c hc a ha => hpq _ (h c hc a ha)
theorem Blk.ok_mono (hN : ∀ i, N i → N' i) {h : Nat → Option Blk} {B : Blk} (hB : B.ok N h) : B.ok N' h := by
 cases B with
 | box l => exact fun a ha => Atom.ok_mono hN (fun _ h => h) (hB a ha)
 | arr dp t e => exact E.vs_mono hN _ hB
 | hole t e k i j a => exact ⟨E.vs_mono hN _ hB.1, E.vs_mono hN _ hB.2.1, Atom.ok_mono hN (fun _ h => h) hB.2.2⟩
theorem R.mono (h : R bd N s r g tm st w) (hN : ∀ i, N i → N' i) : R bd N' s r g tm st w :=
 {h with
  ncur := fun v hv => SV.all_mono (fun a ha => Atom.ok_mono hN (fun _ h => h) ha) (h.ncur v hv)
  nstk := fun f hf v hv => SV.all_mono (fun a ha => Atom.ok_mono hN (fun _ h => h) ha) (h.nstk f hf v hv)
  nheap := fun id B hB => Blk.ok_mono hN (h.nheap id B hB) }
theorem R.based (h : R bd N s r g tm st w) (b : Nat) : R bd N { s with base := b } r g tm st w :=
 {cur := h.cur, stk := h.stk, heap := h.heap, inj := h.inj, nodup := h.nodup, own := h.own, lt := h.lt, world := h.world, pin := h.pin, np := h.np, kp := h.kp, kept := h.kept, kpl := h.kpl, ncur := h.ncur, nstk := h.nstk, nheap := h.nheap }
theorem R.slots (h : R bd N s r g tm st w) {cur : List SV} {stk : List (List SV)} {tm' : Array Value} {st' : List (Array Value)} (hc : SReps w (Mt bd.Z s.heap g) g r cur tm'.toList) (hs : SRepss w (Mt bd.Z s.heap g) g r stk st')
  (nc : ∀ v ∈ cur, v.all (Atom.ok N s.heap)) (ns : ∀ f ∈ stk, ∀ v ∈ f, v.all (Atom.ok N s.heap)) : R bd N { s with cur := cur, stk := stk } r g tm' st' w :=
 {cur := hc, stk := hs, heap := h.heap, inj := h.inj, nodup := h.nodup, own := h.own, lt := h.lt, world := h.world, pin := h.pin, np := h.np, kp := h.kp, kept := h.kept, kpl := h.kpl, ncur := nc, nstk := ns, nheap := h.nheap }
theorem SReps.imp1 {M : Nat → Prop} (f : SV → SV) (hf : ∀ v u, SRep w M g r v u → SRep w M g r (f v) u) : ∀ {l : List SV} {vs : List Value}, SReps w M g r l vs → SReps w M g r (l.map f) vs
 | [], [], _ => trivial
 | _ :: _, _ :: _, h => ⟨hf _ _ h.1, SReps.imp1 f hf h.2⟩
 | [], _ :: _, h => h.elim
 | _ :: _, [], h => h.elim
theorem asmA_ok {e : E .bool} {b : Bool} {h : Nat → Option Blk} {a : Atom} (ha : a.ok N h) : (asmA e b a).ok N h := by
 unfold asmA
 split
 ·split
  ·trivial
  ·exact ha
 ·exact ha
theorem asmA_rep {M : Nat → Prop} {e : E .bool} {b : Bool} (he : den e r = b) {a : Atom} {v : Value} (hv : ARep w M g r a v) : ARep w M g r (asmA e b a) v := by
 unfold asmA
 split
 ·split
  ·rename_i e' hq
   have := bool_of hv
   rw [this, ← eqE_bool hq r, he]
   exact bool_rep rfl
  ·exact hv
 ·exact hv
theorem R.asm (h : R bd N s r g tm st w) {e : E .bool} {b : Bool} (he : den e r = b) : R bd N (s.asm e b) r g tm st w := by
 refine h.slots (stk := s.stk) (h.cur.map (p := fun _ => True) (fun a v _ hv => asmA_rep he hv) (fun c _ => ?_)) h.stk (fun v hv => ?_) h.nstk
 ·cases c <;> simp [SV.all]
 ·obtain ⟨u, hu, rfl⟩ := List.mem_map.1 hv
  exact SV.all_map (h.ncur u hu) fun a ha => asmA_ok ha
theorem keepFrom_rep {M : Nat → Prop} {live : List Nat} : ∀ {l : List SV} {vs : List Value} (i : Nat), SReps w M g r l vs → SReps w M g r (keepFrom live i l) vs
 | [], [], _, _ => trivial
 | v :: _, _ :: _, i, h => by
  refine ⟨?_, keepFrom_rep (i + 1) h.2⟩
  cases live.contains i
  ·trivial
  ·exact h.1
 | [], _ :: _, _, h => h.elim
 | _ :: _, [], _, h => h.elim
theorem keepFrom_all {p : Atom → Prop} (hp : p .no) {live : List Nat} : ∀ {l : List SV} (i : Nat), (∀ v ∈ l, v.all p) → ∀ v ∈ keepFrom live i l, v.all p
 | [], _, _, v, hv => by cases hv
 | u :: l, i, h, v, hv => by
  rcases List.mem_cons.1 hv with rfl | hv
  ·cases live.contains i
   ·exact hp
   ·exact h u (List.mem_cons_self ..)
  ·exact keepFrom_all hp (i + 1) (fun v hv => h v (List.mem_cons_of_mem _ hv)) v hv
theorem R.keep (h : R bd N s r g tm st w) (live : List Nat) : R bd N (s.keep live) r g tm st w :=
 h.slots (stk := s.stk) (keepFrom_rep 0 h.cur) h.stk (keepFrom_all trivial 0 h.ncur) h.nstk
theorem R.putD {a : Act} (h : R bd N s r g a.tmps st w) {d : Option Tmp} {sv : SV} {v : Value} (hv : SRep w (Mt bd.Z s.heap g) g r sv v) (hn : sv.all (Atom.ok N s.heap)) : R bd N (s.putD d sv) r g (a.put d v).tmps st w := by
 cases d with
 | none => exact h
 | some d => exact h.put hv hn
end
def Enters (P : Program) (f : FuncId) : Prop := ∃ fn, P.funcs[f]? = some fn ∧ fn.name ≠ "runtime.NumGoroutine" ∧ fn.body.isSome = true
theorem run_callFunc {P : Program} {f : FuncId} (h : Enters P f) (args : Array Value) (w : World) : (callFunc f args).run P w = .ok (.enter f args) w := by
 obtain ⟨fn, h1, h2, h3⟩ := h
 have hb : fn.body.isNone = false := by cases hb : fn.body <;> simp_all
 unfold callFunc
 rw [run_bind_ok (v := P) (w' := w) rfl]
 simp only [h1]
 simp [h2, hb]
theorem exec_call {ρ : Operand → Value} {o : Oper} {x : Operand} {xs : Array Operand} {ats : Array TypeId} (ho : o.op = .call { callee := .value x, args := xs, argTypes := ats }) {f : FuncId} {caps : Array Value} (hx : ρ x = .func (.func f) #[] caps) :
  execOp ρ o = callFunc f (#[] ++ xs.map ρ ++ caps) := by
 obtain ⟨dst, op, ty, pos, after, guard⟩ := o
 simp only at ho
 subst ho
 simp only [execOp, resolve, hx]
 rfl
def InlOK (c : Cx) (K : Sem1) (m : Nat) (inl : Inl) : Prop :=
 ∀ (f : FuncId) (args : List SV) (s : St) (k : SV → St → Tr) (bd : Bd) (r : Env) (g : Nat → G) (tm : Array Value) (st : List (Array Value)) (w : World) (vs : List Value) (out : Out),
  R bd (· < s.base) s r g tm st w → SReps w (Mt bd.Z s.heap g) g r args vs → (∀ v ∈ args, v.all (Atom.ok (· < s.base) s.heap)) → (∀ v s', Leafy K m (k v s')) → run K m (inl f args s k) r = some out →
  Enters c.P f ∧ Calls c.P f vs.toArray w fun e w' => ∃ v sv s' r' g', e = .returned v ∧ R bd (· < s'.base) s' r' g' tm st w' ∧ SRep w' (Mt bd.Z s'.heap g') g' r' sv v ∧ sv.all (Atom.ok (· < s'.base) s'.heap) ∧ run K m (k sv s') r' = some out
def InlCl (K : Sem1) (m : Nat) (inl : Inl) : Prop := ∀ f args s k, (∀ v s', Leafy K m (k v s')) → Leafy K m (inl f args s k)
def InsOK (c : Cx) : Prop :=
 ∀ (f : FuncId) (ty : Ty) (s : St) (id : Nat) (ops : List Operand) (gs : List (E .bool)) (sv : SV) (s' : St) (bd : Bd) (N : Nat → Prop) (r : Env) (g : Nat → G) (a : Act) (st : List (Array Value)) (w : World),
  c.ins f = some ty → symHand s id ty ops = some (gs, sv, s') → R bd N s r g a.tmps st w → (∀ e ∈ gs, den e r = true) →
  Enters c.P f ∧ Calls c.P f (ops.map a.eval).toArray w fun e w' => ∃ v g', e = .returned v ∧ R bd N s' r g' a.tmps st w' ∧ SRep w' (Mt bd.Z s'.heap g') g' r sv v ∧ sv.all (Atom.ok N s'.heap)
def LenOK (c : Cx) (K : Sem1) : Prop := ∀ f sig ins outs, c.sg f = some sig → K f ins = some outs → outs.length = sig.outs
def CallOK (c : Cx) (K : Sem1) : Prop := (InsOK c ∧ LenOK c K) ∧
 ∀ (f : FuncId) (sig : Sig) (s : St) (id : Nat) (ops : List Operand) (gs : List (E .bool)) (ins : List AE) (sv : SV) (s' : St) (outs : List AV) (bd : Bd) (N : Nat → Prop) (r : Env) (g : Nat → G) (a : Act) (st : List (Array Value)) (w : World),
  c.sg f = some sig → symCallN sig s id ops = some (gs, ins, sv, s') → R bd N s r g a.tmps st w → (∀ i, N i → i < id) → (∀ e ∈ gs, den e r = true) → K f (ins.map (denA · r)) = some outs →
  Enters c.P f ∧ Calls c.P f (ops.map a.eval).toArray w fun e w' => ∃ v g', e = .returned v ∧ ((sig.ps.all fun h => !h.byRef) = true → Ext w w') ∧ R bd (· < id + 64) s' (putN r id outs) g' a.tmps st w' ∧ SRep w' (Mt bd.Z s'.heap g') g' (putN r id outs) sv v ∧ sv.all (Atom.ok (· < id + 64) s'.heap)
section
variable {c : Cx} {K : Sem1} {m : Nat} {inl : Inl} {fn : FuncId} {rid : Nat} {ops : Array Oper} {bd : Bd} {st : List (Array Value)}
def Nx (K : Sem1) (m : Nat) (bd : Bd) (st : List (Array Value)) (df : List Deferred) (i : Nat) (k : St → Tr) (out : Out) (a : Act) (w : World) : Prop :=
 a.defers = df ∧ ∃ s r g, R bd (· < s.base + 64 * i) s r g a.tmps st w ∧ run K m (k s) r = some out
theorem put_defers (a : Act) (d : Option Tmp) (v : Value) : (a.put d v).defers = a.defers := by cases d <;> rfl
inductive Done (c : Cx) (a : Act) (o : Oper) (w : World) (Kp : Act → World → Prop) : Prop where
 | val (v : Value) (w' : World) (h : (execOp a.eval o).run c.P w = .ok (.value v) w' ∨ ((execOp a.eval o).run c.P w = .ok .skip w' ∧ v = undef)) (hk : Kp (a.put o.dst v) w')
 | call (x : Operand) (xs : Array Operand) (ats : Array TypeId) (ho : o.op = .call { callee := .value x, args := xs, argTypes := ats }) (f : FuncId) (args : Array Value) (h : (execOp a.eval o).run c.P w = .ok (.enter f args) w)
   (hc : Calls c.P f args w fun e w' => ∃ v, e = .returned v ∧ Kp (a.put o.dst v) w')
theorem SReps.get_ops {s : St} {r : Env} {g : Nat → G} {w : World} {a : Act} {N : Nat → Prop} (h : R bd N s r g a.tmps st w) : ∀ (xs : List Operand), SReps w (Mt bd.Z s.heap g) g r (xs.map s.get) (xs.map a.eval) ∧ ∀ v ∈ xs.map s.get, v.all (Atom.ok N s.heap)
 | [] => ⟨trivial, fun v hv => by cases hv⟩
 | x :: xs => by
  obtain ⟨h1, h2⟩ := get_rep h x
  obtain ⟨h3, h4⟩ := SReps.get_ops h xs
  refine ⟨⟨h1, h3⟩, fun v hv => ?_⟩
  rcases List.mem_cons.1 hv with rfl | hv
  ·exact h2
  ·exact h4 v hv
theorem SReps.app {w : World} {M : Nat → Prop} {g : Nat → G} {r : Env} : ∀ {l l' : List SV} {vs vs' : List Value}, SReps w M g r l vs → SReps w M g r l' vs' → SReps w M g r (l ++ l') (vs ++ vs')
 | [], _, [], _, _, h' => h'
 | _ :: _, _, _ :: _, _, h, h' => ⟨h.1, SReps.app h.2 h'⟩
 | [], _, _ :: _, _, h, _ => h.elim
 | _ :: _, _, [], _, h, _ => h.elim
theorem SReps.take {w : World} {M : Nat → Prop} {g : Nat → G} {r : Env} : ∀ {l : List SV} {vs : List Value} (n : Nat), SReps w M g r l vs → SReps w M g r (l.take n) (vs.take n)
 | _, _, 0, _ => by simp only [List.take_zero]; trivial
 | [], [], n + 1, _ => trivial
 | _ :: _, _ :: _, n + 1, h => ⟨h.1, SReps.take n h.2⟩
 | [], _ :: _, n + 1, h => h.elim
 | _ :: _, [], n + 1, h => h.elim
theorem SReps.ptrs {w : World} {M : Nat → Prop} {g : Nat → G} {r : Env} : ∀ (caps : List (Nat × Nat)), SReps w M g r (caps.map fun p => .a (.ptr p.1 p.2)) (caps.map fun c => Value.pointer (some ⟨(g c.1).blk, c.2, none⟩))
 | [] => trivial
 | p :: l => ⟨by simp [SRep, ARep], SReps.ptrs l⟩
theorem fresh_cases {o : Oper} (h : freshB c o = true) : ((∃ t, o.op = .alloc t) ∨ (∃ t v, o.op = .box t v) ∨ ∃ t n ps, o.op = .buildSlice t n ps) ∨
  ∃ f xs ats sg, o.op = .call { callee := .value (.func f), args := xs, argTypes := ats } ∧ c.ins f = none ∧ c.sg f = some sg ∧ (sg.ps.all fun h => !h.byRef) = true := by
 unfold freshB at h
 split at h
 ·rename_i t ho; exact .inl (.inl ⟨t, ho⟩)
 ·rename_i t v ho; exact .inl (.inr (.inl ⟨t, v, ho⟩))
 ·rename_i t n ps ho; exact .inl (.inr (.inr ⟨t, n, ps, ho⟩))
 ·rename_i f xs ats ho
  split at h
  ·rename_i sg hsg
   simp only [Bool.and_eq_true, Option.isNone_iff_eq_none] at h
   exact .inr ⟨f, xs, ats, sg, ho, h.1, hsg, h.2⟩
  ·cases h
 ·cases h
def Post (K : Sem1) (m : Nat) (bd : Bd) (st : List (Array Value)) (i : Nat) (k : SV → St → Tr) (out : Out) (tm : Array Value) (v : Value) (w : World) : Prop :=
 ∃ sv s r g, R bd (· < s.base + 64 * (i + 1)) s r g tm st w ∧ SRep w (Mt bd.Z s.heap g) g r sv v ∧ sv.all (Atom.ok (· < s.base + 64 * (i + 1)) s.heap) ∧ run K m (k sv s) r = some out
def DoneP (c : Cx) (a : Act) (o : Oper) (w : World) (Kp : Value → World → Prop) : Prop :=
 (∀ ld, pureKind o.op = some ld → ∃ v, (∀ w2, (ld = true → Ext w w2) → (execOp a.eval o).run c.P w2 = .ok (.value v) w2) ∧ Kp v w) ∧
 Done c a o w fun a' w' => (freshB c o = true → Ext w w') ∧ ∃ v, a' = a.put o.dst v ∧ Kp v w'
theorem symGo_ok (hcall : CallOK c K) (hinl : InlOK c K m inl) {s : St} {r : Env} {g : Nat → G} {a : Act} {w : World} {i : Nat} {o : Oper} {rest : List Oper} {k : SV → St → Tr} {out : Out}
  (hkc : ∀ v s', Leafy K m (k v s')) (h : R bd (· < s.base + 64 * i) s r g a.tmps st w) (hrun : run K m (symGo c fn rid inl ops i o rest k s) r = some out) :
  DoneP c a o w (Post K m bd st i k out a.tmps) := by
 have hm : ∀ j, j < s.base + 64 * i → j < s.base + 64 * (i + 1) := fun j hj => by omega
 have plain : ∀ {gs : List (E .bool)} {sv : SV} {s' : St} {frz : Bool}, (∀ x xs ats, o.op ≠ .call { callee := .value x, args := xs, argTypes := ats }) → symOp c.P frz s (s.base + 64 * i) o.op = some (gs, sv, s') → run K m (.guards gs (k sv { s' with base := s.base })) r = some out →
   DoneP c a o w (Post K m bd st i k out a.tmps) := by
  intro gs sv s' frz hnc hs hr
  obtain ⟨hg, hr'⟩ := run_guards hr
  refine ⟨fun ld hld => ?_, ?_⟩
  ·obtain ⟨v, g', h1, h2, h3, h4⟩ := good_pure h o hs hg hld
   exact ⟨v, h1, sv, { s' with base := s.base }, r, g', (h2.mono hm).based s.base, h3, SV.all_mono (fun b hb => Atom.ok_mono hm (fun _ h => h) hb) h4, hr'⟩
  ·obtain ⟨v, w', g', h1, h2, h3, h4⟩ := good_op h o hs hg
   refine .val v w' h1 ⟨fun hf => ?_, v, rfl, sv, { s' with base := s.base }, r, g', (h2.mono hm).based s.base, h3, SV.all_mono (fun b hb => Atom.ok_mono hm (fun _ h => h) hb) h4, hr'⟩
   rcases fresh_cases hf with hf | ⟨f, xs, ats, sg, ho, _⟩
   ·rcases h1 with h1 | ⟨h1, _⟩
    ·exact (grows_op hf).run h1
    ·exact (grows_op hf).run h1
   ·exact (hnc _ _ _ ho).elim
 unfold symGo at hrun
 split at hrun
 ·rename_i f args ts hop
  split at hrun
  case h_2 => simp only [run] at hrun; cases hrun
  rename_i gf caps hget
  obtain ⟨hv, hok⟩ := get_a h hget
  simp only [ARep] at hv
  have hex := exec_call (ρ := a.eval) hop hv
  refine ⟨fun ld hld => by rw [hop] at hld; simp [pureKind] at hld, ?_⟩
  have hfr : freshB c o = true → c.ins gf = none ∧ ∃ sg, c.sg gf = some sg ∧ (sg.ps.all fun h => !h.byRef) = true := by
   intro hf
   rcases fresh_cases hf with (⟨t, ho⟩ | ⟨t, v, ho⟩ | ⟨t, n, ps, ho⟩) | ⟨f', xs, ats, sg, ho, h0, h1, h2⟩
   ·rw [hop] at ho; cases ho
   ·rw [hop] at ho; cases ho
   ·rw [hop] at ho; cases ho
   ·rw [hop] at ho
    cases ho
    simp only [St.get, SV.a.injEq, Atom.clo.injEq] at hget
    obtain ⟨rfl, _⟩ := hget
    exact ⟨h0, sg, h1, h2⟩
  split at hrun
  ·rename_i ty hins
   split at hrun
   case h_2 => simp only [run] at hrun; cases hrun
   split at hrun
   case h_2 => simp only [run] at hrun; cases hrun
   rename_i gs sv s' hsi
   obtain ⟨hg, hr'⟩ := run_guards hrun
   obtain ⟨hent, hcalls⟩ := hcall.1.1 gf ty s _ args.toList gs sv s' bd _ r g a st w hins hsi h hg
   refine .call f args ts hop gf (#[] ++ args.map a.eval ++ #[]) (by rw [hex]; exact run_callFunc hent _ w) ?_
   have harr : (#[] ++ args.map a.eval ++ #[] : Array Value) = (args.toList.map a.eval).toArray := by
    apply Array.ext'; simp
   rw [harr]
   refine hcalls.mono ?_
   rintro e w' ⟨v, g', rfl, h1, h2, h3⟩
   refine ⟨v, rfl, fun hf => ?_, v, rfl, sv, { s' with base := s.base }, _, g', (h1.mono hm).based s.base, h2, SV.all_mono (fun b hb => Atom.ok_mono hm (fun _ h => h) hb) h3, hr'⟩
   have := (hfr hf).1
   rw [hins] at this; cases this
  split at hrun
  ·rename_i sig hsig
   split at hrun
   case isFalse =>
    rename_i hce
    split at hrun
    case isFalse => simp only [run] at hrun; cases hrun
    rename_i hbe
    split at hrun
    case h_2 => simp only [run] at hrun; cases hrun
    rename_i gs ins sv s' hsc
    obtain ⟨hg, hr'⟩ := run_guards hrun
    simp only [run] at hr'
    split at hr'
    case h_2 => cases hr'
    rename_i outs hK
    obtain ⟨cvs, hcvs⟩ : ∃ cvs : List Value, cvs = caps.map fun c => Value.pointer (some ⟨(g c.1).blk, c.2, none⟩) := ⟨_, rfl⟩
    have hlen : s.cur.length = a.tmps.size := by rw [h.cur.length, Array.length_toList]
    have hcl : cvs.length = caps.length := by rw [hcvs, List.length_map]
    have h2 : R bd (· < s.base + 64 * i) { s with cur := s.cur ++ caps.map fun p => .a (.ptr p.1 p.2) } r g ({ a with tmps := a.tmps ++ cvs.toArray } : Act).tmps st w := by
     refine h.slots (cur := s.cur ++ caps.map fun p => .a (.ptr p.1 p.2)) (stk := s.stk) (st' := st) ?_ h.stk (fun v hv => ?_) h.nstk
     ·simp only [Array.toList_append]
      exact h.cur.app (by rw [hcvs]; exact SReps.ptrs caps)
     ·rcases List.mem_append.1 hv with hv | hv
      ·exact h.ncur v hv
      ·obtain ⟨p, hp, rfl⟩ := List.mem_map.1 hv
       exact hok p hp
    obtain ⟨hent, hcalls⟩ := hcall.2 gf sig _ _ _ gs ins sv s' outs bd _ r g { a with tmps := a.tmps ++ cvs.toArray } st w hsig hsc h2 (fun _ h => h) hg hK
    refine .call f args ts hop gf _ (by rw [hex]; exact run_callFunc hent _ w) ?_
    have harr : (#[] ++ args.map a.eval ++ (caps.map fun c => Value.pointer (some ⟨(g c.1).blk, c.2, none⟩)).toArray : Array Value) = ((args.toList ++ (List.range caps.length).map fun j => Operand.tmp (s.cur.length + j)).map ({ a with tmps := a.tmps ++ cvs.toArray } : Act).eval).toArray := by
     rw [← hcvs]
     apply Array.ext'
     simp only [List.map_append, List.map_map, Array.toList_append, Array.toList_map, List.nil_append]
     congr 1
     ·refine List.map_congr_left fun x hx => ?_
      have hb := List.all_eq_true.1 hbe x hx
      cases x with
      | tmp t =>
       simp only [belowOp, decide_eq_true_eq] at hb
       rw [hlen] at hb
       simp only [Act.eval]
       rw [Array.getD_eq_getD_getElem?, Array.getD_eq_getD_getElem?, Array.getElem?_append_left hb]
      | _ => rfl
     ·apply List.ext_getElem
      ·simp [hcl]
      ·intro j h3 h4
       simp only [List.getElem_map, List.getElem_range, Function.comp, Act.eval]
       have h3' : j < cvs.length := h3
       rw [Array.getD_eq_getD_getElem?, hlen, Array.getElem?_append_right (by omega), Nat.add_sub_cancel_left]
       simp [h3']
    rw [harr]
    refine hcalls.mono ?_
    rintro e w' ⟨v, g', rfl, h0, h1, h2, h3⟩
    have hm : ∀ j, j < s.base + 64 * i + 64 → j < s.base + 64 * (i + 1) := fun j hj => by omega
    have h1' : R bd (· < s.base + 64 * i + 64) { s' with cur := s'.cur.take s.cur.length } (putN r (s.base + 64 * i) outs) g' a.tmps st w' := by
     refine h1.slots (cur := s'.cur.take s.cur.length) (stk := s'.stk) (st' := st) ?_ h1.stk (fun v hv => h1.ncur v (List.mem_of_mem_take hv)) h1.nstk
     have := h1.cur.take s.cur.length
     simp only [Array.toList_append] at this
     rw [show s.cur.length = a.tmps.toList.length by rw [hlen, Array.length_toList], List.take_left] at this
     rw [show s.cur.length = a.tmps.toList.length by rw [hlen, Array.length_toList]]
     exact this
    refine ⟨v, rfl, fun hf => ?_, v, rfl, sv, { s' with cur := s'.cur.take s.cur.length, base := s.base }, _, g', (h1'.mono hm).based s.base, h2, SV.all_mono (fun b hb => Atom.ok_mono hm (fun _ h => h) hb) h3, hr'⟩
    exfalso
    rcases fresh_cases hf with (⟨t, ho⟩ | ⟨t, v, ho⟩ | ⟨t, n, ps, ho⟩) | ⟨f', xs, ats, sg, ho, h0, h1, h2⟩
    ·rw [hop] at ho; cases ho
    ·rw [hop] at ho; cases ho
    ·rw [hop] at ho; cases ho
    ·rw [hop] at ho
     cases ho
     simp only [St.get, SV.a.injEq, Atom.clo.injEq] at hget
     obtain ⟨_, rfl⟩ := hget
     simp at hce
   rename_i hce
   have hce' : caps = [] := by simpa using hce
   subst hce'
   split at hrun
   case h_2 => simp only [run] at hrun; cases hrun
   rename_i gs ins sv s' hsc
   obtain ⟨hg, hr'⟩ := run_guards hrun
   simp only [run] at hr'
   split at hr'
   case h_2 => cases hr'
   rename_i outs hK
   obtain ⟨hent, hcalls⟩ := hcall.2 gf sig s _ _ gs ins sv s' outs bd _ r g a st w hsig hsc h (fun _ h => h) hg hK
   refine .call f args ts hop gf (#[] ++ args.map a.eval ++ #[]) (by rw [hex]; exact run_callFunc hent _ w) ?_
   have harr : (#[] ++ args.map a.eval ++ #[] : Array Value) = (args.toList.map a.eval).toArray := by
    apply Array.ext'; simp
   rw [harr]
   refine hcalls.mono ?_
   rintro e w' ⟨v, g', rfl, h0, h1, h2, h3⟩
   have hm : ∀ j, j < s.base + 64 * i + 64 → j < s.base + 64 * (i + 1) := fun j hj => by omega
   refine ⟨v, rfl, fun hf => ?_, v, rfl, sv, { s' with base := s.base }, _, g', (h1.mono hm).based s.base, h2, SV.all_mono (fun b hb => Atom.ok_mono hm (fun _ h => h) hb) h3, hr'⟩
   obtain ⟨_, sg, e1, e2⟩ := hfr hf
   rw [hsig] at e1; cases e1
   exact h0 e2
  ·rename_i hsn
   have h' : R bd (· < s.base + 64 * (i + 1)) (s.keepAt (opTmps rest ++ ((rest.filterMap (·.guard)).filterMap fun gd => (ops[gd.1]?).bind (·.dst)) ++ (c.hint fn).liveOut rid) (s.base + 64 * (i + 1))) r g a.tmps st w := ((h.mono hm).keep _).based (s.base + 64 * (i + 1))
   obtain ⟨h1, h2⟩ := SReps.get_ops h args.toList
   have hargs : SReps w (Mt bd.Z s.heap g) g r (args.toList.map s.get ++ caps.map fun p => .a (.ptr p.1 p.2)) (args.toList.map a.eval ++ caps.map fun c => Value.pointer (some ⟨(g c.1).blk, c.2, none⟩)) := h1.app (SReps.ptrs caps)
   have hall : ∀ v ∈ args.toList.map s.get ++ caps.map fun p => .a (.ptr p.1 p.2), v.all (Atom.ok (· < s.base + 64 * (i + 1)) s.heap) := by
    intro v hv
    rcases List.mem_append.1 hv with hv | hv
    ·exact SV.all_mono (fun b hb => Atom.ok_mono hm (fun _ h => h) hb) (h2 v hv)
    ·obtain ⟨p, hp, rfl⟩ := List.mem_map.1 hv
     exact hok p hp
   obtain ⟨hent, hcalls⟩ := hinl gf _ (s.keepAt (opTmps rest ++ ((rest.filterMap (·.guard)).filterMap fun gd => (ops[gd.1]?).bind (·.dst)) ++ (c.hint fn).liveOut rid) (s.base + 64 * (i + 1))) k bd r g a.tmps st w _ out h' hargs hall hkc hrun
   ·refine .call f args ts hop gf _ (by rw [hex]; exact run_callFunc hent _ w) ?_
    have harr : (#[] ++ args.map a.eval ++ (caps.map fun c => Value.pointer (some ⟨(g c.1).blk, c.2, none⟩)).toArray : Array Value) = (args.toList.map a.eval ++ caps.map fun c => Value.pointer (some ⟨(g c.1).blk, c.2, none⟩)).toArray := by
     apply Array.ext'; simp
    rw [harr]
    refine hcalls.mono ?_
    rintro e w' ⟨v, sv, s', r', g', rfl, h1, h2, h3, h4⟩
    have hm : ∀ j, j < s'.base → j < s'.base + 64 * (i + 1) := fun j hj => by omega
    refine ⟨v, rfl, fun hf => ?_, v, rfl, sv, s', r', g', h1.mono hm, h2, SV.all_mono (fun b hb => Atom.ok_mono hm (fun _ h => h) hb) h3, h4⟩
    obtain ⟨_, sg, e1, e2⟩ := hfr hf
    rw [hsn] at e1; cases e1
 ·rename_i hnc
  split at hrun
  ·split at hrun
   ·rename_i gs sv s' hs
    obtain ⟨hg, hr'⟩ := run_guards hrun
    unfold symNn at hs
    split at hs
    case h_2 => cases hs
    rename_i x ho
    split at hs
    case h_2 => cases hs
    rename_i t e hx
    simp only [Option.some.injEq, Prod.mk.injEq] at hs
    obtain ⟨rfl, rfl, rfl⟩ := hs
    have h1 := h.solid x
    obtain ⟨hv, hn⟩ := get_a h1 hx
    have hne := hg _ (List.mem_singleton.2 rfl)
    have hex : ∀ w2, (execOp a.eval o).run c.P w2 = .ok (.value (a.eval x)) w2 := fun w2 => by simp only [execOp, ho]; rfl
    have hrep : SRep w (Mt bd.Z (s.solid x).heap g) g r (.a (.x (.sl true t) (.o1 (.re false true t) e))) (a.eval x) := by
     obtain ⟨y, cp, a1, a2, a3, a4, a5⟩ := hv
     simp only [den, O1.d, Bool.not_eq_true', List.isEmpty_eq_false_iff] at hne
     refine ⟨y, cp, a1, a2, fun _ => ⟨fun hx => ?_, fun hx => (hne hx).elim⟩, a4, a5⟩
     have h0 := a4 hx
     have hpos := List.length_pos_iff.2 hne
     have a2' : (den e r : List t.D).length ≤ cp := a2
     omega
    have hp : Post K m bd st i k out a.tmps (a.eval x) w := ⟨_, { s.solid x with base := s.base }, r, g, (h1.mono hm).based s.base, hrep, Atom.ok_mono hm (fun _ h => h) hn, hr'⟩
    refine ⟨fun ld hld => ⟨_, fun w2 _ => hex w2, hp⟩, .val _ w (.inl (hex w)) ⟨fun hf => ?_, _, rfl, hp⟩⟩
    rcases fresh_cases hf with (⟨t, hx⟩ | ⟨t, v, hx⟩ | ⟨t, n, ps, hx⟩) | ⟨f, xs, ats, sg, hx, _⟩ <;> (rw [ho] at hx; cases hx)
   split at hrun
   ·rename_i gs sv s' hs
    obtain ⟨hg, hr'⟩ := run_guards hrun
    have hsl : ∃ t x lo hi mx, o.op = .slice t x lo hi mx := by
     unfold symView at hs
     split at hs
     ·rename_i t x lo hi ho; exact ⟨t, x, lo, hi, none, ho⟩
     ·cases hs
    obtain ⟨t, x, lo, hi, mx, ho⟩ := hsl
    refine ⟨fun ld hld => by rw [ho] at hld; simp [pureKind] at hld, ?_⟩
    obtain ⟨v, w', g', h1, h2, h3, h4⟩ := good_view h o hs hg
    refine .val v w' h1 ⟨fun hf => ?_, v, rfl, sv, { s' with base := s.base }, r, g', (h2.mono hm).based s.base, h3, SV.all_mono (fun b hb => Atom.ok_mono hm (fun _ h => h) hb) h4, hr'⟩
    rcases fresh_cases hf with (⟨t, hx⟩ | ⟨t, v, hx⟩ | ⟨t, n, ps, hx⟩) | ⟨f, xs, ats, sg, hx, _⟩ <;> (rw [ho] at hx; cases hx)
   ·simp only [run] at hrun; cases hrun
  split at hrun
  ·rename_i hs
   exact plain (fun x xs ats hx => hnc x xs ats hx) hs hrun
  ·simp only [run] at hrun; cases hrun
theorem symGo_closed (hcl : InlCl K m inl) {i : Nat} {o : Oper} {rest : List Oper} {k : SV → St → Tr} (hk : ∀ v s', Leafy K m (k v s')) (s : St) : Leafy K m (symGo c fn rid inl ops i o rest k s) := by
 unfold symGo
 split
 ·split
  ·split
   ·split
    ·split
     ·exact Leafy.guards (hk _ _)
     ·exact Leafy.bad
    ·exact Leafy.bad
   ·split
    ·split
     ·split
      ·exact Leafy.guards (Leafy.call (hk _ _))
      ·exact Leafy.bad
     ·split
      ·split
       ·exact Leafy.guards (Leafy.call (hk _ _))
       ·exact Leafy.bad
      ·exact Leafy.bad
    ·exact hcl _ _ _ _ hk
  ·exact Leafy.bad
 ·split
  ·split
   ·exact Leafy.guards (hk _ _)
   ·split
    ·exact Leafy.guards (hk _ _)
    ·exact Leafy.bad
  ·split
   ·exact Leafy.guards (hk _ _)
   ·exact Leafy.bad
theorem symStep_closed (hcl : InlCl K m inl) {i : Nat} {o : Oper} {rest : List Oper} {k : St → Tr} (hk : ∀ s', Leafy K m (k s')) (s : St) : Leafy K m (symStep c fn rid inl ops i o rest k s) := by
 unfold symStep
 split
 ·exact symGo_closed hcl (fun _ _ => hk _) _
 ·split
  ·exact Leafy.bad
  ·split
   ·exact hk _
   ·split
    ·split
     ·exact symGo_closed hcl (fun _ _ => hk _) _
     ·exact hk _
    ·split
     ·exact Leafy.ite (symGo_closed hcl (fun _ _ => hk _) _) (hk _)
     ·exact Leafy.ite (hk _) (symGo_closed hcl (fun _ _ => hk _) _)
   ·exact Leafy.bad
theorem symOps_closed (hcl : InlCl K m inl) {k : St → Tr} (hk : ∀ s', Leafy K m (k s')) : ∀ (l : List Oper) (i : Nat) (s : St), Leafy K m (symOps c fn rid inl ops k i l s)
 | [], i, s => hk s
 | o :: l, i, s => symStep_closed hcl (fun s' => symOps_closed hcl hk l (i + 1) s') s
theorem Post.nx {a : Act} {o : Oper} {w' : World} {i : Nat} {k : St → Tr} {out : Out} {v : Value} (h : Post K m bd st i (fun v s' => k (s'.putD o.dst v)) out a.tmps v w') : Nx K m bd st a.defers (i + 1) k out (a.put o.dst v) w' := by
 obtain ⟨sv, s, r, g, h2, h3, h4, h5⟩ := h
 refine ⟨put_defers a o.dst v, s.putD o.dst sv, r, g, ?_, h5⟩
 ·have := R.putD (d := o.dst) h2 h3 h4
  cases hd : o.dst <;> simpa [St.putD, hd] using this
def StepP (c : Cx) (ops : Array Oper) (a : Act) (o : Oper) (w : World) (Kp : Act → World → Prop) : Prop :=
 (Region.wanted o (yielded ops a.tmps) = false ∧ Kp (a.put o.dst undef) w) ∨ (Region.wanted o (yielded ops a.tmps) = true ∧ DoneP c a o w fun v w' => Kp (a.put o.dst v) w')
theorem Done.mono {a : Act} {o : Oper} {w : World} {K1 K2 : Act → World → Prop} (h : Done c a o w K1) (hk : ∀ a w, K1 a w → K2 a w) : Done c a o w K2 := by
 cases h with
 | val v w' h h1 => exact .val v w' h (hk _ _ h1)
 | call x xs ats ho f args h hc => exact .call x xs ats ho f args h (hc.mono fun e w' ⟨v, he, h1⟩ => ⟨v, he, hk _ _ h1⟩)
theorem DoneP.mono {a : Act} {o : Oper} {w : World} {K1 K2 : Value → World → Prop} (h : DoneP c a o w K1) (hk : ∀ v w, K1 v w → K2 v w) : DoneP c a o w K2 :=
 ⟨fun ld hld => let ⟨v, h1, h2⟩ := h.1 ld hld; ⟨v, h1, hk _ _ h2⟩, h.2.mono fun a' w' ⟨h1, v, h2, h3⟩ => ⟨h1, v, h2, hk _ _ h3⟩⟩
theorem symStep_ok (hcall : CallOK c K) (hinl : InlOK c K m inl) {s : St} {r : Env} {g : Nat → G} {a : Act} {w : World} {i : Nat} {o : Oper} {rest : List Oper} {k : St → Tr} {out : Out}
  (hkc : ∀ s', Leafy K m (k s')) (h : R bd (· < s.base + 64 * i) s r g a.tmps st w) (hrun : run K m (symStep c fn rid inl ops i o rest k s) r = some out) :
  StepP c ops a o w (Nx K m bd st a.defers (i + 1) k out) := by
 have go : ∀ {s : St}, R bd (· < s.base + 64 * i) s r g a.tmps st w → run K m (symGo c fn rid inl ops i o rest (fun v s' => k (s'.putD o.dst v)) s) r = some out → DoneP c a o w fun v w' => Nx K m bd st a.defers (i + 1) k out (a.put o.dst v) w' :=
  fun h hr => (symGo_ok hcall hinl (fun _ _ => hkc _) h hr).mono fun v w' hp => hp.nx
 have skip : ∀ {s : St}, R bd (· < s.base + 64 * i) s r g a.tmps st w → run K m (k (s.putD o.dst (.a .un))) r = some out → Nx K m bd st a.defers (i + 1) k out (a.put o.dst undef) w := by
  intro s h hr
  refine Post.nx (v := undef) (k := k) ⟨.a .un, s, r, g, h.mono fun j hj => by omega, rfl, trivial, hr⟩
 unfold symStep at hrun
 split at hrun
 ·rename_i hg
  exact .inr ⟨by simp [Region.wanted, hg], go h hrun⟩
 ·rename_i j want hg
  split at hrun
  ·simp only [run] at hrun; cases hrun
  ·rename_i t ht
   split at hrun
   ·rename_i hcur
    have hc : s.cur[t]? = some (.a .un) := by
     rw [List.getD_eq_getElem?_getD] at hcur
     cases hx : s.cur[t]? with
     | none => rw [hx] at hcur; cases hcur
     | some y => rw [hx] at hcur; simp at hcur; rw [hcur]
    obtain ⟨v, hv, hs⟩ := h.cur.get hc
    simp only [SRep, ARep] at hs
    subst hs
    refine .inl ⟨?_, skip h hrun⟩
    have hv' : a.tmps[t]? = some undef := by rw [← Array.getElem?_toList]; exact hv
    simp [Region.wanted, hg, yielded, ht, hv', undef]
   ·rename_i e hcur
    have hc : s.cur[t]? = some (.a (.x .bool e)) := by
     rw [List.getD_eq_getElem?_getD] at hcur
     cases hx : s.cur[t]? with
     | none => rw [hx] at hcur; cases hcur
     | some y => rw [hx] at hcur; simp at hcur; rw [hcur]
    obtain ⟨v, hv, hs⟩ := h.cur.get hc
    have hvb : v = .bool (den e r) := bool_of (w := w) (M := Mt bd.Z s.heap g) (g := g) hs
    have hv' : a.tmps[t]? = some (.bool (den e r)) := by rw [← Array.getElem?_toList, hv, hvb]
    have hwant : Region.wanted o (yielded ops a.tmps) = (den e r == want) := by
     simp [Region.wanted, hg, yielded, ht, hv']
    split at hrun
    ·rename_i b hl
     have hd := litB_eq hl r
     split at hrun
     ·rename_i hbw
      exact .inr ⟨by rw [hwant, hd, hbw]; simp, go h hrun⟩
     ·rename_i hbw
      exact .inl ⟨by rw [hwant, hd]; simpa using hbw, skip h hrun⟩
    ·split at hrun
     ·rename_i hwt
      simp only [run] at hrun
      split at hrun
      ·rename_i hd
       exact .inr ⟨by rw [hwant, hd, hwt]; rfl, go (s := s.asm e true) (h.asm hd) hrun⟩
      ·rename_i hd
       have hd : den e r = false := by simpa using hd
       exact .inl ⟨by rw [hwant, hd, hwt]; rfl, skip (s := s.asm e false) (h.asm hd) hrun⟩
     ·rename_i hwt
      have hwt : want = false := by simpa using hwt
      simp only [run] at hrun
      split at hrun
      ·rename_i hd
       exact .inl ⟨by rw [hwant, hd, hwt]; rfl, skip (s := s.asm e true) (h.asm hd) hrun⟩
      ·rename_i hd
       have hd : den e r = false := by simpa using hd
       exact .inr ⟨by rw [hwant, hd, hwt]; rfl, go (s := s.asm e false) (h.asm hd) hrun⟩
   ·simp only [run] at hrun; cases hrun
theorem Done.upon {Q : Exit → Act → World → Prop} {a : Act} {o : Oper} {w : World} {Kp : Act → World → Prop} (h : Done c a o w Kp) : o.wp c.P a w Kp Q := by
 unfold Oper.wp
 cases h with
 | val v w' h hk =>
  rcases h with h | ⟨h, rfl⟩
  ·rw [h]; exact hk
  ·rw [h]; exact hk
 | call x xs ats ho f args h hc =>
  rw [h]
  refine hc.mono ?_
  rintro e w' ⟨v, rfl, hk⟩
  exact hk
theorem symOps_ok (hcall : CallOK c K) (hinl : InlOK c K m inl) (hcl : InlCl K m inl) {k : St → Tr} (hkc : ∀ s', Leafy K m (k s')) {Q : Exit → Act → World → Prop} {df : List Deferred} {out : Out} :
  ∀ (l : List Oper) (i : Nat) (a : Act) (w : World), (∀ a' w', Nx K m bd st df (i + l.length) k out a' w' → Q .normal a' w') → Nx K m bd st df i (symOps c fn rid inl ops k i l) out a w → wpList c.P ops Q l a w
 | [], i, a, w, hQ, h => hQ a w h
 | o :: l, i, a, w, hQ, h => by
  obtain ⟨hdf, s, r, g, hR, hrun⟩ := h
  have hs := symStep_ok hcall hinl (fun s' => symOps_closed hcl hkc l (i + 1) s') hR hrun
  rw [hdf] at hs
  have ih := fun a' w' h' => symOps_ok hcall hinl hcl hkc l (i + 1) a' w' (fun a' w' h' => hQ a' w' (by rw [List.length_cons, ← Nat.add_assoc, Nat.add_right_comm]; exact h')) h'
  unfold wpList
  rcases hs with ⟨hw, hk⟩ | ⟨hw, -, hd⟩
  ·simp only [hw, Bool.false_eq_true, if_false]
   exact ih _ _ hk
  ·simp only [hw, if_true]
   refine .inl (Done.upon (hd.mono ?_))
   rintro a' w' ⟨-, v, rfl, hk⟩
   exact ih _ _ hk
theorem orderFrom_ok (hcall : CallOK c K) (hinl : InlOK c K m inl) (hcl : InlCl K m inl) {k : St → Tr} (hkc : ∀ s', Leafy K m (k s')) {Q : Exit → Act → World → Prop} (hQp : ∀ ch a w, ¬ Q (.panic ch) a w) {df : List Deferred} {out : Out}
  (hsel : Region.noSelect ops = true) {t : List (List Nat)} (ht : ancOk ops t = true) :
  ∀ (n i : Nat) (listed : Array Bool) (l : List Oper) (a : Act) (w : World), orderFrom c ops t n listed = some l → ClosedL ops listed → (∀ a' w', Nx K m bd st df (i + l.length) k out a' w' → Q .normal a' w') →
   Nx K m bd st df i (symOps c fn rid inl ops k i l) out a w → wpAnyE c.P ops Q (fun j => match ops[j]? with | some oj => lateB c oj | none => false) n listed a w
 | 0, i, listed, l, a, w, ho, hc, hQ, h => by
  unfold orderFrom at ho
  split at ho
  case isFalse => cases ho
  rename_i he
  cases ho
  exact ⟨by simpa using he, hQ a w h⟩
 | n + 1, i, listed, l, a, w, ho, hc, hQ, h => by
  unfold orderFrom at ho
  split at ho
  case h_2 => cases ho
  rename_i j hfind
  have hj := List.find?_some hfind
  have hmem := List.mem_of_find?_eq_some hfind
  split at ho
  case h_2 => cases ho
  rename_i o hoj
  rw [hoj] at hj
  simp only at hj
  obtain ⟨l', hl', rfl⟩ := Option.map_eq_some_iff.1 ho
  obtain ⟨hdf, s, r, g, hR, hrun⟩ := h
  have hs := symStep_ok hcall hinl (fun s' => symOps_closed hcl hkc l' (i + 1) s') hR hrun
  rw [hdf] at hs
  have ih := fun a' w' h' => orderFrom_ok hcall hinl hcl hkc hQp hsel ht n (i + 1) _ l' a' w' hl' (hc.set hmem) (fun a' w' h' => hQ a' w' (by rw [List.length_cons, ← Nat.add_assoc, Nat.add_right_comm]; exact h')) h'
  unfold takeOk at hj
  split at hj
  ·rename_i ld hld
   simp only [Bool.and_eq_true, Bool.or_eq_true, Bool.not_eq_true'] at hj
   obtain ⟨hfree, hlate⟩ := hj
   have hlate' : ld = true → ∀ listed', ClosedL ops listed' → (∀ k, listed.getD k true = true → listed'.getD k true = true) → listed'.getD j true = false → ∀ x ∈ Region.ready .any ops listed', (match ops[x]? with | some oj => lateB c oj | none => false) = false := by
    intro hl listed' hc' hsub hun x hx
    rcases hlate with hlate | hlate
    ·rw [hl] at hlate; cases hlate
    obtain ⟨hxun, ox, hox, hxall⟩ := mem_ready.1 hx
    have hxs : x < ops.size := (Array.getElem?_eq_some_iff.1 hox).1
    simp only [List.all_eq_true, List.mem_range, Bool.or_eq_true] at hlate
    have h0 := hlate x hxs
    simp only [hox] at h0 ⊢
    rcases h0 with h1 | h1
    ·rw [hsub x h1] at hxun; cases hxun
    ·rcases Bool.or_eq_true .. ▸ h1 with h1 | h1
     ·simpa using h1
     ·have := anc_listed ht hc' (x + 1) x (by omega) hxs (fun oj hoj e he hb => by rw [hox] at hoj; cases hoj; exact hxall e he hb) j (by simpa using h1)
      rw [getD_false_of_true hun] at this; cases this
   rcases hs with ⟨hw, hk⟩ | ⟨hw, hp, -⟩
   ·exact wpAnyE_first hoj (Region.noSelect_spec hsel) hQp n listed a w (Region.free_spec hoj hfree) hc hlate' hmem (.inr ⟨hw, rfl⟩) (ih _ _ hk)
   ·obtain ⟨v, h1, h2⟩ := hp ld hld
    exact wpAnyE_first hoj (Region.noSelect_spec hsel) hQp n listed a w (Region.free_spec hoj hfree) hc hlate' hmem (.inl ⟨hw, h1⟩) (ih _ _ h2)
  ·rename_i hnone
   have hr : Region.ready .any ops listed = [j] := by simpa using hj
   refine wpAnyE_one hr ?_
   unfold wpOp
   simp only [hoj]
   rcases hs with ⟨hw, hk⟩ | ⟨hw, -, hd⟩
   ·simp only [hw, Bool.false_eq_true, if_false]
    exact ⟨fun _ => Ext.refl w, ih _ _ hk⟩
   ·simp only [hw, if_true]
    refine .inl (Done.upon (hd.mono ?_))
    rintro a' w' ⟨hf, v, rfl, hk⟩
    refine ⟨fun hl => hf ?_, ih _ _ hk⟩
    simp only [lateB, hnone, Option.isNone_none, Bool.true_and, Bool.not_eq_false'] at hl
    exact hl
end
end Go.Sm
namespace Go.Sm
set_option linter.unusedVariables false
set_option linter.unusedSimpArgs false
def InsPost (w : World) (o : Option Nat) (n : Nat) (ys : List Value) (e : Ending) (w' : World) : Prop :=
 ∃ v' o', e = .returned v' ∧ OwnV w' v' o' 1 (n + 1) ys ∧ (o' = o ∨ o' = some w.heap.size) ∧ (o' = some w.heap.size → w.heap.size < w'.heap.size) ∧
  (∀ b, b < w.heap.size → some b ≠ o → w'.heap[b]? = w.heap[b]?) ∧ w.heap.size ≤ w'.heap.size ∧ w'.os = w.os ∧ w'.tape = w.tape ∧ w'.output = w.output
def InsRun (P : Program) (f : FuncId) : Prop := Enters P f ∧
 ∀ (w : World) (v : Value) (o : Option Nat) (n k vb voff vc : Nat) (xs : List Value) (cu2 : Array Value) (ety2 : TypeId) (u : Value), OwnV w v o 1 n xs → k ≤ n → (n : Int) ≤ lim → o ≠ some vb →
  w.heap[vb]? = some (.cells cu2 ety2 (0, 0)) → cu2[voff]? = some u → (∀ x ∈ xs, x.oneCell' = true) → u.oneCell' = true →
  Calls P f #[v, .int .i64 k, .slice (some ⟨vb, voff, none⟩) 1 vc] w (InsPost w o n (xs.take k ++ [u] ++ xs.drop k))
theorem insAt_ok {P : Program} {f : FuncId} (hrun : ∀ (w : World) (v : Value) (o : Option Nat) (n k vb voff vc : Nat) (xs : List Value) (cu2 : Array Value) (ety2 : TypeId) (u : Value), OwnV w v o 1 n xs → k ≤ n → (n : Int) ≤ lim → o ≠ some vb →
  w.heap[vb]? = some (.cells cu2 ety2 (0, 0)) → cu2[voff]? = some u → (∀ x ∈ xs, x.oneCell' = true) → u.oneCell' = true →
  Calls P f #[v, .int .i64 k, .slice (some ⟨vb, voff, none⟩) 1 vc] w (InsPost w o n (xs.take k ++ [u] ++ xs.drop k)))
  {bd : Bd} {N : Nat → Prop} {s s' : St} {r : Env} {g : Nat → G} {a : Act} {st : List (Array Value)} {w : World} (h : R bd N s r g a.tmps st w) {dp : Bool} {id : Nat} {ty : Ty} {i j : Nat} {k : E (.int .i64)} {x n y : Operand} {gs : List (E .bool)} {sv : SV}
  (hs : insAt dp s id ty i j k = some (gs, sv, s')) (hg : ∀ c ∈ gs, den c r = true) (hxv : a.eval x = (g i).val) (hyv : a.eval y = (g j).val) (hnv : a.eval n = .int .i64 (den k r)) (hnn : k.vs N) :
  Calls P f #[a.eval x, a.eval n, a.eval y] w fun e w' => ∃ v g', e = .returned v ∧ R bd N s' r g' a.tmps st w' ∧ SRep w' (Mt bd.Z s'.heap g') g' r sv v ∧ sv.all (Atom.ok N s'.heap) := by
 unfold insAt at hs
 split at hs
 case h_2 => cases hs
 rename_i d1 ty1 e1 d2 ty2 e2 hi hj
 split at hs
 case isFalse => cases hs
 rename_i hd
 obtain ⟨rfl, rfl⟩ := hd
 split at hs
 case isFalse => cases hs
 rename_i h1
 subst h1
 split at hs
 case isFalse => cases hs
 rename_i h2
 subst h2
 split at hs
 case isFalse => cases hs
 rename_i hc
 obtain ⟨hij, hsz, hfree⟩ := hc
 simp only [Option.some.injEq, Prod.mk.injEq] at hs
 obtain ⟨rfl, rfl, rfl⟩ := hs
 obtain ⟨hid, hnp⟩ := free_eq hfree
 have g0 : (0 : Int) ≤ den k r := gLe_iff.1 (hg (gLe (eI .i64 0) k) (by simp))
 have g1 : (den k r : Int) ≤ ((den e1 r : List ty2.D).length : Int) := gLe_iff.1 (hg (gLe k (lenI e1)) (by simp))
 have g2 : ((den e1 r : List ty2.D).length : Int) ≤ lim := gLe_iff.1 (hg (gLe (lenI e1) (eI .i64 lim)) (by simp))
 have g3 : (den e2 r : List ty2.D).length = 1 := by
  have := hg (.o2 (.cm .eql .i64 .i64) (lenI e2) (eI .i64 1)) (by simp)
  simp only [den, O2.d, O1.d, cmI, lenI, eI, beq_iff_eq] at this
  exact Int.ofNat_inj.1 this
 obtain ⟨o1, xs, Fs, b1, b2, b3⟩ := OwnA_iff.1 (h.heap i _ hi)
 obtain ⟨o2, us, Gs, c1, c2, c3⟩ := OwnA_iff.1 (h.heap j _ hj)
 rw [hsz] at b1 c1
 obtain ⟨kk, hkk⟩ : ∃ kk : Nat, (den k r : Int) = kk := ⟨Int.toNat (den k r), (Int.toNat_of_nonneg g0).symm⟩
 have hkn : kk ≤ (den e1 r : List ty2.D).length := by rw [hkk] at g1; exact Int.ofNat_le.1 g1
 have hc1 := c1
 rw [g3] at hc1
 obtain ⟨hul, hrest⟩ := hc1
 have hul : us.length = 1 := by simpa using hul
 obtain ⟨u, rfl⟩ := List.length_eq_one_iff.1 hul
 rcases hrest with ⟨_, _, h0, _⟩ | ⟨vb, voff, vc, cu2, ety2, ho2, hval, hcells, _, _, _, htk⟩
 ·cases h0
 have hu : cu2[voff]? = some u := by
  have h3 : ((cu2.toList.drop voff).take (1 * 1))[0]? = some u := by rw [htk]; rfl
  rw [List.getElem?_take_of_lt (by omega), List.getElem?_drop] at h3
  simpa using h3
 have hne : o1 ≠ some vb := by
  intro h3
  have m1 : vb ∈ (g i).foot := by rw [b2, h3]; simp
  have m2 : vb ∈ (g j).foot := by rw [c2, ho2]; simp
  exact hij (h.inj i j _ _ vb hi hj m1 m2)
 have hcalls := hrun w (a.eval x) o1 _ kk vb voff vc xs cu2 ety2 u (by rw [hxv]; exact b1) hkn g2 hne hcells hu b3.ones (c3.ones u (by simp))
 rw [hnv, hyv, hval, hkk]
 refine hcalls.mono ?_
 rintro e w' ⟨v', o', rfl, hown', ho', hfresh, hsame, hsize, hos, htp, hout⟩
 have hden : (den (.o2 (.app ty2) (.o2 (.app ty2) (.o2 (.take ty2 .i64) e1 k) e2) (.o2 (.drop ty2 .i64) e1 k)) r : List ty2.D) = (den e1 r : List ty2.D).take kk ++ (den e2 r : List ty2.D) ++ (den e1 r : List ty2.D).drop kk := by
  simp only [den, O2.d, hkk, Int.toNat_natCast]
 have hrws : Rws w (Mt bd.Z s.heap g) d2 ty2 noHo (Fs.take kk ++ Gs ++ Fs.drop kk) ((den e1 r : List ty2.D).take kk ++ (den e2 r : List ty2.D) ++ (den e1 r : List ty2.D).drop kk) (xs.take kk ++ [u] ++ xs.drop kk) := by
  have t1 := b3.take kk
  have t2 := b3.drop kk
  rw [hsz, Nat.mul_one] at t1 t2
  exact (t1.append c3).append t2
 have hlen : ((den e1 r : List ty2.D).take kk ++ (den e2 r : List ty2.D) ++ (den e1 r : List ty2.D).drop kk).length = (den e1 r : List ty2.D).length + 1 := by
  simp only [List.length_append, List.length_take, List.length_drop, g3]
  omega
 have hnd := h.nodup i _ hi
 rw [b2] at hnd
 obtain ⟨n1, n2, n3⟩ := List.nodup_append.1 hnd
 have hnd2 := h.nodup j _ hj
 rw [c2] at hnd2
 obtain ⟨-, m2, -⟩ := List.nodup_append.1 hnd2
 have hGi : ∀ b ∈ Gs.flatten, b ∉ (g i).foot := fun b hb hbi => hij (h.inj i j _ _ b hi hj hbi (by rw [c2]; exact List.mem_append_right _ hb))
 have hFsub : (Fs.take kk).flatten ++ (Fs.drop kk).flatten = Fs.flatten := by rw [← List.flatten_append, List.take_append_drop]
 have hflat : (Fs.take kk ++ Gs ++ Fs.drop kk).flatten = (Fs.take kk).flatten ++ Gs.flatten ++ (Fs.drop kk).flatten := by simp
 have hmem : ∀ b, b ∈ (Fs.take kk ++ Gs ++ Fs.drop kk).flatten → b ∈ Fs.flatten ∨ b ∈ Gs.flatten := by
  intro b hb
  rw [hflat] at hb
  rcases List.mem_append.1 hb with hb | hb
  ·rcases List.mem_append.1 hb with hb | hb
   ·exact .inl (by rw [← hFsub]; exact List.mem_append_left _ hb)
   ·exact .inr hb
  ·exact .inl (by rw [← hFsub]; exact List.mem_append_right _ hb)
 have hFnd : (Fs.take kk ++ Gs ++ Fs.drop kk).flatten.Nodup := by
  rw [hflat]
  have hp : ((Fs.take kk).flatten ++ Gs.flatten ++ (Fs.drop kk).flatten).Perm (Gs.flatten ++ Fs.flatten) := by
   rw [← hFsub, ← List.append_assoc]
   exact (List.perm_append_comm).append_right _
  rw [hp.nodup_iff]
  refine List.nodup_append.2 ⟨m2, n2, ?_⟩
  rintro b hb c hc rfl
  exact hGi b hb (by rw [b2]; exact List.mem_append_right _ hc)
 have hlt : ∀ b ∈ (Fs.take kk ++ Gs ++ Fs.drop kk).flatten, b < w.heap.size ∧ some b ≠ o1 := by
  intro b hb
  rcases hmem b hb with hb | hb
  ·exact ⟨h.lt i _ hi b (by rw [b2]; exact List.mem_append_right _ hb), fun hh => n3 b (by rw [← hh]; simp) b hb rfl⟩
  ·exact ⟨h.lt j _ hj b (by rw [c2]; exact List.mem_append_right _ hb), fun hh => hGi b hb (by rw [b2, ← hh]; simp)⟩
 have hK : ∀ q, q ∈ (bif d2 then [i, j] else [i]) → q = i ∨ q = j := by
  intro q hq
  cases d2 <;> simp at hq <;> omega
 have hiK : i ∈ (bif d2 then [i, j] else [i]) := by cases d2 <;> simp
 have hGK : ∀ b ∈ Gs.flatten, j ∈ (bif d2 then [i, j] else [i]) := by
  intro b hb
  cases d2 with
  | true => simp
  | false => rw [Row_flat_F c3] at hb; cases hb
 have hmade := h.made (w' := w') (bif d2 then [i, j] else [i]) id (.arr d2 ty2 (.o2 (.app ty2) (.o2 (.app ty2) (.o2 (.take ty2 .i64) e1 k) e2) (.o2 (.drop ty2 .i64) e1 k))) ⟨0, v', o'.toList ++ (Fs.take kk ++ Gs ++ Fs.drop kk).flatten⟩ hid hnp (fun q hq l hl => by
   rcases hK q hq with rfl | rfl
   ·rw [hi] at hl; cases hl
   ·rw [hj] at hl; cases hl) (fun b hb hnot => hsame b hb fun h3 => hnot i _ hiK hi (by rw [b2, ← h3]; simp)) ?_ ⟨⟨⟨h.nheap i _ hi, hnn⟩, h.nheap j _ hj⟩, h.nheap i _ hi, hnn⟩ ?_ ?_ hsize hos htp hout
 ·refine ⟨v', _, rfl, hmade, by simp [SRep, ARep], by simp [SV.all, Atom.ok, St.new, upd]⟩
 ·intro M' hk _ _ _
  simp only [BRep]
  rw [hden]
  refine OwnA_iff.2 ⟨o', _, _, ?_, by simp, hrws.keep hk fun b hb => hsame b (hlt b hb).1 (hlt b hb).2⟩
  simp only [if_true]
  rw [hlen, hsz]
  exact hown'
 ·refine List.nodup_append.2 ⟨by cases o' <;> simp, hFnd, ?_⟩
  rintro b hb c hc rfl
  simp only [Option.mem_toList] at hb
  obtain ⟨q1, q2⟩ := hlt b hc
  rcases ho' with h3 | h3
  ·exact q2 (by rw [← h3, hb])
  ·rw [h3] at hb
   simp only [Option.some.injEq] at hb
   omega
 ·intro b hb
  rcases List.mem_append.1 hb with hb | hb
  ·simp only [Option.mem_toList] at hb
   rcases ho' with h3 | h3
   ·right
    exact ⟨i, _, hiK, hi, by rw [b2, ← h3, hb]; simp⟩
   ·rw [h3] at hb
    simp only [Option.some.injEq] at hb
    subst hb
    exact .inl ⟨Nat.le_refl _, hfresh h3⟩
  ·rcases hmem b hb with hb | hb
   ·exact .inr ⟨i, _, hiK, hi, by rw [b2]; exact List.mem_append_right _ hb⟩
   ·exact .inr ⟨j, _, hGK b hb, hj, by rw [c2]; exact List.mem_append_right _ hb⟩
theorem ins_ok {P : Program} {f : FuncId} (hrun : InsRun P f) {s : St} {id : Nat} {ty : Ty} {x n y : Operand} {gs : List (E .bool)} {sv : SV} {s' : St} {bd : Bd} {N : Nat → Prop} {r : Env} {g : Nat → G} {a : Act} {st : List (Array Value)} {w : World}
  (hs : symIns s id ty x n y = some (gs, sv, s')) (h : R bd N s r g a.tmps st w) (hg : ∀ e ∈ gs, den e r = true) :
  Enters P f ∧ Calls P f #[a.eval x, a.eval n, a.eval y] w fun e w' => ∃ v g', e = .returned v ∧ R bd N s' r g' a.tmps st w' ∧ SRep w' (Mt bd.Z s'.heap g') g' r sv v ∧ sv.all (Atom.ok N s'.heap) := by
 obtain ⟨hent, hrun⟩ := hrun
 refine ⟨hent, ?_⟩
 unfold symIns at hs
 split at hs
 case h_2 => cases hs
 rename_i i k j hx hn hy
 obtain ⟨hxv, hxn⟩ := atom_rep h x
 rw [hx] at hxv hxn
 obtain ⟨hyv, hyn⟩ := atom_rep h y
 rw [hy] at hyv hyn
 obtain ⟨hnv, hnn⟩ := get_a h hn
 have hnv := int_of hnv
 simp only [ARep] at hxv hyv
 split at hs
 ·rename_i q hq
  cases hs
  exact insAt_ok hrun h hq hg hxv hyv hnv hnn
 ·obtain ⟨g', hgg, h'⟩ := h.shallow j
  rw [← (hgg i).1] at hxv
  rw [← (hgg j).1] at hyv
  exact insAt_ok hrun h' hs hg hxv hyv hnv hnn
theorem Rws.ints {w : World} {M : Nat → Prop} {Fs : List (List Nat)} {ds : List Int} {xs : List Value} (h : Rws w M false (.int .i64) noHo Fs ds xs) : xs = ds.map (Value.int .i64) := by
 have hl : xs.length = ds.length := h.lx.trans (Nat.mul_one _)
 apply List.ext_getElem
 ·rw [hl, List.length_map]
 ·intro i h1 h2
  have hi : i < ds.length := by omega
  obtain ⟨us, a1, a2, a3⟩ := h.row i hi
  have a4 : us = [.int .i64 ds[i]] := a3.2
  have a5 := a2 0 (.int .i64 ds[i]) (by rw [a4]; rfl)
  have a5 : xs[i]? = some (.int .i64 ds[i]) := by simpa [Ty.size] using a5
  rw [List.getElem?_eq_getElem h1] at a5
  rw [List.getElem_map]
  exact Option.some.inj a5
theorem Rws.of_ints {w : World} {M : Nat → Prop} (ds : List Int) : Rws w M false (.int .i64) noHo (List.replicate ds.length []) ds (ds.map (Value.int .i64)) := by
 refine ⟨by simp, by rw [List.length_map]; exact (Nat.mul_one _).symm, fun i hi => ⟨[.int .i64 ds[i]], rfl, fun j u hu => ?_, ?_⟩⟩
 ·cases j with
  | zero =>
   simp only [List.getElem?_cons_zero, Option.some.injEq] at hu
   subst hu
   simp [Ty.size, hi]
  | succ j => simp at hu
 ·refine ⟨?_, rfl⟩
  rw [List.getD_eq_getElem?_getD]
  cases hx : (List.replicate ds.length ([] : List Nat))[i]? with
  | none => rfl
  | some y => 
   have := List.mem_of_getElem? hx
   exact (List.mem_replicate.1 this).2
def MadeP (w : World) (sz n : Nat) (ys : List Value) (e : Ending) (w' : World) : Prop :=
 ∃ v' o', e = .returned v' ∧ OwnV w' v' o' sz n ys ∧ (∀ b, o' = some b → w.heap.size ≤ b ∧ b < w'.heap.size) ∧ (∀ b, b < w.heap.size → w'.heap[b]? = w.heap[b]?) ∧ w.heap.size ≤ w'.heap.size ∧ w'.os = w.os ∧ w'.tape = w.tape ∧ w'.output = w.output
def KeptP (w : World) (o : Option Nat) (w' : World) : Prop :=
 (∀ b, b < w.heap.size → some b ≠ o → w'.heap[b]? = w.heap[b]?) ∧ w.heap.size ≤ w'.heap.size ∧ w'.os = w.os ∧ w'.tape = w.tape ∧ w'.output = w.output
def ClnRun (P : Program) (f : FuncId) : Prop := Enters P f ∧
 ∀ (w : World) (x : Option Addr) (c : Nat) (zs : List Int), (∀ p, x = some p → zs ≠ [] → p.spot = none ∧ ∀ j u, (zs.map (Value.int .i64))[j]? = some u → cell w p.block (p.off + j) = some u) → (x = none → zs.length = 0) → (zs.length : Int) ≤ lim →
  Calls P f #[.slice x zs.length c] w (MadeP w 1 zs.length (zs.map (Value.int .i64)))
def GrwRun (P : Program) (f : FuncId) (sz : Nat) : Prop := Enters P f ∧
 ∀ (w : World) (n : Nat), (n : Int) ≤ lim → Calls P f #[.slice none 0 0, .int .i64 n] w (MadeP w sz 0 [])
def SrtRun (P : Program) (f : FuncId) : Prop := Enters P f ∧
 ∀ (w : World) (v : Value) (o : Option Nat) (zs : List Int), OwnV w v o 1 zs.length (zs.map (Value.int .i64)) → (zs.length : Int) ≤ lim →
  Calls P f #[v] w fun e w' => e = .returned (.tuple #[]) ∧ OwnV w' v o 1 (srtZ zs).length ((srtZ zs).map (Value.int .i64)) ∧ KeptP w o w'
def CptRun (P : Program) (f : FuncId) : Prop := Enters P f ∧
 ∀ (w : World) (v : Value) (o : Option Nat) (zs : List Int), OwnV w v o 1 zs.length (zs.map (Value.int .i64)) → (zs.length : Int) ≤ lim →
  Calls P f #[v] w fun e w' => ∃ v', e = .returned v' ∧ OwnV w' v' o 1 (cptZ zs).length ((cptZ zs).map (Value.int .i64)) ∧ KeptP w o w'
def HandRun (P : Program) (f : FuncId) : Ty → Prop
 | .bool => SrtRun P f
 | .int .i64 => CptRun P f
 | .str => ClnRun P f
 | .pr u .bool => GrwRun P f u.size
 | .sl _ _ => InsRun P f
 | _ => True
section
variable {P : Program} {f : FuncId} {s s' : St} {id : Nat} {gs : List (E .bool)} {sv : SV} {bd : Bd} {N : Nat → Prop} {r : Env} {g : Nat → G} {a : Act} {st : List (Array Value)} {w : World}
theorem made_ok (h : R bd N s r g a.tmps st w) (hf : free s id = true) {dp : Bool} {t : Ty} {e : E (.sl false t)} (he : e.vs N) {args : Array Value} {Fs : List (List Nat)} {ys : List Value} (hF : Fs.flatten = [])
  (hr : ∀ (w' : World) (M' : Nat → Prop), Kept w (Mt bd.Z s.heap g) w' M' → Rws w' M' dp t noHo Fs (den e r) ys) (hc : Calls P f args w (MadeP w t.size (den e r : List t.D).length ys)) :
  Calls P f args w fun e1 w' => ∃ v g', e1 = .returned v ∧ R bd N ((s.kills []).new id (.arr dp t e)) r g' a.tmps st w' ∧ SRep w' (Mt bd.Z ((s.kills []).new id (.arr dp t e)).heap g') g' r (.a (.ref id)) v ∧ SV.all (Atom.ok N ((s.kills []).new id (.arr dp t e)).heap) (.a (.ref id)) := by
 obtain ⟨hid, hnp⟩ := free_eq hf
 refine hc.mono ?_
 rintro e1 w' ⟨v', o', rfl, hown, hfresh, hsame, hsz, hos, htp, hout⟩
 have hmade := h.made (w' := w') [] id (.arr dp t e) ⟨0, v', o'.toList ++ Fs.flatten⟩ hid hnp (by simp) (fun b hb _ => hsame b hb) ?_ he ?_ ?_ hsz hos htp hout
 ·exact ⟨v', _, rfl, hmade, by simp [SRep, ARep], by simp [SV.all, Atom.ok, St.new, upd]⟩
 ·intro M' hk _ _ _
  simp only [BRep]
  exact OwnA_iff.2 ⟨o', _, _, by simp only [if_true]; exact hown, by simp, hr w' M' hk⟩
 ·rw [hF, List.append_nil]; cases o' <;> simp
 ·intro b hb
  rw [hF, List.append_nil] at hb
  exact .inl (hfresh b (by simpa using hb))
theorem cln_ok (hrun : ClnRun P f) {x : Operand} (hs : symCln s id x = some (gs, sv, s')) (h : R bd N s r g a.tmps st w) (hg : ∀ e ∈ gs, den e r = true) :
  Enters P f ∧ Calls P f #[a.eval x] w fun e w' => ∃ v g', e = .returned v ∧ R bd N s' r g' a.tmps st w' ∧ SRep w' (Mt bd.Z s'.heap g') g' r sv v ∧ sv.all (Atom.ok N s'.heap) := by
 obtain ⟨hent, hrun⟩ := hrun
 refine ⟨hent, ?_⟩
 unfold symCln at hs
 split at hs
 case h_2 => cases hs
 rename_i e mv hsrc
 split at hs
 case isFalse => cases hs
 rename_i hf
 simp only [Option.some.injEq, Prod.mk.injEq] at hs
 obtain ⟨rfl, rfl, rfl⟩ := hs
 obtain ⟨hxv, hxn⟩ := atom_rep h x
 obtain ⟨he, Fs, xs, ⟨p, c, hv, hp, h0, hr⟩, -⟩ := appSrc_ok h hsrc hxv hxn
 have hxs := Rws.ints hr
 have g1 : ((den e r : List Int).length : Int) ≤ lim := gLe_iff.1 (hg (gLe (lenI e) (eI .i64 lim)) (by simp))
 rw [hv]
 refine made_ok h hf he (flatten_replicate_nil (den e r : List Int).length) (fun w' M' _ => Rws.of_ints (den e r)) ?_
 refine hrun w p c (den e r) (fun q hq hne => ?_) h0 g1
 obtain ⟨b1, b2⟩ := hp q hq (by rw [hxs]; intro h; exact hne (List.map_eq_nil_iff.1 h))
 rw [hxs] at b2
 exact ⟨b1, b2⟩
theorem grw_ok {u : Ty} (hrun : GrwRun P f u.size) {x n : Operand} (hs : symGrw s id u x n = some (gs, sv, s')) (h : R bd N s r g a.tmps st w) (hg : ∀ e ∈ gs, den e r = true) :
  Enters P f ∧ Calls P f #[a.eval x, a.eval n] w fun e w' => ∃ v g', e = .returned v ∧ R bd N s' r g' a.tmps st w' ∧ SRep w' (Mt bd.Z s'.heap g') g' r sv v ∧ sv.all (Atom.ok N s'.heap) := by
 obtain ⟨hent, hrun⟩ := hrun
 refine ⟨hent, ?_⟩
 unfold symGrw at hs
 split at hs
 case h_2 => cases hs
 rename_i k hx hn
 split at hs
 case isFalse => cases hs
 rename_i hf
 simp only [Option.some.injEq, Prod.mk.injEq] at hs
 obtain ⟨rfl, rfl, rfl⟩ := hs
 obtain ⟨hxv, hxn⟩ := atom_rep h x
 rw [hx] at hxv
 simp only [ARep] at hxv
 obtain ⟨hnv, hnn⟩ := get_a h hn
 have hnv := int_of hnv
 have g0 : (0 : Int) ≤ den k r := gLe_iff.1 (hg (gLe (eI .i64 0) k) (by simp))
 have g1 : (den k r : Int) ≤ lim := gLe_iff.1 (hg (gLe k (eI .i64 lim)) (by simp))
 obtain ⟨kk, hkk⟩ : ∃ kk : Nat, (den k r : Int) = kk := ⟨Int.toNat (den k r), (Int.toNat_of_nonneg g0).symm⟩
 rw [hxv, hnv, hkk]
 exact made_ok h hf (e := .nil false u) trivial (Fs := []) rfl (fun w' M' _ => Rws.nil) (hrun w kk (by rw [← hkk]; exact g1))
theorem srt_ok (hrun : SrtRun P f) {x : Operand} (hs : symSort s x = some (gs, sv, s')) (h : R bd N s r g a.tmps st w) (hg : ∀ e ∈ gs, den e r = true) :
  Enters P f ∧ Calls P f #[a.eval x] w fun e w' => ∃ v g', e = .returned v ∧ R bd N s' r g' a.tmps st w' ∧ SRep w' (Mt bd.Z s'.heap g') g' r sv v ∧ sv.all (Atom.ok N s'.heap) := by
 obtain ⟨hent, hrun⟩ := hrun
 refine ⟨hent, ?_⟩
 unfold symSort at hs
 split at hs
 case h_2 => cases hs
 rename_i i hx
 split at hs
 case h_2 => cases hs
 rename_i e hi
 simp only [Option.some.injEq, Prod.mk.injEq] at hs
 obtain ⟨rfl, rfl, rfl⟩ := hs
 obtain ⟨hxv, hxn⟩ := atom_rep h x
 rw [hx] at hxv
 simp only [ARep] at hxv
 have g1 : ((den e r : List Int).length : Int) ≤ lim := gLe_iff.1 (hg (gLe (lenI e) (eI .i64 lim)) (by simp))
 obtain ⟨o, xs, Fs, b1, b2, b3⟩ := OwnA_iff.1 (h.heap i _ hi)
 have hxs := Rws.ints b3
 have hF := Row_flat_F b3
 rw [hF, List.append_nil] at b2
 rw [hxs] at b1
 rw [hxv]
 refine (hrun w (g i).val o (den e r) b1 g1).mono ?_
 rintro e1 w' ⟨rfl, hown, hsame, hsz, hos, htp, hout⟩
 have hpoke := h.poked (w' := w') [] i _ (.arr false (.int .i64) (.o1 (.hnd 0) e)) (g i) hi (by simp) rfl rfl (by simp) (fun b hb hnb _ => hsame b hb fun hh => hnb (by rw [b2, ← hh]; simp)) ?_ (h.nheap i _ hi) (h.nodup i _ hi) (fun b hb => .inr (.inl hb)) ?_ hsz hos htp hout
 ·exact ⟨_, _, rfl, hpoke, ⟨_, rfl, trivial⟩, by simp [SV.all]⟩
 ·intro M' hk _
  simp only [BRep, if_true]
  refine OwnA_iff.2 ⟨o, _, _, ?_, by rw [b2, flatten_replicate_nil, List.append_nil], Rws.of_ints (srtZ (den e r))⟩
  exact hown
 ·intro c hc hci
  obtain ⟨_, l, hl⟩ := h.kpl c (by rw [← h.kp] at hc; rw [h.kp] at hc; exact hc)
  rw [hci, hi] at hl; cases hl
theorem cpt_ok (hrun : CptRun P f) {x : Operand} (hs : symCpt s id x = some (gs, sv, s')) (h : R bd N s r g a.tmps st w) (hg : ∀ e ∈ gs, den e r = true) :
  Enters P f ∧ Calls P f #[a.eval x] w fun e w' => ∃ v g', e = .returned v ∧ R bd N s' r g' a.tmps st w' ∧ SRep w' (Mt bd.Z s'.heap g') g' r sv v ∧ sv.all (Atom.ok N s'.heap) := by
 obtain ⟨hent, hrun⟩ := hrun
 refine ⟨hent, ?_⟩
 unfold symCpt at hs
 split at hs
 case h_2 => cases hs
 rename_i i hx
 split at hs
 case h_2 => cases hs
 rename_i e hi
 split at hs
 case isFalse => cases hs
 rename_i hf
 obtain ⟨hid, hnp⟩ := free_eq hf
 simp only [Option.some.injEq, Prod.mk.injEq] at hs
 obtain ⟨rfl, rfl, rfl⟩ := hs
 obtain ⟨hxv, hxn⟩ := atom_rep h x
 rw [hx] at hxv
 simp only [ARep] at hxv
 have g1 : ((den e r : List Int).length : Int) ≤ lim := gLe_iff.1 (hg (gLe (lenI e) (eI .i64 lim)) (by simp))
 obtain ⟨o, xs, Fs, b1, b2, b3⟩ := OwnA_iff.1 (h.heap i _ hi)
 have hxs := Rws.ints b3
 have hF := Row_flat_F b3
 rw [hF, List.append_nil] at b2
 rw [hxs] at b1
 rw [hxv]
 refine (hrun w (g i).val o (den e r) b1 g1).mono ?_
 rintro e1 w' ⟨v', rfl, hown, hsame, hsz, hos, htp, hout⟩
 have hmade := h.made (w' := w') [i] id (.arr false (.int .i64) (.o1 (.hnd 1) e)) ⟨0, v', o.toList⟩ hid hnp (fun q hq l hl => by rw [List.mem_singleton.1 hq, hi] at hl; cases hl) (fun b hb hnot => hsame b hb fun hh => hnot i _ (by simp) hi (by rw [b2, ← hh]; simp)) ?_ (h.nheap i _ hi) ?_ ?_ hsz hos htp hout
 ·exact ⟨v', _, rfl, hmade, by simp [SRep, ARep], by simp [SV.all, Atom.ok, St.new, upd]⟩
 ·intro M' hk _ _ _
  simp only [BRep]
  refine OwnA_iff.2 ⟨o, _, _, ?_, by simp only [if_true]; rw [flatten_replicate_nil, List.append_nil], Rws.of_ints (cptZ (den e r))⟩
  simp only [if_true]
  exact hown
 ·cases o <;> simp
 ·intro b hb
  exact .inr ⟨i, _, by simp, hi, by rw [b2]; exact hb⟩
end
theorem srtN_ok {P : Program} {f : FuncId} {s s' : St} {id : Nat} {gs : List (E .bool)} {sv : SV} {bd : Bd} {N : Nat → Prop} {r : Env} {g : Nat → G} {a : Act} {st : List (Array Value)} {w : World} (hrun : SrtRun P f) {x : Operand} (hs : symSortN s id x = some (gs, sv, s')) (h : R bd N s r g a.tmps st w) (hg : ∀ e ∈ gs, den e r = true) :
  Enters P f ∧ Calls P f #[a.eval x] w fun e w' => ∃ v g', e = .returned v ∧ R bd N s' r g' a.tmps st w' ∧ SRep w' (Mt bd.Z s'.heap g') g' r sv v ∧ sv.all (Atom.ok N s'.heap) := by
 unfold symSortN at hs
 split at hs
 case h_2 => cases hs
 rename_i t
 split at hs
 case h_2 => cases hs
 rename_i i s1 hl
 split at hs
 case h_2 => cases hs
 rename_i gs0 s2 hss
 obtain ⟨s3, hu, heq⟩ := Option.map_eq_some_iff.1 hs
 simp only [Prod.mk.injEq] at heq
 obtain ⟨rfl, rfl, rfl⟩ := heq
 obtain ⟨g1, h1⟩ := lend_ok h hl
 obtain ⟨hent, hc⟩ := srt_ok hrun hss h1 hg
 refine ⟨hent, hc.mono ?_⟩
 rintro e w' ⟨v, g2, rfl, h2, ⟨cs, hv, hcs⟩, h4⟩
 obtain ⟨g3, h3⟩ := unlend_ok h2 hu
 refine ⟨v, g3, rfl, h3, ⟨cs, hv, ?_⟩, by simp [SV.all]⟩
 generalize cs.toList = l at hcs
 cases l with
 | nil => trivial
 | cons => exact hcs.elim
theorem cptN_ok {P : Program} {f : FuncId} {s s' : St} {id : Nat} {gs : List (E .bool)} {sv : SV} {bd : Bd} {N : Nat → Prop} {r : Env} {g : Nat → G} {a : Act} {st : List (Array Value)} {w : World} (hrun : CptRun P f) {x : Operand} (hs : symCptN s id x = some (gs, sv, s')) (h : R bd N s r g a.tmps st w) (hg : ∀ e ∈ gs, den e r = true) :
  Enters P f ∧ Calls P f #[a.eval x] w fun e w' => ∃ v g', e = .returned v ∧ R bd N s' r g' a.tmps st w' ∧ SRep w' (Mt bd.Z s'.heap g') g' r sv v ∧ sv.all (Atom.ok N s'.heap) := by
 unfold symCptN at hs
 split at hs
 case h_2 => cases hs
 rename_i t
 split at hs
 case h_2 => cases hs
 rename_i i s1 hl
 obtain ⟨g1, h1⟩ := lend_ok h hl
 exact cpt_ok hrun hs h1 hg
theorem hand_ok {c : Cx} (hI : ∀ f ty, c.ins f = some ty → HandRun c.P f ty) : InsOK c := by
 intro f ty s id ops gs sv s' bd N r g a st w hf hs h hg
 have hr := hI f ty hf
 unfold symHand at hs
 split at hs
 ·split at hs
  ·rename_i q hq
   cases hs
   exact srt_ok hr hq h hg
  ·exact srtN_ok hr hs h hg
 ·split at hs
  ·rename_i q hq
   cases hs
   exact cpt_ok hr hq h hg
  ·exact cptN_ok hr hs h hg
 ·exact cln_ok hr hs h hg
 ·exact grw_ok hr hs h hg
 ·exact ins_ok hr hs h hg
 ·cases hs
end Go.Sm
namespace Go.Sm
set_option linter.unusedVariables false
set_option linter.unusedSimpArgs false
def nilG : G := ⟨0, .slice none 0 0, []⟩
def gren (ρ : Nat → Option Nat) (g : Nat → G) : Nat → G := fun k => match ρ k with
 | some i => g i
 | none => nilG
def AEq (ρ : Nat → Option Nat) (r r' : Env) : Atom → Atom → Prop
 | _, .no => True
 | .un, .un => True
 | .nil, .nil => True
 | .nil, .ref k => ρ k = none
 | .nil, .x t e => ∃ u, denA ⟨t, e⟩ r' = ⟨.sl false u, ([] : List u.D)⟩ ∨ denA ⟨t, e⟩ r' = ⟨.sl true u, ([] : List u.D)⟩
 | .x t e, .x t' e' => denA ⟨t, e⟩ r = denA ⟨t', e'⟩ r'
 | .xc t e, .xc t' e' => denA ⟨.sl false t, e⟩ r = denA ⟨.sl false t', e'⟩ r'
 | .ref i, .ref k => ρ k = some i
 | .ptr i j, .ptr k j' => ρ k = some i ∧ j = j'
 | .eptr id t _ i j, .eptr k t' _ i' j' => ρ k = some id ∧ t = t' ∧ (den i r : Int) = den i' r' ∧ j = j'
 | .xptr c t l _ i j, .xptr c' t' l' _ i' j' => denA ⟨.sl c t, l⟩ r = denA ⟨.sl c' t', l'⟩ r' ∧ (den i r : Int) = den i' r' ∧ j = j'
 | .clo f caps, .clo f' caps' => f = f' ∧ caps'.map (fun c => (ρ c.1, c.2)) = caps.map (fun c => (some c.1, c.2))
 | .nref id t _ i j, .nref k t' _ i' j' => ρ k = some id ∧ t = t' ∧ (den i r : Int) = den i' r' ∧ j = j'
 | .nptr id t _ i j u _ i2 j2, .nptr k t' _ i' j' u' _ i2' j2' => ρ k = some id ∧ t = t' ∧ (den i r : Int) = den i' r' ∧ j = j' ∧ u = u' ∧ (den i2 r : Int) = den i2' r' ∧ j2 = j2'
 | _, _ => False
theorem AV.rep_eq {w : World} {M : Nat → Prop} {t t' : Ty} {d : t.D} {d' : t'.D} (h : (⟨t, d⟩ : AV) = ⟨t', d'⟩) {vs : List Value} (hr : Rep w M t d vs) : Rep w M t' d' vs := by
 cases h; exact hr
theorem gren_some {ρ : Nat → Option Nat} {g : Nat → G} {k i : Nat} (h : ρ k = some i) : gren ρ g k = g i := by simp [gren, h]
section
variable {w : World} {M M' : Nat → Prop} {g : Nat → G} {r r' : Env} {ρ : Nat → Option Nat}
theorem ARep.ren (hM : ∀ b, M' b → M b) {a a' : Atom} {v : Value} (h : ARep w M g r a v) (he : AEq ρ r r' a a') : ARep w M' (gren ρ g) r' a' v := by
 have hk : Kept w M w M' := ⟨fun _ _ _ => rfl, fun b _ h => hM b h⟩
 cases a' with
 | no => trivial
 | un => cases a <;> first | exact he.elim | exact h
 | nil => cases a <;> first | exact he.elim | exact h
 | x t' e' =>
  cases a <;> try exact he.elim
  ·simp only [ARep] at h
   subst h
   obtain ⟨u, he | he⟩ := he
   ·have : Rep w M' (.sl false u) ([] : List u.D) [.slice none 0 0] := ⟨none, 0, rfl, Nat.le_refl _, fun h => by (cases h), fun _ => rfl, fun p hp => by cases hp⟩
    exact AV.rep_eq he.symm this
   ·have : Rep w M' (.sl true u) ([] : List u.D) [.slice none 0 0] := ⟨none, 0, rfl, Nat.le_refl _, fun _ => by simp, fun _ => rfl, fun p hp => by cases hp⟩
    exact AV.rep_eq he.symm this
  ·exact AV.rep_eq he (Rep.keep hk h)
 | xc t' e' =>
  cases a <;> try exact he.elim
  rename_i t e
  obtain ⟨h1, x, h2⟩ := h
  have he' : (⟨.sl false t, den e r⟩ : AV) = ⟨.sl false t', den e' r'⟩ := he
  have ht : t = t' := by have := congrArg Sigma.fst he'; simpa using this
  subst ht
  have hd : (den e r : List t.D) = den e' r' := by simpa using he'
  exact ⟨by rw [← hd]; exact Rep.keep hk h1, x, by rw [← hd]; exact h2⟩
 | ref k =>
  cases a <;> try exact he.elim
  ·simp only [AEq] at he; simp only [ARep] at h ⊢; rw [h, gren, he]; rfl
  ·simp only [AEq] at he; simp only [ARep] at h ⊢; rw [h, gren_some he]
 | ptr k j' =>
  cases a <;> try exact he.elim
  obtain ⟨h1, rfl⟩ := he
  simp only [ARep] at h ⊢; rw [h, gren_some h1]
 | eptr k t' k' i' j' =>
  cases a <;> try exact he.elim
  obtain ⟨h1, rfl, h2, rfl⟩ := he
  simp only [ARep] at h ⊢; rw [gren_some h1, ← h2]; exact h
 | xptr c' t' l' k' i' j' =>
  cases a <;> try exact he.elim
  rename_i c t l kk i j
  obtain ⟨h1, h2, rfl⟩ := he
  obtain ⟨p, n, cp, a1, a2, a3, a4, a5⟩ := h
  have ht : (Ty.sl c t) = .sl c' t' := by have := congrArg Sigma.fst h1; simpa [denA] using this
  cases ht
  exact ⟨p, n, cp, AV.rep_eq h1 (Rep.keep hk a1), a2, by rw [← h2]; exact a3, by rw [← h2]; exact a4, by rw [← h2]; exact a5⟩
 | clo f' caps' =>
  cases a <;> try exact he.elim
  rename_i f caps
  obtain ⟨rfl, h1⟩ := he
  simp only [ARep] at h ⊢
  rw [h]
  have h2 : ∀ (l l' : List (Nat × Nat)), l'.map (fun c => (ρ c.1, c.2)) = l.map (fun c => (some c.1, c.2)) → l.map (fun c => Value.pointer (some ⟨(g c.1).blk, c.2, none⟩)) = l'.map (fun c => Value.pointer (some ⟨(gren ρ g c.1).blk, c.2, none⟩)) := by
   intro l
   induction l with
   | nil => intro l' h; simp at h; subst h; rfl
   | cons c l ih =>
    intro l' h
    cases l' with
    | nil => simp at h
    | cons c' l' =>
     simp only [List.map_cons, List.cons.injEq, Prod.mk.injEq] at h
     simp only [List.map_cons]
     rw [ih l' h.2, gren_some h.1.1, h.1.2]
  rw [h2 caps caps' h1]
 | nref k t' k' i' j' =>
  cases a <;> try exact he.elim
  obtain ⟨h1, rfl, h2, rfl⟩ := he
  simp only [ARep] at h ⊢; rw [gren_some h1, ← h2]; exact h
 | nptr k t' k' i' j' u' k2 i2' j2' =>
  cases a <;> try exact he.elim
  obtain ⟨h1, rfl, h2, rfl, rfl, h3, rfl⟩ := he
  simp only [ARep] at h ⊢; rw [gren_some h1, ← h2, ← h3]; exact h
 | vw k t' lo' hi' => cases a <;> exact he.elim
def AEqs (ρ : Nat → Option Nat) (r r' : Env) : List Atom → List Atom → Prop
 | [], [] => True
 | a :: l, a' :: l' => AEq ρ r r' a a' ∧ AEqs ρ r r' l l'
 | _, _ => False
theorem AReps.ren (hM : ∀ b, M' b → M b) : ∀ {l l' : List Atom} {vs : List Value}, AReps w M g r l vs → AEqs ρ r r' l l' → AReps w M' (gren ρ g) r' l' vs
 | [], [], [], _, _ => trivial
 | _ :: _, _ :: _, _ :: _, h, he => ⟨h.1.ren hM he.1, AReps.ren hM h.2 he.2⟩
 | [], [], _ :: _, h, _ => h.elim
 | [], _ :: _, _, _, he => he.elim
 | _ :: _, [], _, _, he => he.elim
 | _ :: _, _ :: _, [], h, _ => h.elim
def CEqs (ρ : Nat → Option Nat) (r r' : Env) : List (Bool × List Atom) → List (Bool × List Atom) → Prop
 | [], [] => True
 | a :: l, a' :: l' => (a.1 = a'.1 ∧ AEqs ρ r r' a.2 a'.2) ∧ CEqs ρ r r' l l'
 | _, _ => False
theorem CReps.ren (hM : ∀ b, M' b → M b) : ∀ {l l' : List (Bool × List Atom)} {vs : List Value}, CReps w M g r l vs → CEqs ρ r r' l l' → CReps w M' (gren ρ g) r' l' vs
 | [], [], [], _, _ => trivial
 | (b, l) :: _, (b', l') :: _, _ :: _, h, he => by
  obtain ⟨⟨hb, h1⟩, h2⟩ := he
  simp only at hb
  subst hb
  refine ⟨?_, CReps.ren hM h.2 h2⟩
  have := h.1
  unfold CRep at this ⊢
  simp only at this ⊢
  split
  ·rename_i hb; rw [if_pos hb] at this; obtain ⟨cs, e1, e2⟩ := this; exact ⟨cs, e1, e2.ren hM h1⟩
  ·rename_i hb; rw [if_neg hb] at this; exact this.ren hM h1
 | [], [], _ :: _, h, _ => h.elim
 | [], _ :: _, _, _, he => he.elim
 | _ :: _, [], _, _, he => he.elim
 | _ :: _, _ :: _, [], h, _ => h.elim
def SEq (ρ : Nat → Option Nat) (r r' : Env) : SV → SV → Prop
 | .a x, .a y => AEq ρ r r' x y
 | .agg l, .agg m => AEqs ρ r r' l m
 | .tup l, .tup m => CEqs ρ r r' l m
 | _, _ => False
theorem SRep.ren (hM : ∀ b, M' b → M b) {s s' : SV} {v : Value} (h : SRep w M g r s v) (he : SEq ρ r r' s s') : SRep w M' (gren ρ g) r' s' v := by
 cases s <;> cases s' <;> first | exact he.elim | skip
 ·exact ARep.ren hM h he
 ·obtain ⟨cs, h1, h2⟩ := h; exact ⟨cs, h1, h2.ren hM he⟩
 ·obtain ⟨cs, h1, h2⟩ := h; exact ⟨cs, h1, h2.ren hM he⟩
def SEqs (ρ : Nat → Option Nat) (r r' : Env) : List SV → List SV → Prop
 | [], [] => True
 | a :: l, a' :: l' => SEq ρ r r' a a' ∧ SEqs ρ r r' l l'
 | _, _ => False
theorem SReps.ren (hM : ∀ b, M' b → M b) : ∀ {l l' : List SV} {vs : List Value}, SReps w M g r l vs → SEqs ρ r r' l l' → SReps w M' (gren ρ g) r' l' vs
 | [], [], [], _, _ => trivial
 | _ :: _, _ :: _, _ :: _, h, he => ⟨h.1.ren hM he.1, SReps.ren hM h.2 he.2⟩
 | [], [], _ :: _, h, _ => h.elim
 | [], _ :: _, _, _, he => he.elim
 | _ :: _, [], _, _, he => he.elim
 | _ :: _, _ :: _, [], h, _ => h.elim
def SEqss (ρ : Nat → Option Nat) (r r' : Env) : List (List SV) → List (List SV) → Prop
 | [], [] => True
 | a :: l, a' :: l' => SEqs ρ r r' a a' ∧ SEqss ρ r r' l l'
 | _, _ => False
theorem SRepss.ren (hM : ∀ b, M' b → M b) : ∀ {l l' : List (List SV)} {vs : List (Array Value)}, SRepss w M g r l vs → SEqss ρ r r' l l' → SRepss w M' (gren ρ g) r' l' vs
 | [], [], [], _, _ => trivial
 | _ :: _, _ :: _, _ :: _, h, he => ⟨h.1.ren hM he.1, SRepss.ren hM h.2 he.2⟩
 | [], [], _ :: _, h, _ => h.elim
 | [], _ :: _, _, _, he => he.elim
 | _ :: _, [], _, _, he => he.elim
 | _ :: _, _ :: _, [], h, _ => h.elim
def BEq' (ρ : Nat → Option Nat) (r r' : Env) : Blk → Blk → Prop
 | .box l, .box m => AEqs ρ r r' l m
 | .arr dp t e, .arr dp' t' e' => dp = dp' ∧ denA ⟨.sl false t, e⟩ r = denA ⟨.sl false t', e'⟩ r'
 | .hole t e _ i j a, .hole t' e' _ i' j' a' => denA ⟨.sl false t, e⟩ r = denA ⟨.sl false t', e'⟩ r' ∧ (den i r : Int) = den i' r' ∧ j = j' ∧ AEq ρ r r' a a'
 | _, _ => False
theorem denA_sl {t t' : Ty} {e : E (.sl false t)} {e' : E (.sl false t')} (h : denA ⟨.sl false t, e⟩ r = denA ⟨.sl false t', e'⟩ r') : ∃ h : t = t', (den e' r' : List t'.D) = h ▸ (den e r : List t.D) := by
 have ht : t = t' := by have := congrArg Sigma.fst h; simpa [denA] using this
 subst ht
 exact ⟨rfl, by simpa [denA] using h.symm⟩
theorem BRep.ren (hM : ∀ b, M' b → M b) {k i : Nat} (hk : ρ k = some i) {B B' : Blk} (h : BRep w M g r i B) (he : BEq' ρ r r' B B') : BRep w M' (gren ρ g) r' k B' := by
 have hkept : Kept w M w M' := ⟨fun _ _ _ => rfl, fun b _ h => hM b h⟩
 cases B <;> cases B' <;> first | exact he.elim | skip
 ·obtain ⟨h1, c, ty, h2, h3⟩ := h
  simp only [BRep]
  rw [gren_some hk]
  exact ⟨h1, c, ty, h2, h3.ren hM he⟩
 ·obtain ⟨rfl, h1⟩ := he
  obtain ⟨rfl, h2⟩ := denA_sl h1
  simp only [BRep] at h ⊢
  rw [gren_some hk, h2]
  exact h.keep hkept fun _ _ => rfl
 ·obtain ⟨h1, h3, rfl, h4⟩ := he
  obtain ⟨rfl, h2⟩ := denA_sl h1
  simp only [BRep] at h ⊢
  obtain ⟨q1, v, q2, q3⟩ := h
  refine ⟨?_, v, ?_, q3.ren hM h4⟩
  ·rw [gren_some hk, h2, ← h3]
   exact q1.keep hkept fun _ _ => rfl
  ·simp only [ARep] at q2 ⊢
   rw [gren_some hk, ← h3]
   exact q2
end
section
variable {bd : Bd} {N N' : Nat → Prop} {s s' : St} {r r' : Env} {g : Nat → G} {tm tm' : Array Value} {st st' : List (Array Value)} {w : World} {ρ : Nat → Option Nat}
def HeapEq (ρ : Nat → Option Nat) (r r' : Env) (h h' : Nat → Option Blk) : Prop :=
 ∀ k B', h' k = some B' → match ρ k with
  | some i => ∃ B, h i = some B ∧ BEq' ρ r r' B B'
  | none => ∃ dp t e, B' = .arr dp t e ∧ (den e r' : List t.D) = []
theorem gren_foot (hh : HeapEq ρ r r' s.heap s'.heap) {k : Nat} {B' : Blk} (hk : s'.heap k = some B') {b : Nat} (hb : b ∈ (gren ρ g k).foot) : ∃ i B, ρ k = some i ∧ s.heap i = some B ∧ b ∈ (g i).foot := by
 have := hh k B' hk
 unfold gren at hb
 split at this
 ·rename_i i hi
  rw [hi] at hb
  obtain ⟨B, h3, _⟩ := this
  exact ⟨i, B, hi, h3, hb⟩
 ·rename_i hi
  rw [hi] at hb
  simp [nilG] at hb
theorem Mt_ren (hh : HeapEq ρ r r' s.heap s'.heap) {b : Nat} (hb : Mt bd.Z s'.heap (gren ρ g) b) : Mt bd.Z s.heap g b := by
 rcases hb with ⟨k, B', h1, h2⟩ | hz
 ·obtain ⟨i, B, _, h3, h4⟩ := gren_foot hh h1 h2
  exact .inl ⟨i, B, h3, h4⟩
 ·exact .inr hz
theorem nil_rep {M : Nat → Prop} {g : Nat → G} {k : Nat} (hk : g k = nilG) {dp : Bool} {t : Ty} {e : E (.sl false t)} (he : (den e r' : List t.D) = []) : BRep w M g r' k (.arr dp t e) := by
 simp only [BRep]
 rw [hk, he]
 refine ⟨none, [], [], ⟨by simp, .inl ⟨none, rfl, rfl, rfl⟩⟩, rfl, rfl, fun i hi => by simp at hi⟩
theorem R.ren (h : R bd N s r g tm st w) (hh : HeapEq ρ r r' s.heap s'.heap) (hinj : ∀ k k' i, (s'.heap k).isSome = true → (s'.heap k').isSome = true → ρ k = some i → ρ k' = some i → k = k')
  (hcur : SReps w (Mt bd.Z s'.heap (gren ρ g)) (gren ρ g) r' s'.cur tm'.toList) (hstk : SRepss w (Mt bd.Z s'.heap (gren ρ g)) (gren ρ g) r' s'.stk st')
  (hown : ∀ k B, s'.heap k = some B → ∀ b ∈ (gren ρ g k).foot, bd.M0 b ∨ bd.w0.heap.size ≤ b) (hw : Wd bd w) (hpin : ∀ k p, bd.pins[k]? = some p → k < s'.np → (gren ρ g k).blk = p.blk ∧ (gren ρ g k).val = p.val)
  (hnp : s'.np = bd.pins.length) (hkp : s'.kp = bd.kp) (hkept : ∀ c ∈ bd.kp, cell w (gren ρ g c.1).blk c.2 = bd.kept c.1 c.2) (hkpl : ∀ c ∈ bd.kp, c.1 < s'.np ∧ ∃ l, s'.heap c.1 = some (.box l))
  (n1 : ∀ v ∈ s'.cur, v.all (Atom.ok N' s'.heap)) (n2 : ∀ f ∈ s'.stk, ∀ v ∈ f, v.all (Atom.ok N' s'.heap)) (n3 : ∀ id B, s'.heap id = some B → B.ok N' s'.heap) :
  R bd N' s' r' (gren ρ g) tm' st' w := by
 have foot : ∀ k B', s'.heap k = some B' → ∀ b ∈ (gren ρ g k).foot, ∃ i B, ρ k = some i ∧ s.heap i = some B ∧ b ∈ (g i).foot := by
  intro k B' hk b hb
  have := hh k B' hk
  unfold gren at hb
  split at this
  ·rename_i i hi
   rw [hi] at hb
   obtain ⟨B, h3, _⟩ := this
   exact ⟨i, B, hi, h3, hb⟩
  ·rename_i hi
   rw [hi] at hb
   simp [nilG] at hb
 refine { cur := hcur, stk := hstk, heap := ?_, inj := ?_, nodup := ?_, own := hown, lt := ?_, world := hw, pin := hpin, np := hnp, kp := hkp, kept := hkept, kpl := hkpl, ncur := n1, nstk := n2, nheap := n3 }
 ·intro k B' hk
  have := hh k B' hk
  split at this
  ·rename_i i hi
   obtain ⟨B, h3, h4⟩ := this
   exact (h.heap i B h3).ren (fun b hb => Mt_ren hh hb) hi h4
  ·rename_i hi
   obtain ⟨dp, t, e, rfl, he⟩ := this
   exact nil_rep (by simp [gren, hi]) he
 ·intro k k' B B' b hk hk' hb hb'
  obtain ⟨i, C, e1, e2, e3⟩ := foot k B hk b hb
  obtain ⟨i', C', e1', e2', e3'⟩ := foot k' B' hk' b hb'
  have := h.inj i i' C C' b e2 e2' e3 e3'
  subst this
  exact hinj k k' i (by simp [hk]) (by simp [hk']) e1 e1'
 ·intro k B hk
  have := hh k B hk
  split at this
  ·rename_i i hi
   obtain ⟨C, h3, _⟩ := this
   rw [gren_some hi]
   exact h.nodup i C h3
  ·rename_i hi
   simp [gren, hi, nilG]
 ·intro k B hk b hb
  obtain ⟨i, C, e1, e2, e3⟩ := foot k B hk b hb
  exact h.lt i C e2 b e3
end
end Go.Sm
namespace Go.Sm
set_option linter.unusedVariables false
set_option linter.unusedSimpArgs false
def Seg {α : Type} (E : List α) (n : Nat) (l : List α) : Prop := ∃ p q, E = p ++ (l ++ q) ∧ p.length = n
theorem Seg.left {α : Type} {E : List α} {n : Nat} {l m : List α} (h : Seg E n (l ++ m)) : Seg E n l := by
 obtain ⟨p, q, h1, h2⟩ := h; exact ⟨p, m ++ q, by rw [h1, List.append_assoc], h2⟩
theorem Seg.right {α : Type} {E : List α} {n : Nat} {l m : List α} (h : Seg E n (l ++ m)) : Seg E (n + l.length) m := by
 obtain ⟨p, q, h1, h2⟩ := h; exact ⟨p ++ l, q, by rw [h1]; simp [List.append_assoc], by simp [h2]⟩
theorem Seg.get {α : Type} {E : List α} {n : Nat} {l : List α} (h : Seg E n l) {i : Nat} {a : α} (hi : l[i]? = some a) : E[n + i]? = some a := by
 obtain ⟨p, q, h1, h2⟩ := h
 have hl : i < l.length := (List.getElem?_eq_some_iff.1 hi).1
 rw [h1, List.getElem?_append_right (by omega), List.getElem?_append_left (by omega)]
 rw [← hi]; congr 1; omega
theorem Seg.get0 {α : Type} {E : List α} {n : Nat} {l : List α} {a : α} (h : Seg E n (a :: l)) : E[n]? = some a := h.get (i := 0) rfl
theorem Seg.all {α : Type} (E : List α) : Seg E 0 E := ⟨[], [], by simp, rfl⟩
theorem Seg.lt {α : Type} {E : List α} {n : Nat} {l : List α} (h : Seg E n l) {i : Nat} (hi : i < l.length) : n + i < E.length := by
 have := h.get (List.getElem?_eq_getElem hi)
 exact (List.getElem?_eq_some_iff.1 this).1
theorem findI_get : ∀ {L : List Nat} {x k : Nat}, findI L x = some k → L[k]? = some x
 | [], x, k, h => by simp [findI] at h
 | a :: L, x, k, h => by
  unfold findI at h
  split at h
  ·rename_i ha; cases h; simp [ha]
  ·obtain ⟨j, hj, rfl⟩ := Option.map_eq_some_iff.1 h
   simpa using findI_get hj
theorem renCaps_eq {L : List Nat} : ∀ {l l' : List (Nat × Nat)}, renCaps L l = some l' → l'.map (fun c => (L[c.1]?, c.2)) = l.map (fun c => (some c.1, c.2))
 | [], l', h => by simp [renCaps] at h; subst h; rfl
 | (i, j) :: l, l', h => by
  unfold renCaps at h
  split at h
  ·rename_i k r hk hr
   cases h
   simp only [List.map_cons]
   rw [renCaps_eq hr, findI_get hk]
  ·cases h
section
variable {L : List Nat} {Es : List AE} {r r' : Env}
def Holds (Es : List AE) (r r' : Env) : Prop := ∀ i x, Es[i]? = some x → r' i = denA x r
theorem den_var {t : Ty} {e : E t} {n : Nat} (hh : Holds Es r r') (hs : Es[n]? = some ⟨t, e⟩) : den (.var t n) r' = den e r := by
 simp only [den]
 rw [hh n _ hs]
 exact AV.as_mk t _
theorem isLit_den {t : Ty} {e : E t} (h : isLit e = true) : den e r' = den e r := by
 cases e <;> first | rfl | (simp [isLit] at h)
theorem isLit_vs {N : Nat → Prop} {t : Ty} {e : E t} (h : isLit e = true) : e.vs N := by
 cases e <;> first | trivial | (simp [isLit] at h)
theorem sub_ren (hh : Holds Es r r') {a : Atom} {b : Bool} {n : Nat} (hs : Seg Es n ((ren L a).es b)) : AEq (fun k => L[k]?) r r' a ((ren L a).sub b n) := by
 cases a with
 | no => trivial
 | un => trivial
 | nil => trivial
 | x t e =>
  simp only [ren, Atom.sub, Atom.es] at hs ⊢
  split
  ·rename_i hb
   simp only [AEq, denA]
   simp only [Bool.and_eq_true] at hb
   rw [isLit_den hb.2]
  ·rename_i hb
   rw [if_neg hb] at hs
   simp only [AEq, denA]
   rw [den_var hh hs.get0]
 | xc t e =>
  simp only [ren, Atom.sub, Atom.es] at hs ⊢
  simp only [AEq, denA]
  rw [den_var hh hs.get0]
 | ref id =>
  simp only [ren] at hs ⊢
  split <;> rename_i h
  ·exact findI_get h
  ·trivial
 | ptr id j =>
  simp only [ren] at hs ⊢
  split <;> rename_i h
  ·exact ⟨findI_get h, rfl⟩
  ·trivial
 | eptr id t k i j =>
  simp only [ren] at hs ⊢
  cases h : findI L id with
  | none => trivial
  | some kk =>
   simp only [h, Atom.sub, Atom.es] at hs ⊢
   exact ⟨findI_get h, rfl, by rw [den_var hh hs.get0], rfl⟩
 | xptr c t l k i j =>
  simp only [ren, Atom.sub, Atom.es] at hs ⊢
  refine ⟨?_, ?_, rfl⟩
  ·simp only [denA]; rw [den_var hh hs.get0]
  ·rw [den_var hh (hs.get (i := 1) rfl)]
 | clo f caps =>
  simp only [ren] at hs ⊢
  split <;> rename_i h
  ·exact ⟨rfl, renCaps_eq h⟩
  ·trivial
 | nref id t k i j =>
  simp only [ren] at hs ⊢
  cases h : findI L id with
  | none => trivial
  | some kk =>
   simp only [h, Atom.sub, Atom.es] at hs ⊢
   exact ⟨findI_get h, rfl, by rw [den_var hh hs.get0], rfl⟩
 | nptr id t k i j u k2 i2 j2 =>
  simp only [ren] at hs ⊢
  cases h : findI L id with
  | none => trivial
  | some kk =>
   simp only [h, Atom.sub, Atom.es] at hs ⊢
   exact ⟨findI_get h, rfl, by rw [den_var hh hs.get0], rfl, rfl, by rw [den_var hh (hs.get (i := 1) rfl)], rfl⟩
 | vw id t lo hi => trivial
theorem subL_ren (hh : Holds Es r r') {b : Bool} : ∀ {l : List Atom} {n : Nat}, Seg Es n (esL b (l.map (ren L))) → AEqs (fun k => L[k]?) r r' l (subL b n (l.map (ren L)))
 | [], n, _ => trivial
 | a :: l, n, hs => ⟨sub_ren hh hs.left, subL_ren hh hs.right⟩
theorem subC_ren (hh : Holds Es r r') {b : Bool} : ∀ {l : List (Bool × List Atom)} {n : Nat}, Seg Es n (esC b (l.map fun c => (c.1, c.2.map (ren L)))) → CEqs (fun k => L[k]?) r r' l (subC b n (l.map fun c => (c.1, c.2.map (ren L))))
 | [], n, _ => trivial
 | c :: l, n, hs => ⟨⟨rfl, subL_ren hh hs.left⟩, subC_ren hh hs.right⟩
theorem subV_ren (hh : Holds Es r r') {b : Bool} {v : SV} {n : Nat} (hs : Seg Es n ((v.map (ren L)).es b)) : SEq (fun k => L[k]?) r r' v ((v.map (ren L)).sub b n) := by
 cases v with
 | a x => exact sub_ren hh hs
 | agg l => exact subL_ren hh hs
 | tup l => exact subC_ren hh hs
theorem subS_ren (hh : Holds Es r r') {b : Bool} : ∀ {l : List SV} {n : Nat}, Seg Es n (esS b (l.map (SV.map (ren L)))) → SEqs (fun k => L[k]?) r r' l (subS b n (l.map (SV.map (ren L))))
 | [], n, _ => trivial
 | v :: l, n, hs => ⟨subV_ren hh hs.left, subS_ren hh hs.right⟩
theorem subSS_ren (hh : Holds Es r r') : ∀ {l : List (List SV)} {n : Nat}, Seg Es n (esSS (l.map (List.map (SV.map (ren L))))) → SEqss (fun k => L[k]?) r r' l (subSS n (l.map (List.map (SV.map (ren L)))))
 | [], n, _ => trivial
 | v :: l, n, hs => ⟨subS_ren hh hs.left, subSS_ren hh hs.right⟩
theorem subB_ren (hh : Holds Es r r') {B : Blk} {n : Nat} (hs : Seg Es n (B.map (ren L)).es) : BEq' (fun k => L[k]?) r r' B ((B.map (ren L)).sub n) := by
 cases B with
 | box l => exact subL_ren hh hs
 | arr dp t e =>
  refine ⟨rfl, ?_⟩
  simp only [denA]; rw [den_var hh hs.get0]
 | hole t e k i j a =>
  refine ⟨?_, ?_, rfl, sub_ren hh (hs.right (l := [_, _]))⟩
  ·simp only [denA]; rw [den_var hh hs.get0]
  ·rw [den_var hh (hs.get (i := 1) rfl)]
theorem subB_get : ∀ {l : List Blk} {n k : Nat} {B' : Blk}, Seg Es n (esB l) → (subB n l)[k]? = some B' → ∃ B m, l[k]? = some B ∧ B' = B.sub m ∧ Seg Es m B.es
 | [], n, k, B', _, h => by simp [subB] at h
 | B :: l, n, 0, B', hs, h => by simp only [subB, List.getElem?_cons_zero, Option.some.injEq] at h; exact ⟨B, n, rfl, h.symm, hs.left⟩
 | B :: l, n, k + 1, B', hs, h => by
  simp only [subB, List.getElem?_cons_succ] at h
  obtain ⟨C, m, h1, h2, h3⟩ := subB_get hs.right h
  exact ⟨C, m, by simpa using h1, h2, h3⟩
theorem subB_len : ∀ (l : List Blk) (n : Nat), (subB n l).length = l.length
 | [], _ => rfl
 | B :: l, n => by simp [subB, subB_len l]
theorem blks_get {s : St} : ∀ {l : List Nat} {hl : List Blk}, blks s L l = some hl → hl.length = l.length ∧ ∀ (k id : Nat), l[k]? = some id → ∃ B, s.heap id = some B ∧ hl[k]? = some (B.map (ren L))
 | [], hl, h => by simp [blks] at h; subst h; simp
 | id :: l, hl, h => by
  unfold blks at h
  split at h
  case h_2 => cases h
  rename_i B l' hB hl'
  cases h
  obtain ⟨h1, h2⟩ := blks_get hl'
  refine ⟨by simp [h1], fun k id' hk => ?_⟩
  cases k with
  | zero => simp at hk; subst hk; exact ⟨B, hB, rfl⟩
  | succ k => simpa using h2 k id' (by simpa using hk)
section
variable {h' : Nat → Option Blk} (hl : ∀ k, (L[k]?).isSome = true → (h' k).isSome = true)
include hl
theorem sub_ok {a : Atom} {b : Bool} {n : Nat} (hs : Seg Es n ((ren L a).es b)) : ((ren L a).sub b n).ok (· < Es.length) h' := by
 have hf : ∀ {id k : Nat}, findI L id = some k → (h' k).isSome = true := fun h => hl _ (by rw [findI_get h]; rfl)
 cases a with
 | no => trivial
 | un => trivial
 | nil => trivial
 | x t e =>
  simp only [ren, Atom.sub, Atom.es] at hs ⊢
  split
  ·rename_i hb
   simp only [Bool.and_eq_true] at hb
   exact isLit_vs hb.2
  ·rename_i hb
   rw [if_neg hb] at hs
   exact hs.lt (i := 0) (by simp)
 | xc t e => exact hs.lt (i := 0) (by simp [ren, Atom.es])
 | ref id =>
  simp only [ren] at hs ⊢
  split <;> rename_i h
  ·exact hf h
  ·trivial
 | ptr id j =>
  simp only [ren] at hs ⊢
  split <;> rename_i h
  ·exact hf h
  ·trivial
 | eptr id t k i j =>
  simp only [ren] at hs ⊢
  cases h : findI L id with
  | none => trivial
  | some kk =>
   simp only [h, Atom.sub, Atom.es] at hs ⊢
   exact ⟨hs.lt (i := 0) (by simp), hf h⟩
 | xptr c t l k i j => exact ⟨hs.lt (i := 0) (by simp [ren, Atom.es]), hs.lt (i := 1) (by simp [ren, Atom.es])⟩
 | clo f caps =>
  simp only [ren] at hs ⊢
  split <;> rename_i h
  ·intro c hc
   have h1 := renCaps_eq h
   have h2 : (L[c.1]?, c.2) ∈ caps.map (fun c => (some c.1, c.2)) := by rw [← h1]; exact List.mem_map.2 ⟨c, hc, rfl⟩
   obtain ⟨d, _, hd⟩ := List.mem_map.1 h2
   simp only [Prod.mk.injEq] at hd
   exact hl _ (by rw [← hd.1]; rfl)
  ·trivial
 | nref id t k i j =>
  simp only [ren] at hs ⊢
  cases h : findI L id with
  | none => trivial
  | some kk =>
   simp only [h, Atom.sub, Atom.es] at hs ⊢
   exact ⟨hs.lt (i := 0) (by simp), hf h⟩
 | nptr id t k i j u k2 i2 j2 =>
  simp only [ren] at hs ⊢
  cases h : findI L id with
  | none => trivial
  | some kk =>
   simp only [h, Atom.sub, Atom.es] at hs ⊢
   exact ⟨⟨hs.lt (i := 0) (by simp), hs.lt (i := 1) (by simp)⟩, hf h⟩
 | vw id t lo hi => trivial
theorem subL_ok {b : Bool} : ∀ {l : List Atom} {n : Nat}, Seg Es n (esL b (l.map (ren L))) → ∀ a ∈ subL b n (l.map (ren L)), a.ok (· < Es.length) h'
 | [], n, _, a, ha => by cases ha
 | x :: l, n, hs, a, ha => by
  rcases List.mem_cons.1 ha with rfl | ha
  ·exact sub_ok hl hs.left
  ·exact subL_ok hs.right a ha
theorem subC_ok {b : Bool} : ∀ {l : List (Bool × List Atom)} {n : Nat}, Seg Es n (esC b (l.map fun c => (c.1, c.2.map (ren L)))) → ∀ c ∈ subC b n (l.map fun c => (c.1, c.2.map (ren L))), ∀ a ∈ c.2, a.ok (· < Es.length) h'
 | [], n, _, a, ha => by cases ha
 | x :: l, n, hs, a, ha => by
  rcases List.mem_cons.1 ha with rfl | ha
  ·exact subL_ok hl hs.left
  ·exact subC_ok hs.right a ha
theorem subV_ok {b : Bool} {v : SV} {n : Nat} (hs : Seg Es n ((v.map (ren L)).es b)) : ((v.map (ren L)).sub b n).all (Atom.ok (· < Es.length) h') := by
 cases v with
 | a x => exact sub_ok hl hs
 | agg l => exact subL_ok hl hs
 | tup l => exact subC_ok hl hs
theorem subS_ok {b : Bool} : ∀ {l : List SV} {n : Nat}, Seg Es n (esS b (l.map (SV.map (ren L)))) → ∀ v ∈ subS b n (l.map (SV.map (ren L))), v.all (Atom.ok (· < Es.length) h')
 | [], n, _, a, ha => by cases ha
 | x :: l, n, hs, a, ha => by
  rcases List.mem_cons.1 ha with rfl | ha
  ·exact subV_ok hl hs.left
  ·exact subS_ok hs.right a ha
theorem subSS_ok : ∀ {l : List (List SV)} {n : Nat}, Seg Es n (esSS (l.map (List.map (SV.map (ren L))))) → ∀ f ∈ subSS n (l.map (List.map (SV.map (ren L)))), ∀ v ∈ f, v.all (Atom.ok (· < Es.length) h')
 | [], n, _, a, ha => by cases ha
 | x :: l, n, hs, a, ha => by
  rcases List.mem_cons.1 ha with rfl | ha
  ·exact subS_ok hl hs.left
  ·exact subSS_ok hs.right a ha
theorem subB_ok {B : Blk} {n : Nat} (hs : Seg Es n (B.map (ren L)).es) : ((B.map (ren L)).sub n).ok (· < Es.length) h' := by
 cases B with
 | box l => exact subL_ok hl hs
 | arr dp t e => exact hs.lt (i := 0) (by simp [Blk.map, Blk.es])
 | hole t e k i j a => exact ⟨hs.lt (i := 0) (by simp [Blk.map, Blk.es]), hs.lt (i := 1) (by simp [Blk.map, Blk.es]), sub_ok hl (hs.right (l := [_, _]))⟩
end
end
theorem nodupB_inj : ∀ {L : List Nat}, nodupB L = true → ∀ k k' i : Nat, L[k]? = some i → L[k']? = some i → k = k'
 | [], _, k, k', i, h, _ => by simp at h
 | a :: L, hn, k, k', i, h, h' => by
  simp only [nodupB, Bool.and_eq_true, Bool.not_eq_true', List.contains_eq_mem, decide_eq_false_iff_not] at hn
  cases k <;> cases k' <;> simp only [List.getElem?_cons_zero, List.getElem?_cons_succ, Option.some.injEq] at h h'
  ·rfl
  ·subst h; exact (hn.1 (List.mem_of_getElem? h')).elim
  ·subst h'; exact (hn.1 (List.mem_of_getElem? h)).elim
  ·rw [nodupB_inj hn.2 _ _ i h h']
theorem envOf_get {l : List AV} {i : Nat} {v : AV} (h : l[i]? = some v) : envOf l i = v := by
 simp [envOf, h]
section
variable {bd : Bd} {N : Nat → Prop} {s : St} {r : Env} {g : Nat → G} {tm : Array Value} {st : List (Array Value)} {w : World}
theorem take_range_get {L : List Nat} {n k : Nat} (h : L.take n = List.range n) (hk : k < n) : L[k]? = some k := by
 have : (L.take n)[k]? = (List.range n)[k]? := by rw [h]
 rw [List.getElem?_take_of_lt hk, List.getElem?_range hk] at this
 exact this
theorem norm_ok (h : R bd N s r g tm st w) {vs : List AE} {n : NS} (hn : norm s = some (vs, n)) (b : Nat) : ∃ g', R bd (· < vs.length) (n.toSt b) (envOf (vs.map (denA · r))) g' tm st w := by
 unfold norm at hn
 generalize reach s.heap 400 (List.range s.np ++ (s.cur.flatMap SV.ids ++ s.stk.flatMap (List.flatMap SV.ids))) [] = L at hn
 simp only at hn
 split at hn
 case isFalse => cases hn
 rename_i hL
 simp only [Bool.and_eq_true, beq_iff_eq] at hL
 obtain ⟨hl, hb, h1⟩ := Option.map_eq_some_iff.1 hn
 simp only [Prod.mk.injEq] at h1
 obtain ⟨rfl, rfl⟩ := h1
 obtain ⟨hlen, hget⟩ := blks_get hb
 generalize hE : esS false (s.cur.map (SV.map (ren L))) ++ (esSS (s.stk.map (List.map (SV.map (ren L)))) ++ esB hl) = Es
 have hh : Holds Es r (envOf (Es.map (denA · r))) := by
  intro i x hi
  exact envOf_get (by simp [hi])
 have hall : Seg Es 0 Es := Seg.all Es
 have s1 : Seg Es 0 (esS false (s.cur.map (SV.map (ren L)))) := by rw [← hE] at hall ⊢; exact hall.left
 have s23 : Seg Es (0 + (esS false (s.cur.map (SV.map (ren L)))).length) (esSS (s.stk.map (List.map (SV.map (ren L)))) ++ esB hl) := by rw [← hE] at hall ⊢; exact hall.right
 rw [Nat.zero_add] at s23
 have s2 := s23.left
 have s3 := s23.right
 have hpin : ∀ k, k < s.np → L[k]? = some k := fun k hk => take_range_get hL.2 hk
 have hlive : ∀ k : Nat, (L[k]?).isSome = true → ((subB ((esS false (s.cur.map (SV.map (ren L)))).length + (esSS (s.stk.map (List.map (SV.map (ren L))))).length) hl)[k]?).isSome = true := by
  intro k hk
  rw [isSome_getElem?] at hk ⊢
  rw [subB_len, hlen]
  simpa using hk
 have hheap : HeapEq (fun k => L[k]?) r (envOf (Es.map (denA · r))) s.heap (NS.toSt ⟨subS false 0 (s.cur.map (SV.map (ren L))), subSS (esS false (s.cur.map (SV.map (ren L)))).length (s.stk.map (List.map (SV.map (ren L)))), subB ((esS false (s.cur.map (SV.map (ren L)))).length + (esSS (s.stk.map (List.map (SV.map (ren L))))).length) hl, s.np, s.kp⟩ b).heap := by
  intro k B' hk
  simp only [NS.toSt] at hk
  obtain ⟨B, m, e1, rfl, e3⟩ := subB_get s3 hk
  have hk' : k < L.length := by rw [← hlen]; exact (List.getElem?_eq_some_iff.1 e1).1
  obtain ⟨C, c1, c2⟩ := hget k L[k] (List.getElem?_eq_getElem hk')
  rw [c2] at e1
  cases e1
  have hk2 : L[k]? = some L[k] := List.getElem?_eq_getElem hk'
  simp only [hk2]
  exact ⟨C, c1, subB_ren hh e3⟩
 refine ⟨gren (fun k => L[k]?) g, h.ren hheap ?_ ?_ ?_ ?_ h.world ?_ h.np h.kp ?_ ?_ ?_ ?_ ?_⟩
 ·intro k k' i _ _ e1 e2
  exact nodupB_inj hL.1 k k' i e1 e2
 ·exact h.cur.ren (fun b hb => Mt_ren hheap hb) (subS_ren hh s1)
 ·exact h.stk.ren (fun b hb => Mt_ren hheap hb) (subSS_ren hh s2)
 ·intro k B hk b' hb'
  obtain ⟨i, C, _, c1, c2⟩ := gren_foot hheap hk hb'
  exact h.own i C c1 b' c2
 ·intro k p hp hk
  rw [gren_some (hpin k hk)]
  exact h.pin k p hp hk
 ·intro c hc
  rw [gren_some (hpin c.1 (h.kpl c hc).1)]
  exact h.kept c hc
 ·intro c hc
  obtain ⟨h1, l, h2⟩ := h.kpl c hc
  refine ⟨h1, ?_⟩
  obtain ⟨C, c1, c2⟩ := hget c.1 c.1 (hpin _ h1)
  rw [h2] at c1
  cases c1
  have hlt : c.1 < (subB ((esS false (s.cur.map (SV.map (ren L)))).length + (esSS (s.stk.map (List.map (SV.map (ren L))))).length) hl).length := by
   rw [subB_len]; exact (List.getElem?_eq_some_iff.1 c2).1
  obtain ⟨B, m, e1, e2, e3⟩ := subB_get s3 (List.getElem?_eq_getElem hlt)
  rw [c2] at e1
  cases e1
  exact ⟨_, by simp only [NS.toSt]; rw [List.getElem?_eq_getElem hlt, e2]; rfl⟩
 ·exact subS_ok hlive s1
 ·exact subSS_ok hlive s2
 ·intro k B hk
  simp only [NS.toSt] at hk
  obtain ⟨B, m, e1, rfl, e3⟩ := subB_get s3 hk
  have hk' : k < L.length := by rw [← hlen]; exact (List.getElem?_eq_some_iff.1 e1).1
  obtain ⟨C, c1, c2⟩ := hget k L[k] (List.getElem?_eq_getElem hk')
  rw [c2] at e1
  cases e1
  exact subB_ok hlive e3
end
end Go.Sm
namespace Go.Sm
set_option linter.unusedVariables false
set_option linter.unusedSimpArgs false
section
variable {bd : Bd} {N : Nat → Prop} {s : St} {r : Env} {g : Nat → G} {tm : Array Value} {st : List (Array Value)} {w : World}
theorem list_set_self {α : Type} {l : List α} {i : Nat} {a : α} (h : l[i]? = some a) : l.set i a = l := by
 apply List.ext_getElem?
 intro j
 rw [List.getElem?_set]
 split
 ·rename_i hij
  subst hij
  split
  ·exact h.symm
  ·rename_i hlt
   rw [List.getElem?_eq_none (by omega)]
 ·rfl
theorem R.reslot (h : R bd N s r g tm st w) {slot : Nat} {old new : SV} (ho : s.cur[slot]? = some old) (hn : ∀ v, tm.toList[slot]? = some v → SRep w (Mt bd.Z s.heap g) g r new v) (hk : new.all (Atom.ok N s.heap)) :
  R bd N { s with cur := s.cur.set slot new } r g tm st w := by
 obtain ⟨v, hv, hs⟩ := h.cur.get ho
 have h1 := h.cur.set (i := slot) (hn v hv)
 rw [list_set_self hv] at h1
 refine h.slots (stk := s.stk) h1 h.stk (fun u hu => ?_) h.nstk
 rcases List.mem_or_eq_of_mem_set hu with hu | rfl
 ·exact h.ncur u hu
 ·exact hk
theorem Mt_upd {h : Nat → Option Blk} {b : Nat} {B B' : Blk} (hb : h b = some B) : Mt bd.Z (upd h b (some B')) g = Mt bd.Z h g := by
 funext x
 apply propext
 constructor
 ·rintro (⟨i, C, h1, h2⟩ | hz)
  ·by_cases hi : i = b
   ·subst hi; exact .inl ⟨i, B, hb, h2⟩
   ·simp only [upd, show (i == b) = false by simpa using hi, cond_false] at h1; exact .inl ⟨i, C, h1, h2⟩
  ·exact .inr hz
 ·rintro (⟨i, C, h1, h2⟩ | hz)
  ·by_cases hi : i = b
   ·subst hi; exact .inl ⟨i, B', by simp [upd], h2⟩
   ·exact .inl ⟨i, C, by simp only [upd, show (i == b) = false by simpa using hi, cond_false]; exact h1, h2⟩
  ·exact .inr hz
theorem live_upd {h : Nat → Option Blk} {b : Nat} {B B' : Blk} (hb : h b = some B) (i : Nat) (hi : (h i).isSome = true) : (upd h b (some B') i).isSome = true := by
 unfold upd
 cases hib : (i == b)
 ·simpa using hi
 ·simp
theorem Blk.ok_live {h h' : Nat → Option Blk} (hh : ∀ i, (h i).isSome = true → (h' i).isSome = true) {B : Blk} (hB : B.ok N h) : B.ok N h' := by
 cases B with
 | box l => exact fun a ha => Atom.ok_mono (fun _ h => h) hh (hB a ha)
 | arr dp t e => exact hB
 | hole t e k i j a => exact ⟨hB.1, hB.2.1, Atom.ok_mono (fun _ h => h) hh hB.2.2⟩
theorem R.reblk (h : R bd N s r g tm st w) {b : Nat} {B B' : Blk} (hb : s.heap b = some B) (hB : BRep w (Mt bd.Z s.heap g) g r b B → BRep w (Mt bd.Z s.heap g) g r b B') (hok : B'.ok N s.heap) (hbox : ∀ l, B = .box l → ∃ l', B' = .box l') :
  R bd N { s with heap := upd s.heap b (some B') } r g tm st w := by
 have hM := Mt_upd (bd := bd) (g := g) (B' := B') hb
 have hlive := live_upd (B' := B') hb
 have old : ∀ i C, upd s.heap b (some B') i = some C → (i = b ∧ C = B') ∨ (i ≠ b ∧ s.heap i = some C) := by
  intro i C hi
  by_cases hib : i = b
  ·subst hib; simp [upd] at hi; exact .inl ⟨rfl, hi.symm⟩
  ·simp only [upd, show (i == b) = false by simpa using hib, cond_false] at hi; exact .inr ⟨hib, hi⟩
 have dom : ∀ i C, upd s.heap b (some B') i = some C → ∃ C', s.heap i = some C' := by
  intro i C hi
  rcases old i C hi with ⟨rfl, _⟩ | ⟨_, h1⟩
  ·exact ⟨B, hb⟩
  ·exact ⟨C, h1⟩
 exact
  {cur := by simpa only [hM] using h.cur
   stk := by simpa only [hM] using h.stk
   heap := by
    intro i C hi
    simp only [hM]
    rcases old i C hi with ⟨rfl, rfl⟩ | ⟨_, h1⟩
    ·exact hB (h.heap i B hb)
    ·exact h.heap i C h1
   inj := fun i j C D x hi hj => by
    obtain ⟨C', h1⟩ := dom i C hi
    obtain ⟨D', h2⟩ := dom j D hj
    exact h.inj i j C' D' x h1 h2
   nodup := fun i C hi => by obtain ⟨C', h1⟩ := dom i C hi; exact h.nodup i C' h1
   own := fun i C hi => by obtain ⟨C', h1⟩ := dom i C hi; exact h.own i C' h1
   lt := fun i C hi => by obtain ⟨C', h1⟩ := dom i C hi; exact h.lt i C' h1
   world := h.world, pin := h.pin, np := h.np, kp := h.kp, kept := h.kept
   kpl := fun c hc => by
    obtain ⟨h1, l, h2⟩ := h.kpl c hc
    refine ⟨h1, ?_⟩
    by_cases hcb : c.1 = b
    ·rw [hcb] at h2 ⊢
     rw [hb] at h2; cases h2
     obtain ⟨l', rfl⟩ := hbox l rfl
     exact ⟨l', by simp [upd]⟩
    ·exact ⟨l, by simp only [upd, show (c.1 == b) = false by simpa using hcb, cond_false]; exact h2⟩
   ncur := fun v hv => SV.all_mono (fun a ha => Atom.ok_mono (fun _ h => h) hlive ha) (h.ncur v hv)
   nstk := fun f hf v hv => SV.all_mono (fun a ha => Atom.ok_mono (fun _ h => h) hlive ha) (h.nstk f hf v hv)
   nheap := fun i C hi => by
    rcases old i C hi with ⟨rfl, rfl⟩ | ⟨_, h1⟩
    ·exact Blk.ok_live hlive hok
    ·exact Blk.ok_live hlive (h.nheap i C h1) }
theorem turnA_ok (h : R bd N s r g tm st w) {id : Nat} {a : Atom} {act : Trn} {s' : St} {a' : Option Atom} (ht : turnA s id a act = some (s', a')) (ha : a.ok N s.heap) :
  ∃ g', R bd N s' r g' tm st w ∧ ∀ b, a' = some b → s'.cur = s.cur ∧ (∀ i B, s.heap i = some B → s'.heap i = some B ∧ g' i = g i) ∧ b.ok N s'.heap ∧ ∀ v, ARep w (Mt bd.Z s.heap g) g r a v → ARep w (Mt bd.Z s'.heap g') g' r b v := by
 unfold turnA at ht
 split at ht
 ·rename_i dp t
  split at ht
  ·split at ht
   case isFalse => cases ht
   rename_i hf
   simp only [Option.some.injEq, Prod.mk.injEq] at ht
   obtain ⟨rfl, rfl⟩ := ht
   obtain ⟨hid, hnp⟩ := free_eq hf
   have hm := h.made (w' := w) [] id (.arr dp t (.nil false t)) nilG hid hnp (fun k hk => by cases hk) (fun _ _ _ => rfl)
    (fun M' _ _ _ _ => nil_rep (by simp) (by simp [den])) trivial (by simp [nilG]) (fun b hb => by simp [nilG] at hb) (Nat.le_refl _) rfl rfl rfl
   refine ⟨_, hm, fun b hb => ?_⟩
   cases hb
   refine ⟨rfl, fun i B hi => ?_, by simp [Atom.ok, St.new, upd], fun v hv => ?_⟩
   ·have : i ≠ id := by rintro rfl; rw [hid] at hi; cases hi
    exact ⟨by simp [St.new, upd, show (i == id) = false by simpa using this, hi, St.kills], by simp [this]⟩
   ·simp only [ARep] at hv ⊢
    subst hv
    simp [nilG]
  ·cases ht
 ·rename_i t
  split at ht
  ·simp only [Option.some.injEq, Prod.mk.injEq] at ht
   obtain ⟨rfl, rfl⟩ := ht
   refine ⟨g, h, fun b hb => ?_⟩
   cases hb
   refine ⟨rfl, fun i B hi => ⟨hi, rfl⟩, trivial, fun v hv => ?_⟩
   simp only [ARep] at hv ⊢
   subst hv
   exact ⟨none, 0, rfl, Nat.le_refl _, fun h => (by cases h), fun _ => rfl, fun p hp => by cases hp⟩
  ·simp only [Option.some.injEq, Prod.mk.injEq] at ht
   obtain ⟨rfl, rfl⟩ := ht
   exact ⟨g, h.freeze _, fun b hb => by cases hb⟩
  ·simp only [Option.some.injEq, Prod.mk.injEq] at ht
   obtain ⟨rfl, rfl⟩ := ht
   exact ⟨g, h.freeze _, fun b hb => by cases hb⟩
  ·simp only [Option.some.injEq, Prod.mk.injEq] at ht
   obtain ⟨rfl, rfl⟩ := ht
   refine ⟨g, h, fun b hb => ?_⟩
   cases hb
   exact ⟨rfl, fun i B hi => ⟨hi, rfl⟩, ha, fun v hv => hv.1⟩
  ·simp only [Option.some.injEq, Prod.mk.injEq] at ht
   obtain ⟨rfl, rfl⟩ := ht
   refine ⟨g, h, fun b hb => ?_⟩
   cases hb
   refine ⟨rfl, fun i B hi => ⟨hi, rfl⟩, ha, fun v hv => ?_⟩
   obtain ⟨x, cp, h1, h2, h3, h4, h5⟩ := hv
   exact ⟨x, cp, h1, h2, fun h => (by cases h), h4, h5⟩
  ·cases ht
 ·split at ht
  ·simp only [Option.some.injEq, Prod.mk.injEq] at ht
   obtain ⟨rfl, rfl⟩ := ht
   rename_i i
   obtain ⟨g', h1, h2⟩ := h.shallow i
   exact ⟨g', h2, fun b hb => by cases hb⟩
  ·cases ht
 ·split at ht
  ·simp only [Option.some.injEq, Prod.mk.injEq] at ht
   obtain ⟨rfl, rfl⟩ := ht
   refine ⟨g, h, fun b hb => ?_⟩
   cases hb
   refine ⟨rfl, fun i B hi => ⟨hi, rfl⟩, trivial, fun v hv => ?_⟩
   simp only [ARep] at hv ⊢
   subst hv
   exact ⟨none, 0, rfl, Nat.le_refl _, fun _ => ⟨fun _ => rfl, fun _ => rfl⟩, fun _ => rfl, fun p hp => by cases hp⟩
  ·cases ht
theorem cur_get {s : St} {slot : Nat} {v : SV} (h : s.cur.getD slot (.a .no) = v) (hv : v ≠ .a .no) : s.cur[slot]? = some v := by
 rw [List.getD_eq_getElem?_getD] at h
 cases hx : s.cur[slot]? with
 | none => rw [hx] at h; exact (hv h.symm).elim
 | some y => rw [hx] at h; simpa using h
theorem applyAct_ok (h : R bd N s r g tm st w) (id slot : Nat) (c : Option Nat) (act : Trn) : ∃ g', R bd N (applyAct s id slot c act) r g' tm st w := by
 unfold applyAct
 split
 ·split
  ·rename_i a hslot
   split
   ·rename_i s' a' ht
    have hne : (SV.a a) ≠ .a .no := by
     intro he
     cases he
     unfold turnA at ht
     split at ht <;> cases ht
    have hg := cur_get hslot hne
    obtain ⟨g', h1, h2⟩ := turnA_ok h ht (h.ncur _ (List.mem_of_getElem? hg))
    obtain ⟨e1, e2, e3, e4⟩ := h2 a' rfl
    refine ⟨g', h1.reslot (old := .a a) (by rw [e1]; exact hg) (fun v hv => ?_) e3⟩
    obtain ⟨v0, hv0, hs0⟩ := h.cur.get hg
    rw [hv0] at hv
    cases hv
    exact e4 _ hs0
   ·rename_i s' ht
    by_cases hne : (SV.a a) = .a .no
    ·cases hne
     unfold turnA at ht
     split at ht <;> cases ht
    ·have hg := cur_get hslot hne
     obtain ⟨g', h1, _⟩ := turnA_ok h ht (h.ncur _ (List.mem_of_getElem? hg))
     exact ⟨g', h1⟩
   ·exact ⟨g, h⟩
  ·exact ⟨g, h⟩
 ·rename_i c
  split
  ·rename_i b l hbox
   have hb : s.heap b = some (.box l) := by
    unfold boxOf at hbox
    split at hbox
    ·split at hbox
     ·rename_i hh; simp only [Option.some.injEq, Prod.mk.injEq] at hbox; obtain ⟨rfl, rfl⟩ := hbox; exact hh
     ·cases hbox
    ·cases hbox
   have hatom : ∀ s' a', turnA s id (l.getD c .no) act = some (s', a') → l[c]? = some (l.getD c .no) := by
    intro s' a' ht
    rw [List.getD_eq_getElem?_getD] at ht ⊢
    cases hx : l[c]? with
    | none =>
     rw [hx] at ht
     simp only [Option.getD_none] at ht
     unfold turnA at ht
     split at ht <;> cases ht
    | some y => rfl
   split
   ·rename_i s' a' ht
    have hl := hatom _ _ ht
    obtain ⟨g', h1, h2⟩ := turnA_ok h ht (h.nheap b _ hb _ (List.mem_of_getElem? hl))
    obtain ⟨e1, e2, e3, e4⟩ := h2 a' rfl
    split
    ·rename_i l' hl'
     have := (e2 b _ hb).1
     rw [this] at hl'
     cases hl'
     have hbrep := h.heap b _ hb
     refine ⟨g', h1.reblk this (fun hB => ?_) ?_ fun l0 _ => ⟨_, rfl⟩⟩
     ·obtain ⟨f1, cs, ty, f2, f3⟩ := hB
      obtain ⟨_, cs0, ty0, f20, f30⟩ := hbrep
      rw [(e2 b _ hb).2, f20] at f2
      cases f2
      refine ⟨f1, cs, ty, by rw [(e2 b _ hb).2]; exact f20, ?_⟩
      obtain ⟨v, hv, hs⟩ := f30.get hl
      have h3 := f3.set (i := c) (e4 v hs)
      rwa [list_set_self hv] at h3
     ·intro x hx
      rcases List.mem_or_eq_of_mem_set hx with hx | rfl
      ·exact h1.nheap b _ this x hx
      ·exact e3
    ·exact ⟨g, h⟩
   ·rename_i s' ht
    have hl := hatom _ _ ht
    obtain ⟨g', h1, _⟩ := turnA_ok h ht (h.nheap b _ hb _ (List.mem_of_getElem? hl))
    exact ⟨g', h1⟩
   ·exact ⟨g, h⟩
  ·exact ⟨g, h⟩
theorem applyActs_ok : ∀ {s : St} {g : Nat → G} (id : Nat) (l : List (Nat × Option Nat × Trn)), R bd N s r g tm st w → ∃ g', R bd N (applyActs s id l) r g' tm st w
 | s, g, id, [], h => ⟨g, h⟩
 | s, g, id, (slot, c, a) :: l, h => by
  obtain ⟨g', h'⟩ := applyAct_ok h id slot c a
  exact applyActs_ok (id + 1) l h'
end
end Go.Sm
