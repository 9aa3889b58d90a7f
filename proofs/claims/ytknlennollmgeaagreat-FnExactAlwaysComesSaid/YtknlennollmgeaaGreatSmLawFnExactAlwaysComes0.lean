/- The law holds for all arguments that the statement lets in; no further condition. -/
import Derived.Test.YtknlennollmgeaaGreatSmOk0
import Derived.Test.YtknlennollmgeaaGreatSmIns0
import Derived.Test.YtknlennollmgeaaGreatSmMath2
import Derived.Test.YtknlennollmgeaaGreatRows
import Derived.Test.YtknlennollmgeaaGreatSmLib4
namespace Go.Proofs.YtknlennollmgeaaGreat
open Go Go.Sm Go.Sm.Q
open Go.ChangeShapes Go.WideShapes Go.ChangeAt Go.RowKit
set_option linter.unusedVariables false
def sig7 : Sig := ⟨[.agg ((flT (P (L V3) (L TR))).map .p), .p (L I), .p (L I), .p (L T4)], [.p B]⟩
theorem all_ok : ∀ n, KOK cx (runF mc.F mc.H n) := runF_ok hnd_all (by kernel_rfl) trees_ok fun f sig ins outs _ _ h => nomatch h
theorem wf_len {α : Type} {l : List α} (h : l.length ≤ maxLen) : Lt63 l := by unfold Lt63; unfold maxLen at h; omega
theorem wf_ru {r : Ru} (h : Wf TR r) : LtRu r := ⟨wf_len h.1.1, wf_len h.2.1.1, wf_len h.2.2.1, fun x hx => wf_len (h.2.2.2 x hx).1⟩
theorem wf_sy {s : Sy} (h : Wf (P (L V3) (L TR)) s) : LtSy s := ⟨wf_len h.1.1, wf_len h.2.1, fun x hx => wf_ru (h.2.2 x hx)⟩
theorem pure7 (a0 : ((P (L V3) (L TR))).D) (a1 : ((L I)).D) (a2 : ((L I)).D) (a3 : ((L T4)).D) (hw0 : Wf (P (L V3) (L TR)) a0) (hw1 : Wf (L I) a1) (hw2 : Wf (L I) a2) (hw3 : Wf (L T4) a3) : Contract Tryz.prog 7 sig7 (flV (P (L V3) (L TR)) a0 ++ [⟨(L I), a1⟩] ++ [⟨(L I), a2⟩] ++ [⟨(L T4), a3⟩]) [⟨B, true⟩] := by
 obtain ⟨outs, h, rfl⟩ := law_FnExactAlwaysComes a0 a1 a2 a3 (wf_sy hw0) (wf_len hw1.1) (wf_len hw2.1) (wf_len hw3.1)
 obtain ⟨n, hn⟩ := h.fin
 exact all_ok n 7 sig7 _ _ rfl hn
theorem own : ownKnob Tryz.prog.godebug = none := by kernel_rfl
theorem laidOut : laidOutB Tryz.prog = true := by kernel_rfl
set_option maxRecDepth 100000 in
theorem lifted7 (os : Os) (started : os.Started) (H : Type) (enc : TypeId × Value → H) :
  ReturnsInHanded {} Tryz.checked os 7 .any (Rows.fnExactAlwaysComesSpec.pre6 enc Tryz.prog Tryz.f7 Rows.fnExactAlwaysComesRow.domain false) (Rows.fnExactAlwaysComesSpec.post enc Tryz.prog Tryz.f7 false true false false) := by
 refine returnsInHanded_of_change_sized (C := Tryz.checked) own started (by kernel_rfl) Tryz.func7
  (ChangeSpec.witness6 (enc := enc) (C := Tryz.checked) false ⟨#[], #[.agg #[.slice none 0 0, .slice none 0 0], .slice none 0 0, .slice none 0 0, .slice none 0 0], []⟩ 8 (by kernel_rfl) (by kernel_rfl) (by kernel_rfl) (by kernel_rfl)) ?_
 intro W base args ds gs before hval0 hW hcnd hsz0 _
 have hval : ∀ (j : Nat) t v, Tryz.f7.params[j]? = some t → args[j]? = some v → Value.okWide Tryz.prog W .any base t v := hval0
 have hW' := hW
 obtain ⟨p, q, hA0, hV, rfl, hfz, hnd⟩ := hW
 have hA : DataW.TrodAll enc Tryz.prog W 0 (fun _ => true) true Tryz.f7.params.toList args.toList ds p := hA0
 rw [Tryz.params7] at hA hval
 obtain ⟨v0, vs0, d0, ds0, p0, q0, hargs, rfl, rfl, h0, r0⟩ := trodAll_cons hA
 obtain ⟨v1, vs1, d1, ds1, p1, q1, rfl, rfl, rfl, h1, r1⟩ := trodAll_cons r0
 obtain ⟨v2, vs2, d2, ds2, p2, q2, rfl, rfl, rfl, h2, r2⟩ := trodAll_cons r1
 obtain ⟨v3, vs3, d3, ds3, p3, q3, rfl, rfl, rfl, h3, r3⟩ := trodAll_cons r2
 obtain ⟨rfl, rfl, rfl⟩ := trodAll_nil r3
 obtain rfl : args = #[v0, v1, v2, v3] := by cases args; simp_all
 obtain ⟨rfl, rfl⟩ := trodVars_none hV
 have k0 := h0
 have lt0 : ∀ x ∈ p0, x.block < W.heap.size := by obtain ⟨m, hm⟩ := k0; exact DataW.trod_lt m _ _ _ hm
 have k1 := h1
 have lt1 : ∀ x ∈ p1, x.block < W.heap.size := by obtain ⟨m, hm⟩ := k1; exact DataW.trod_lt m _ _ _ hm
 have k2 := h2
 have lt2 : ∀ x ∈ p2, x.block < W.heap.size := by obtain ⟨m, hm⟩ := k2; exact DataW.trod_lt m _ _ _ hm
 have k3 := h3
 have lt3 : ∀ x ∈ p3, x.block < W.heap.size := by obtain ⟨m, hm⟩ := k3; exact DataW.trod_lt m _ _ _ hm
 obtain ⟨c0, rfl, -⟩ := okWide_struct Tryz.underlying25 (hval 0 25 v0 rfl rfl)
 obtain ⟨e0, hr0, hw0⟩ : ∃ d, Rep W (fun _ => False) (P (L V3) (L TR)) d c0.toList ∧ Wf (P (L V3) (L TR)) d := by
  obtain ⟨m, hm⟩ := h0
  exact trod_rep 8 (by kernel_rfl) hm
 obtain ⟨b1, n1, m1, rfl⟩ := okWide_slice Tryz.underlying26 (hval 1 26 v1 rfl rfl)
 obtain ⟨e1, hr1, hw1⟩ : ∃ d, Rep W (fun _ => False) (L I) d [.slice b1 n1 m1] ∧ Wf (L I) d := by
  obtain ⟨m, hm⟩ := h1
  exact trod_rep 8 (by kernel_rfl) hm
 obtain ⟨b2, n2, m2, rfl⟩ := okWide_slice Tryz.underlying26 (hval 2 26 v2 rfl rfl)
 obtain ⟨e2, hr2, hw2⟩ : ∃ d, Rep W (fun _ => False) (L I) d [.slice b2 n2 m2] ∧ Wf (L I) d := by
  obtain ⟨m, hm⟩ := h2
  exact trod_rep 8 (by kernel_rfl) hm
 obtain ⟨b3, n3, m3, rfl⟩ := okWide_slice Tryz.underlying55 (hval 3 55 v3 rfl rfl)
 obtain ⟨e3, hr3, hw3⟩ : ∃ d, Rep W (fun _ => False) (L T4) d [.slice b3 n3 m3] ∧ Wf (L T4) d := by
  obtain ⟨m, hm⟩ := h3
  exact trod_rep 8 (by kernel_rfl) hm
 clear hA0 hval0 hsz0
 have hc : SReps W (fun _ => False) (fun _ => nilG) (envOf (flV (P (L V3) (L TR)) e0 ++ [⟨(L I), e1⟩] ++ [⟨(L I), e2⟩] ++ [⟨(L T4), e3⟩])) (shSV 0 0 sig7.ps) [.agg c0, .slice b1 n1 m1, .slice b2 n2 m2, .slice b3 n3 m3] := by
  refine ⟨?_, ?_, ?_, ?_, trivial⟩
  ·refine ⟨c0, rfl, rep_agg hr0 fun i x hi => envOf_get ?_⟩
   rw [Nat.zero_add]
   exact get_app (get_app (get_app (hi)))
  ·simp only [SRep, ARep]
   exact hr1
  ·simp only [SRep, ARep]
   exact hr2
  ·simp only [SRep, ARep]
   exact hr3
 refine (law_calls (sig := sig7) rfl rfl rfl (pure7 e0 e1 e2 e3 hw0 hw1 hw2 hw3) hc).mono fun e W' ⟨he, bel⟩ => ?_
 subst he
 exact ⟨_, rfl, _, _, _, [], _, [], hW', trodAll_mk1 (shut_bool Tryz.underlying4 _), (trodAll_cons_mk (Below.trod laidOut (by kernel_rfl) (of_decide_eq_true (by kernel_rfl)) k0 bel lt0) (trodAll_cons_mk (Below.trod laidOut (by kernel_rfl) (of_decide_eq_true (by kernel_rfl)) k1 bel lt1) (trodAll_cons_mk (Below.trod laidOut (by kernel_rfl) (of_decide_eq_true (by kernel_rfl)) k2 bel lt2) (trodAll_cons_mk (Below.trod laidOut (by kernel_rfl) (of_decide_eq_true (by kernel_rfl)) k3 bel lt3) trodAll_mk0)))), rfl, bel.frame _, fun h => by cases h⟩
theorem over7 : Rows.fnExactAlwaysComesRow.holds Tryz.pinned (OpenSpec.ofChange Rows.fnExactAlwaysComesSpec) :=
 OpenClaim.holds_of_wide 7 Tryz.f7 rfl rfl rfl rfl rfl rfl rfl ⟨rfl, rfl, rfl, rfl, rfl⟩ rfl rfl rfl rfl rfl (by kernel_rfl) Tryz.func7 (by kernel_rfl)
  (of_decide_eq_true (by kernel_rfl)) (by unfold Func.isWrapper; first | (rw [if_pos (by decide +kernel)]; kernel_rfl) | (rw [if_neg (by decide +kernel)]; exact ⟨rfl, rfl⟩))
  (fun os started H enc _ => lifted7 os started H enc)
theorem fnExactAlwaysComes_holds : Rows.FnExactAlwaysComesSaid := over7
end Go.Proofs.YtknlennollmgeaaGreat
