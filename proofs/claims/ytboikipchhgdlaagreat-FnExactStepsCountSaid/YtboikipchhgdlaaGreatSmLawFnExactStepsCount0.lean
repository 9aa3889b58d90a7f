/- The law holds for all arguments that the statement lets in; no further condition. -/
import Derived.Test.YtboikipchhgdlaaGreatSmOk0
import Derived.Test.YtboikipchhgdlaaGreatSmIns0
import Derived.Test.YtboikipchhgdlaaGreatSmMath1
import Derived.Test.YtboikipchhgdlaaGreatRows
import Derived.Test.YtboikipchhgdlaaGreatSmLib4
namespace Go.Proofs.YtboikipchhgdlaaGreat
open Go Go.Sm Go.Sm.Q
open Go.ChangeShapes Go.WideShapes Go.ChangeAt Go.RowKit
set_option linter.unusedVariables false
def sig3 : Sig := ⟨[.agg ((flT (P (L V3) (L TR))).map .p)], [.p B]⟩
theorem all_ok : ∀ n, KOK cx (runF mc.F mc.H n) := runF_ok hnd_all (by kernel_rfl) trees_ok fun f sig ins outs _ _ h => nomatch h
theorem wf_len {α : Type} {l : List α} (h : l.length ≤ maxLen) : Lt63 l := by unfold Lt63; unfold maxLen at h; omega
theorem wf_ru {r : Ru} (h : Wf TR r) : LtRu r := ⟨wf_len h.1.1, wf_len h.2.1.1, wf_len h.2.2.1, fun x hx => wf_len (h.2.2.2 x hx).1⟩
theorem wf_sy {s : Sy} (h : Wf (P (L V3) (L TR)) s) : LtSy s := ⟨wf_len h.1.1, wf_len h.2.1, fun x hx => wf_ru (h.2.2 x hx)⟩
theorem pure3 (a0 : ((P (L V3) (L TR))).D) (hw0 : Wf (P (L V3) (L TR)) a0) : Contract Tryz.prog 3 sig3 (flV (P (L V3) (L TR)) a0) [⟨B, true⟩] := by
 obtain ⟨outs, h, rfl⟩ := law_FnExactStepsCount a0 (wf_sy hw0)
 obtain ⟨n, hn⟩ := h.fin
 exact all_ok n 3 sig3 _ _ rfl hn
theorem own : ownKnob Tryz.prog.godebug = none := by kernel_rfl
theorem laidOut : laidOutB Tryz.prog = true := by kernel_rfl
set_option maxRecDepth 100000 in
theorem lifted3 (os : Os) (started : os.Started) (H : Type) (enc : TypeId × Value → H) :
  ReturnsInHanded {} Tryz.checked os 3 .any (Rows.fnExactStepsCountSpec.pre6 enc Tryz.prog Tryz.f3 Rows.fnExactStepsCountRow.domain false) (Rows.fnExactStepsCountSpec.post enc Tryz.prog Tryz.f3 false true false false) := by
 refine returnsInHanded_of_change_sized (C := Tryz.checked) own started (by kernel_rfl) Tryz.func3
  (ChangeSpec.witness6 (enc := enc) (C := Tryz.checked) false ⟨#[], #[.agg #[.slice none 0 0, .slice none 0 0]], []⟩ 8 (by kernel_rfl) (by kernel_rfl) (by kernel_rfl) (by kernel_rfl)) ?_
 intro W base args ds gs before hval0 hW hcnd hsz0 _
 have hval : ∀ (j : Nat) t v, Tryz.f3.params[j]? = some t → args[j]? = some v → Value.okWide Tryz.prog W .any base t v := hval0
 have hW' := hW
 obtain ⟨p, q, hA0, hV, rfl, hfz, hnd⟩ := hW
 have hA : DataW.TrodAll enc Tryz.prog W 0 (fun _ => true) true Tryz.f3.params.toList args.toList ds p := hA0
 rw [Tryz.params3] at hA hval
 obtain ⟨v0, vs0, d0, ds0, p0, q0, hargs, rfl, rfl, h0, r0⟩ := trodAll_cons hA
 obtain ⟨rfl, rfl, rfl⟩ := trodAll_nil r0
 obtain rfl : args = #[v0] := by cases args; simp_all
 obtain ⟨rfl, rfl⟩ := trodVars_none hV
 have k0 := h0
 have lt0 : ∀ x ∈ p0, x.block < W.heap.size := by obtain ⟨m, hm⟩ := k0; exact DataW.trod_lt m _ _ _ hm
 obtain ⟨c0, rfl, -⟩ := okWide_struct Tryz.underlying25 (hval 0 25 v0 rfl rfl)
 obtain ⟨e0, hr0, hw0⟩ : ∃ d, Rep W (fun _ => False) (P (L V3) (L TR)) d c0.toList ∧ Wf (P (L V3) (L TR)) d := by
  obtain ⟨m, hm⟩ := h0
  exact trod_rep 8 (by kernel_rfl) hm
 clear hA0 hval0 hsz0
 have hc : SReps W (fun _ => False) (fun _ => nilG) (envOf (flV (P (L V3) (L TR)) e0)) (shSV 0 0 sig3.ps) [.agg c0] := by
  refine ⟨?_, trivial⟩
  ·refine ⟨c0, rfl, rep_agg hr0 fun i x hi => envOf_get ?_⟩
   rw [Nat.zero_add]
   exact hi
 refine (law_calls (sig := sig3) rfl rfl rfl (pure3 e0 hw0) hc).mono fun e W' ⟨he, bel⟩ => ?_
 subst he
 exact ⟨_, rfl, _, _, _, [], _, [], hW', trodAll_mk1 (shut_bool Tryz.underlying4 _), (trodAll_cons_mk (Below.trod laidOut (by kernel_rfl) (of_decide_eq_true (by kernel_rfl)) k0 bel lt0) trodAll_mk0), rfl, bel.frame _, fun h => by cases h⟩
theorem over3 : Rows.fnExactStepsCountRow.holds Tryz.pinned (OpenSpec.ofChange Rows.fnExactStepsCountSpec) :=
 OpenClaim.holds_of_wide 3 Tryz.f3 rfl rfl rfl rfl rfl rfl rfl ⟨rfl, rfl, rfl, rfl, rfl⟩ rfl rfl rfl rfl rfl (by kernel_rfl) Tryz.func3 (by kernel_rfl)
  (of_decide_eq_true (by kernel_rfl)) (by unfold Func.isWrapper; first | (rw [if_pos (by decide +kernel)]; kernel_rfl) | (rw [if_neg (by decide +kernel)]; exact ⟨rfl, rfl⟩))
  (fun os started H enc _ => lifted3 os started H enc)
theorem fnExactStepsCount_holds : Rows.FnExactStepsCountSaid := over3
end Go.Proofs.YtboikipchhgdlaaGreat
