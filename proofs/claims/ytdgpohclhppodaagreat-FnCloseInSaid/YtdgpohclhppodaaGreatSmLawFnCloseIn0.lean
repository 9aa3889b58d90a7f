/- The law holds for all arguments that the statement lets in; no further condition. -/
import Derived.Test.YtdgpohclhppodaaGreatSmOk0
import Derived.Test.YtdgpohclhppodaaGreatSmIns0
import Derived.Test.YtdgpohclhppodaaGreatSmMath2
import Derived.Test.YtdgpohclhppodaaGreatRows
import Derived.Test.YtdgpohclhppodaaGreatSmLib4
set_option linter.unusedVariables false
namespace Go.Proofs.YtdgpohclhppodaaGreat
open Go Go.Sm Go.Sm.Q
open Go.ChangeShapes Go.WideShapes Go.ChangeAt Go.RowKit
def sig3 : Sig := ⟨[.p (L U)], [.p B]⟩
theorem all_ok : ∀ n, KOK cx (Z09 mc.F mc.H n) := ZaT Zrj (by kernel_rfl) Zr8 fun f sig ins outs _ _ h => nomatch h
theorem wf_len {α : Type} {l : List α} (h : l.length ≤ maxLen) : Zit l := by unfold Zit; unfold maxLen at h; omega
theorem wf_byt {l : List Int} (h : Wf (L U) l) : Byt l := fun x hx => by
 have h1 := h.2 x hx
 simp only [Wf, Lit.wf, Ye, Y5] at h1
 simpa [IntKind.min, IntKind.max, IntKind.bits, IntKind.signed] using h1
theorem pure3 (a0 : ((L U)).D) (hw0 : Wf (L U) a0) : Zag Tryz.prog 3 sig3 ([⟨(L U), a0⟩]) [⟨B, true⟩] := by
 obtain ⟨outs, h, rfl⟩ := ZoL a0 (wf_byt hw0) (wf_len hw0.1)
 obtain ⟨n, hn⟩ := h.fin
 exact all_ok n 3 sig3 _ _ rfl hn
theorem own : ownKnob Tryz.prog.godebug = none := by kernel_rfl
theorem laidOut : laidOutB Tryz.prog = true := by kernel_rfl
set_option maxRecDepth 100000 in
theorem lifted3 (os : Os) (started : os.Started) (H : Type) (enc : TypeId × Value → H) :
  ReturnsInHanded {} Tryz.checked os 3 .any (Rows.fnCloseInSpec.pre6 enc Tryz.prog Tryz.f3 Rows.fnCloseInRow.domain false) (Rows.fnCloseInSpec.post enc Tryz.prog Tryz.f3 false true false false) := by
 refine returnsInHanded_of_change_sized (C := Tryz.checked) own started (by kernel_rfl) Tryz.func3
  (ChangeSpec.witness6 (enc := enc) (C := Tryz.checked) false ⟨#[], #[.slice none 0 0], []⟩ 8 (by kernel_rfl) (by kernel_rfl) (by kernel_rfl) (by kernel_rfl)) ?_
 intro W base args ds gs before hval0 hW hcnd hsz0 _
 have hval : ∀ (j : Nat) t v, Tryz.f3.params[j]? = some t → args[j]? = some v → Value.okWide Tryz.prog W .any base t v := hval0
 have hW' := hW
 obtain ⟨p, q, hA0, hV, rfl, hfz, hnd⟩ := hW
 have hA : DataW.TrodAll enc Tryz.prog W 0 (fun _ => true) true Tryz.f3.params.toList args.toList ds p := hA0
 rw [Tryz.params3] at hA hval
 obtain ⟨v0, vs0, d0, ds0, p0, q0, hargs, rfl, rfl, h0, r0⟩ := trodAll_cons hA
 obtain ⟨rfl, rfl, rfl⟩ := trodAll_nil r0
 obtain rfl : args = #[v0] := by cases args; simp_all
 obtain ⟨rfl, rfl⟩ := trodVars_none hV
 have k0 := h0
 have lt0 : ∀ x ∈ p0, x.block < W.heap.size := by obtain ⟨m, hm⟩ := k0; exact DataW.trod_lt m _ _ _ hm
 obtain ⟨b0, n0, m0, rfl⟩ := okWide_slice Tryz.underlying22 (hval 0 22 v0 rfl rfl)
 obtain ⟨e0, hr0, hw0⟩ : ∃ d, Rep W (fun _ => False) (L U) d [.slice b0 n0 m0] ∧ Wf (L U) d := by
  obtain ⟨m, hm⟩ := h0
  exact ZaW 8 (by kernel_rfl) hm
 clear hA0 hval0 hsz0
 have hc : Za W (fun _ => False) (fun _ => Z7J) (Z1 ([⟨(L U), e0⟩])) (Z1O 0 0 sig3.ps) [.slice b0 n0 m0] := by
  refine ⟨?_, trivial⟩
  ·simp only [Z9, Z7]
   exact hr0
 refine (ZaY (sig := sig3) rfl rfl rfl (pure3 e0 hw0) hc).mono fun e W' ⟨he, bel⟩ => ?_
 subst he
 exact ⟨_, rfl, _, _, _, [], _, [], hW', trodAll_mk1 (shut_bool Tryz.underlying4 _), (trodAll_cons_mk (Below.trod laidOut (by kernel_rfl) (of_decide_eq_true (by kernel_rfl)) k0 bel lt0) trodAll_mk0), rfl, bel.frame _, fun h => by cases h⟩
theorem over3 : Rows.fnCloseInRow.holds Tryz.pinned (OpenSpec.ofChange Rows.fnCloseInSpec) :=
 OpenClaim.holds_of_wide 3 Tryz.f3 rfl rfl rfl rfl rfl rfl rfl ⟨rfl, rfl, rfl, rfl, rfl⟩ rfl rfl rfl rfl rfl (by kernel_rfl) Tryz.func3 (by kernel_rfl)
  (of_decide_eq_true (by kernel_rfl)) (by unfold Func.isWrapper; first | (rw [if_pos (by decide +kernel)]; kernel_rfl) | (rw [if_neg (by decide +kernel)]; exact ⟨rfl, rfl⟩))
  (fun os started H enc _ => lifted3 os started H enc)
theorem fnCloseIn_holds : Rows.FnCloseInSaid := over3
end Go.Proofs.YtdgpohclhppodaaGreat
