/- What is told by hand: what some functions of the library do; no condition. -/
import Derived.Test.YtdgpohclhppodaaGreatSmTab0
import Derived.Test.YtdgpohclhppodaaGreatSmLib3
import Derived.Lib.AppendZerosOnto
import Derived.Shelf.Spec.SlicesInsert
namespace Go.Proofs.YtdgpohclhppodaaGreat
open Go Go.Sm Go.RowKit
set_option linter.unusedVariables false
set_option linter.unusedSimpArgs false
theorem grw190I:∃i z,Tryz.prog.info? 31=some i∧i.size=1∧i.bytes=24∧i.zero=some z∧z.cells.size=1:=by
 have h:(Tryz.prog.info? 31).map (fun i=>(i.size,i.bytes,i.zero.map (·.cells.size)))=some (1,24,some 1):=by kernel_rfl
 obtain ⟨i,hi,h2⟩:=Option.map_eq_some_iff.1 h
 simp only [Prod.mk.injEq] at h2
 obtain ⟨h3,h4,h5⟩:=h2
 obtain ⟨z,hz,h6⟩:=Option.map_eq_some_iff.1 h5
 exact ⟨i,z,hi,h3,h4,hz,h6⟩
set_option maxHeartbeats 4000000 in
set_option maxRecDepth 100000 in
theorem grw190_run:GrwRun Tryz.prog 190 1:=by
 refine ⟨⟨_,Tryz.func190,of_decide_eq_true (by kernel_rfl),by kernel_rfl⟩,?_⟩
 intro w n hl
 have hlim:(n:Int)≤549755813888:=hl
 have u3:=run_underlying Tryz.underlying3;have u49:=run_underlying Tryz.underlying30
 obtain ⟨i0,z0,hi0,hsz0,hby,hz0,hzs⟩:=grw190I
 by_cases hn:n=0
 ·subst hn
  go_enter Tryz.func190,Tryz.ntmps190
  go_wp2
  go_ret
  exact ⟨_,none,rfl,⟨rfl,.inl ⟨none,rfl,rfl,rfl⟩⟩,fun b hb=>(by cases hb),fun _ _=>rfl,Nat.le_refl _,rfl,rfl,rfl⟩
 ·have hold:(Builtin.firstCells i0.size 0 (.slice none 0 0)).run Tryz.prog w.drew=.ok ([]:List Value).toArray w.drew:=run_firstCells_any (by rw [hsz0];rfl) (fun p hp _=>by cases hp) (fun _=>rfl)
  obtain ⟨G,hG⟩:∃G,G=grownCap w n 0 31:=⟨_,rfl⟩
  have hGn:n≤G:=by rw [hG];exact grownCap_ge w _ _ _
  have hGm:G≤maxLen:=by rw [hG];exact grownCap_le_maxLen w n 0 31 (by unfold maxLen;omega)
  obtain ⟨ROW,hROW⟩:∃ROW:Array Value,ROW=Builtin.zeroCells z0.cells n++Builtin.zeroCells z0.cells (G - n):=⟨_,rfl⟩
  have hRs:ROW.size=G * 1:=by
   rw [hROW,Array.size_append,size_zeroCells,size_zeroCells,hzs,←Nat.add_mul]
   congr 1;omega
  have hrz:∀ty,(Builtin.append_ #[30,3] ty #[.slice none 0 0,.int .i64 (n:Int)]).run Tryz.prog w=.ok (.slice (some ⟨w.heap.size,0,none⟩) n G) (w.drew.alloc (.cells ROW 31)):=fun ty=>by
   have h:=Lib.run_append_grow_zeros w 30 3 ty 31 i0 z0 .i64 .i64 Tryz.underlying30 Tryz.underlying3 hi0 hz0 none 0 0 [] hold n (by omega) (by rw [hsz0];decide) (by omega) (by omega) (by rw [hby];omega)
    (by rw [hby,Nat.zero_add];exact growslice_fits (by omega) (by omega))
   simp only [Nat.zero_add,Array.empty_append] at h
   rw [←hG,←hROW] at h
   exact h
  have hb1:(0:Int)<(n:Int):=by omega
  obtain ⟨W1,hW1⟩:∃W1:World,W1=w.drew.alloc (.cells ROW 31):=⟨_,rfl⟩
  rw [←hW1] at hrz
  have hN1:W1.heap[w.heap.size]?=some (.cells ROW 31 (0,0)):=by rw [hW1];exact heap_alloc_new w.drew _
  have hO1:∀j,j<w.heap.size→W1.heap[j]?=w.heap[j]?:=fun j hj=>by rw [hW1];exact Below.heap_alloc w.drew _ j hj
  have hS1:W1.heap.size=w.heap.size+1:=by rw [hW1];show (w.heap.push _).size=_;simp
  have fin:MadeP w 1 0 [] (.returned (.slice (some ⟨w.heap.size,0,none⟩) 0 G)) W1:=by
   refine ⟨_,some w.heap.size,rfl,⟨by simp,.inr ⟨w.heap.size,0,G,ROW,31,rfl,rfl,hN1,Nat.zero_le _,hGm,by rw [hRs];omega,by simp⟩⟩,fun b hb=>?_,hO1,by omega,by rw [hW1];rfl,by rw [hW1];rfl,by rw [hW1];rfl⟩
   cases hb
   omega
  have FIN:Hid (MadeP w 1 0 [] (.returned (.slice (some ⟨w.heap.size,0,none⟩) 0 G)) W1):=fin
  clear fin hW1 hN1 hO1 hS1 hROW hRs hG hold
  go_enter Tryz.func190,Tryz.ntmps190
  go_wp2_with (at_builtin;refine Lib.wpList_append_run _ rfl _ _ _ _ rfl _ _ rfl rfl _ _ (hrz _) ?_)
  go_ret
  exact FIN.out
end Go.Proofs.YtdgpohclhppodaaGreat
namespace Go.Proofs.YtdgpohclhppodaaGreat
open Go Go.Sm
theorem hnd_all:InsOK cx:=hand_ok fun f ty h=>by
 have h1:inF f=some ty:=h
 simp only [inF,inL] at h1
 obtain ⟨x,hx,h0⟩:=Option.map_eq_some_iff.1 h1
 have h2:=List.find?_some hx
 have h3:=List.mem_of_find?_eq_some hx
 simp only [List.mem_cons,List.not_mem_nil,or_false] at h3
 rcases h3 with rfl
 ·have h4:=beq_iff_eq.1 h2
  simp only at h4 h0
  subst h4 h0
  exact grw190_run
end Go.Proofs.YtdgpohclhppodaaGreat
