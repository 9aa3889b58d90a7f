/- What is told by hand: what some functions of the library do; no condition. -/
import Derived.Test.YtdgpohclhppodaaGreatSmTab0
import Derived.Test.YtdgpohclhppodaaGreatSmLib3
import Derived.Shelf.Spec.SlicesInsert
import Derived.Lib.AppendZerosOnto
import Derived.Shelf.Lay
import Derived.Ground.Names2Prog
import Derived.Shelf.Slices.Clone
set_option linter.unusedSimpArgs false
set_option linter.unusedVariables false
namespace Go.Proofs.YtdgpohclhppodaaGreat
open Go Go.Sm Go.RowKit
theorem Zr9:∃i z,Tryz.prog.info? 31=some i∧i.size=1∧i.bytes=24∧i.zero=some z∧z.cells.size=1:=by
 have h:(Tryz.prog.info? 31).map (fun i=>(i.size,i.bytes,i.zero.map (·.cells.size)))=some (1,24,some 1):=by kernel_rfl
 obtain ⟨i,hi,h2⟩:=Ya.1 h
 simp only [Y9] at h2
 obtain ⟨h3,h4,h5⟩:=h2
 obtain ⟨z,hz,h6⟩:=Ya.1 h5
 exact ⟨i,z,hi,h3,h4,hz,h6⟩
theorem Zra {w:World} {b vb o so dl sl dc sc:Nat} {cur:Array Value} {ety:TypeId} {cs:List Value} (hb:w.heap[b]?=some (.cells cur ety (0,0))) (hl:cs.length=Nat.min sl dl) (hc:∀j u,cs[j]?=some u→cell w vb (so+j)=some u)
  (hfit:o+cs.length≤cur.size) (h1:∀v∈cs,v.oneCell'=true) (ty:TypeId) :
  (Builtin.copy_ #[30,30] ty #[.slice (some ⟨b,o,none⟩) dl dc,.slice (some ⟨vb,so,none⟩) sl sc]).run Tryz.prog w =
   .ok (goInt cs.length) (w.setRow b (cur.toList.take o++cs++cur.toList.drop (o+cs.length)).toArray):=by
 obtain ⟨i,z,hi,hsz,-,-,-⟩:=Zr9
 have hst:=run_storeCells_at Tryz.prog b o ety cs 0 cur w hb (by simpa using hfit) h1
 simp only [Nat.add_zero] at hst
 have:=Z5S (P:=Tryz.prog) (ty:=ty) (n:=dl) (cap:=dc) (m:=sl) (c:=sc) (base:=some ⟨b,o,none⟩) (a2:=some ⟨vb,so,none⟩) Tryz.underlying30 hi (ts:=#[30,30]) rfl
  (Z4M (by rw [hsz,Nat.mul_one];exact hl) (fun p hp _=>by cases hp;exact ⟨rfl,hc⟩) (fun h=>by cases h)) (fun p hp=>by cases hp;exact hst) (fun h=>by cases h)
 rw [←hl] at this
 exact this
set_option maxHeartbeats 4000000 in
set_option maxRecDepth 100000 in
theorem Zrb {w:World} {b off n c k vb voff vc:Nat} {cur cu2:Array Value} {ety ety2:TypeId} {u:Value} (hk:k<n) (hroom:n+1≤c) (hc63:c≤9223372036854775807) (hvb:vb≠b)
  (hb:w.heap[b]?=some (.cells cur ety (0,0))) (hfit:off+c≤cur.size) (hv:w.heap[vb]?=some (.cells cu2 ety2 (0,0))) (hu:cu2[voff]?=some u) (h1:∀v∈(cur.toList.drop off).take n,v.oneCell'=true) (h1u:u.oneCell'=true) :
  Calls Tryz.prog 229 #[.slice (some ⟨b,off,none⟩) n c,.int .i64 k,.slice (some ⟨vb,voff,none⟩) 1 vc] w fun e w' =>
   e=.returned (.slice (some ⟨b,off,none⟩) (n+1) c)∧∃W1:World,W1=w.drew.setRow b (cur.toList.take (off+(k+1))++(cur.toList.drop (off+k)).take (n - k)++cur.toList.drop (off+(k+1)+(n - k))).toArray ∧
    ∃X:Array Value,W1.heap[b]?=some (.cells X ety (0,0))∧w'=W1.setRow b (X.toList.take (off+k)++[u]++X.toList.drop (off+k+1)).toArray:=by
 have u3:=run_underlying Tryz.underlying3;have u28:=run_underlying Tryz.underlying30;have u49:=run_underlying Tryz.underlying31
 obtain ⟨i0,z0,hi0,hsz0,-,-,-⟩:=Zr9
 have hsize:∀w,(Go.sizeOf 31).run Tryz.prog w=.ok 1 w:=fun w=>by rw [Z3M hi0,hsz0]
 have hov:∀(w:World) lb cb,(w.heap[b]?=some (.cells cur ety (0,0)))→w.heap[vb]?=some (.cells cu2 ety2 (0,0))→(callFunc 295 #[.slice (some ⟨vb,voff,none⟩) 1 vc,.slice (some ⟨b,off+(k+1),none⟩) lb cb]).run Tryz.prog w=.ok (.value (.bool false)) w:=fun w lb cb hb hv=>by
  rw [run_callFunc_extern Tryz.func295 (by kernel_rfl) (by kernel_rfl) (by kernel_rfl) (e:=Extern.SlicesOverlaps.overlaps #[30,30] #[4]) (by kernel_rfl),
   Lib.run_overlaps_apart w 30 4 31 Tryz.underlying30 1 hsize ⟨vb,voff,none⟩ ⟨b,off+(k+1),none⟩ 1 vc lb cb hvb ety2 ety cu2.size cur.size (by simp [World.shape?,hv]) (by simp [World.shape?,hb]) (by omega) (by simp [World.frozen?,hv]) (by simp [World.frozen?,hv])]
  rfl
 have hov:=fun lb cb=>hov w lb cb hb hv
 have mixed:Tryz.prog.follows .mixedOrders=true:=by kernel_rfl
 have hmid:((cur.toList.drop (off+k)).take (n - k)).length=n - k:=by rw [Yb,Yq,Yi];omega
 have hcp1:∀ty dc sc,(Builtin.copy_ #[30,30] ty #[.slice (some ⟨b,off+(k+1),none⟩) (n - k) dc,.slice (some ⟨b,off+k,none⟩) (n+1 - k) sc]).run Tryz.prog w.drew =
   .ok (goInt ((cur.toList.drop (off+k)).take (n - k)).length) (w.drew.setRow b (cur.toList.take (off+(k+1))++(cur.toList.drop (off+k)).take (n - k)++cur.toList.drop (off+(k+1)+(n - k))).toArray):=fun ty dc sc=>by
  have:=Zra (w:=w.drew) (dc:=dc) (sc:=sc) (o:=off+(k+1)) (dl:=n - k) (sl:=n+1 - k) (vb:=b) (so:=off+k) (cs:=(cur.toList.drop (off+k)).take (n - k)) hb (by rw [hmid];simp only [Nat.min_def];split<;>omega)
   (fun j x hj=>by
    rw [List.getElem?_take] at hj
    split at hj
    ·rw [YB] at hj
     rw [Z0b,show w.drew.heap[b]?=some (.cells cur ety (0,0)) from hb]
     simpa using hj
    ·cases hj) (by rw [hmid];omega) (fun v hv=>h1 v (by
     have h2:(cur.toList.drop (off+k)).take (n - k)=((cur.toList.drop off).take n).drop k:=by
      rw [List.drop_take,List.drop_drop]
     rw [h2] at hv
     exact List.mem_of_mem_drop hv)) ty
  rw [hmid] at this ⊢
  exact this
 obtain ⟨W1,hW1⟩:∃W1:World,W1=w.drew.setRow b (cur.toList.take (off+(k+1))++(cur.toList.drop (off+k)).take (n - k)++cur.toList.drop (off+(k+1)+(n - k))).toArray:=⟨_,rfl⟩
 obtain ⟨X,hX,hXs⟩:∃X:Array Value,W1.heap[b]?=some (.cells X ety (0,0))∧X.size=cur.size:=by
  refine ⟨_,by rw [hW1];exact setRow_heap w.drew b cur _ ety _ hb,?_⟩
  simp only [List.size_toArray,Y7,Yb,Yq,Yi]
  omega
 have hv1:W1.heap[vb]?=some (.cells cu2 ety2 (0,0)):=by rw [hW1,setRow_other _ _ _ _ (by omega)];exact hv
 have hcp2:∀ty dc,(Builtin.copy_ #[30,30] ty #[.slice (some ⟨b,off+k,none⟩) (n+1 - k) dc,.slice (some ⟨vb,voff,none⟩) 1 vc]).run Tryz.prog W1=.ok (goInt 1) (W1.setRow b (X.toList.take (off+k)++[u]++X.toList.drop (off+k+1)).toArray):=fun ty dc =>
  Zra (w:=W1) (cs:=[u]) hX (by simp only [Yj,Nat.min_def];split<;>omega) (fun j x hj=>by
   cases j with
   | zero=>simp at hj;subst hj;rw [Z0b,hv1];simpa using hu
   | succ j=>simp at hj) (by simp only [Yj];omega) (fun v hv=>by simp at hv;subst hv;exact h1u) ty
 rw [←hW1] at hcp1
 have HW:Hid (W1=w.drew.setRow b (cur.toList.take (off+(k+1))++(cur.toList.drop (off+k)).take (n - k)++cur.toList.drop (off+(k+1)+(n - k))).toArray):=hW1
 clear hW1
 have hz2:¬((k:Int)=(n:Int)):=by omega
 have hw1:IntKind.i64.wrap ((k:Int)+1)=(k:Int)+1:=by rw [IntKind.wrap_i64];omega
 have hb1:(0:Int)≤(k:Int)+1:=by omega
 have hin:k≤n:=by omega
 have htn:((k:Int)+1).toNat=k+1:=by omega
 have hb2:¬(c=k+1):=by omega
 have hb3:(k:Int)≤(n:Int)+1:=by omega
 have hb4:¬(c=k):=by omega
 go_enter Tryz.func229,Tryz.ntmps229
 go_wp2_with (simp only [hov])
 go_region_law_o (refine step_copy_runI rfl _ _ 30 30 rfl _ _ (by simp [Act.eval,Act.put]) (by simp [Act.eval,Act.put]) (hcp1 _ _ _) ?_)
 go_wp2_with (at_builtin;refine wpList_copy_runI _ rfl _ _ 30 30 rfl _ _ rfl rfl (hcp2 _ _) ?_)
 go_ret
 exact ⟨rfl,W1,HW.out,X,hX,by simp⟩
set_option maxHeartbeats 4000000 in
set_option maxRecDepth 100000 in
theorem Zrc {w:World} {base:Option Addr} {n c vb voff vc:Nat} {o:Option Nat} {xs:List Value} {u:Value} (hown:Z5 w (.slice base n c) o 1 n xs) (hn:(n:Int)≤lim)
  (hnc:n≤c) (hu:cell w vb voff=some u) (h1u:u.oneCell'=true)
  (hbc:c≠n→∃b off,base=some ⟨b,off,none⟩):Calls Tryz.prog 229 #[.slice base n c,.int .i64 n,.slice (some ⟨vb,voff,none⟩) 1 vc] w (Z7q w o n (xs++[u])):=by
 have u3:=run_underlying Tryz.underlying3;have u28:=run_underlying Tryz.underlying30;have u49:=run_underlying Tryz.underlying31
 obtain ⟨i0,z0,hi0,hsz0,hby,hz0,hzs⟩:=Zr9
 rw [←hsz0] at hown
 obtain ⟨v',w',o',hrun,h2,h3,h4,h5,h6,h7,h8,h9⟩:=Z4P (P:=Tryz.prog) (ty:=30) (t2:=30) Tryz.underlying30 Tryz.underlying30 hi0 hz0 (by rw [hzs,hsz0]) (by omega) hown (a:=some ⟨vb,voff,none⟩) (m:=1) (c:=vc) (news:=[u]) (by simp [hsz0])
  (fun p hp _=>by
   cases hp
   refine ⟨rfl,fun j x hj=>?_⟩
   cases j with
   | zero=>simp at hj;subst hj;exact hu
   | succ j=>simp at hj) (fun h=>by cases h) (fun x hx=>by simp at hx;subst hx;exact h1u) hn (by simp [lim])
 rw [hsz0] at h2
 have hlim:(n:Int)≤549755813888:=hn
 have HD:Hid (_∧_∧_∧_∧_∧_∧_∧_):=⟨h2,h3,h4,h5,h6,h7,h8,h9⟩
 clear h2 h3 h4 h5 h6 h7 h8 h9 hown
 have hin:(n:Int)≤(n:Int):=Int.le_refl _
 have fin:Z7q w o n (xs++[u]) (.returned v') w':=by
  obtain ⟨h2,h3,h4,h5,h6,h7,h8,h9⟩:=HD.out
  exact ⟨v',o',rfl,h2,h3,h4,h5,h6,h7,h8,h9⟩
 have FIN:Hid (Z7q w o n (xs++[u]) (.returned v') w'):=fin
 clear fin HD
 by_cases hcn:c=n
 ·subst hcn
  go_enter Tryz.func229,Tryz.ntmps229
  go_wp2_with (at_builtin;refine Lib.wpList_append_run _ rfl _ _ _ _ rfl _ _ rfl rfl _ _ hrun ?_)
  all_goals go_ret
  all_goals exact FIN.out
 ·obtain ⟨b,off,rfl⟩:=hbc hcn
  go_enter Tryz.func229,Tryz.ntmps229
  go_wp2_with (at_builtin;refine Lib.wpList_append_run _ rfl _ _ _ _ rfl _ _ rfl rfl _ _ hrun ?_)
  go_ret
  exact FIN.out
set_option maxHeartbeats 4000000 in
set_option maxRecDepth 100000 in
theorem Zrd {w:World} {b off n c k vb voff vc:Nat} {cur cu2:Array Value} {ety ety2:TypeId} {u:Value} (hk:k<n) (hnc:n≤c) (hroom:c<n+1) (hn:(n:Int)≤lim) (hvb:vb≠b)
  (hb:w.heap[b]?=some (.cells cur ety (0,0))) (hfit:off+c≤cur.size) (hv:w.heap[vb]?=some (.cells cu2 ety2 (0,0))) (hu:cu2[voff]?=some u) (h1:∀v∈(cur.toList.drop off).take n,v.oneCell'=true) (h1u:u.oneCell'=true) :
  Calls Tryz.prog 229 #[.slice (some ⟨b,off,none⟩) n c,.int .i64 k,.slice (some ⟨vb,voff,none⟩) 1 vc] w fun e w' =>
   Z7q w (some b) n (((cur.toList.drop off).take n).take k++[u]++((cur.toList.drop off).take n).drop k) e w':=by
 have u3:=run_underlying Tryz.underlying3;have u28:=run_underlying Tryz.underlying30;have u49:=run_underlying Tryz.underlying31
 obtain ⟨i0,z0,hi0,hsz0,hby,hz0,hzs⟩:=Zr9
 have hlim:(n:Int)≤549755813888:=hn
 have mixed:Tryz.prog.follows .mixedOrders=true:=by kernel_rfl
 obtain ⟨cs,hcs⟩:∃cs,cs=(cur.toList.drop off).take n:=⟨_,rfl⟩
 have hcl:cs.length=n:=by rw [hcs,Yb,Yq,Yi];omega
 have hcell:∀j x,cs[j]?=some x→cell w b (off+j)=some x:=fun j x hj=>by
  rw [hcs,List.getElem?_take] at hj
  split at hj
  ·rw [YB] at hj
   rw [Z0b,hb]
   simpa using hj
  ·cases hj
 have hbw:b<w.heap.size:=(Array.getElem?_eq_some_iff.1 hb).1
 have hvw:vb<w.heap.size:=(Array.getElem?_eq_some_iff.1 hv).1
 have hold:(Builtin.firstCells i0.size k (.slice (some ⟨b,off,none⟩) k c)).run Tryz.prog w.drew=.ok (cs.take k).toArray w.drew :=
  Z4M (by rw [hsz0,Yb,hcl];omega) (fun p hp _=>by
   cases hp
   refine ⟨rfl,fun j x hj=>?_⟩
   rw [List.getElem?_take] at hj
   split at hj
   ·exact hcell j x hj
   ·cases hj) (fun h=>by cases h)
 obtain ⟨G,hG⟩:∃G,G=grownCap w (n+1) c 31:=⟨_,rfl⟩
 obtain ⟨ROW,hROW⟩:∃ROW:Array Value,ROW=(cs.take k).toArray++Builtin.zeroCells z0.cells (n+1 - k)++Builtin.zeroCells z0.cells (G - (n+1)):=⟨_,rfl⟩
 have hGn:n+1≤G:=by rw [hG];exact grownCap_ge w _ _ _
 have hGm:G≤maxLen:=by rw [hG];exact grownCap_le_maxLen w (n+1) c 31 (by unfold maxLen;omega)
 have hrz:∀ty,(Builtin.append_ #[30,3] ty #[.slice (some ⟨b,off,none⟩) k c,.int .i64 ((n:Int)+1 - (k:Int))]).run Tryz.prog w=.ok (.slice (some ⟨w.heap.size,0,none⟩) (n+1) G) (w.drew.alloc (.cells ROW 31)):=fun ty=>by
  have h:=Lib.run_append_grow_zeros w 30 3 ty 31 i0 z0 .i64 .i64 Tryz.underlying30 Tryz.underlying3 hi0 hz0 (some ⟨b,off,none⟩) k c (cs.take k) hold (n+1 - k) (by omega) (by omega) (by omega) (by omega) (by rw [hby];omega)
   (by rw [hby,show k+(n+1 - k)=n+1 by omega];exact growslice_fits (by omega) (by omega))
  rw [show k+(n+1 - k)=n+1 by omega,←hG,←hROW] at h
  rw [show (n:Int)+1 - (k:Int)=((n+1 - k:Nat):Int) by omega]
  exact h
 have hRs:ROW.size=G:=by
  rw [hROW]
  simp only [Array.size_append,List.size_toArray,Yb,hcl,size_zeroCells,hzs,Nat.mul_one]
  omega
 have hRk:ROW.toList.take k=cs.take k:=by
  rw [hROW]
  simp only [Array.toList_append,Ym]
  rw [List.take_append_of_le_length (by rw [Yb,hcl];omega),YI (by rw [Yb,hcl];omega)]
 obtain ⟨W1,hW1⟩:∃W1:World,W1=w.drew.alloc (.cells ROW 31):=⟨_,rfl⟩
 rw [←hW1] at hrz
 have hN1:W1.heap[w.heap.size]?=some (.cells ROW 31 (0,0)):=by rw [hW1];exact heap_alloc_new w.drew _
 have hO1:∀j,j<w.heap.size→W1.heap[j]?=w.heap[j]?:=fun j hj=>by rw [hW1];exact Below.heap_alloc w.drew _ j hj
 have hS1:W1.heap.size=w.heap.size+1:=by rw [hW1];show (w.heap.push _).size=_;simp
 have hcpA:∀ty dc,(Builtin.copy_ #[30,30] ty #[.slice (some ⟨w.heap.size,k,none⟩) (n+1 - k) dc,.slice (some ⟨vb,voff,none⟩) 1 vc]).run Tryz.prog W1=.ok (goInt 1) (W1.setRow w.heap.size (ROW.toList.take k++[u]++ROW.toList.drop (k+1)).toArray):=fun ty dc =>
  Zra (w:=W1) (cs:=[u]) hN1 (by simp only [Yj,Nat.min_def];split<;>omega) (fun j x hj=>by
   cases j with
   | zero=>simp at hj;subst hj;rw [Z0b,hO1 _ hvw,hv];simpa using hu
   | succ j=>simp at hj) (by simp only [Yj];omega) (fun v hv=>by simp at hv;subst hv;exact h1u) ty
 obtain ⟨R2,hR2⟩:∃R2:Array Value,R2=(ROW.toList.take k++[u]++ROW.toList.drop (k+1)).toArray:=⟨_,rfl⟩
 have hR2s:R2.size=G:=by
  rw [hR2]
  simp only [List.size_toArray,Y7,Yb,Yq,Yi,hRs,Yj]
  omega
 have hR2k:R2.toList.take (k+1)=cs.take k++[u]:=by
  rw [hR2,hRk]
  rw [List.take_append_of_le_length (by simp [hcl];omega),YI (by simp [hcl];omega)]
 rw [←hR2] at hcpA
 obtain ⟨W2,hW2⟩:∃W2:World,W2=W1.setRow w.heap.size R2:=⟨_,rfl⟩
 rw [←hW2] at hcpA
 have hN2:W2.heap[w.heap.size]?=some (.cells R2 31 (0,0)):=by rw [hW2];exact setRow_heap W1 _ _ _ _ _ hN1
 have hO2:∀j,j<w.heap.size→W2.heap[j]?=w.heap[j]?:=fun j hj=>by rw [hW2,setRow_other _ _ _ _ (by omega)];exact hO1 j hj
 have hdl:(cs.drop k).length=n - k:=by rw [Yq,hcl]
 have hcpB:∀ty dc sc,(Builtin.copy_ #[30,30] ty #[.slice (some ⟨w.heap.size,k+1,none⟩) (n - k) dc,.slice (some ⟨b,off+k,none⟩) (n - k) sc]).run Tryz.prog W2.drew =
   .ok (goInt (cs.drop k).length) (W2.drew.setRow w.heap.size (R2.toList.take (k+1)++cs.drop k++R2.toList.drop (k+1+(n - k))).toArray):=fun ty dc sc=>by
  have:=Zra (w:=W2.drew) (dc:=dc) (sc:=sc) (o:=k+1) (dl:=n - k) (sl:=n - k) (vb:=b) (so:=off+k) (cs:=cs.drop k) hN2 (by rw [hdl];simp) (fun j x hj=>by
   rw [YB] at hj
   have h:=hcell (k+j) x hj
   rw [Z0b] at h ⊢
   rw [show W2.drew.heap[b]?=w.heap[b]? from hO2 b hbw,Nat.add_assoc]
   exact h) (by rw [hdl,hR2s];omega) (fun v hv=>h1 v (by rw [←hcs];exact List.mem_of_mem_drop hv)) ty
  rw [hdl] at this ⊢
  exact this
 have HD:Hid ((W1=w.drew.alloc (.cells ROW 31))∧(W2=W1.setRow w.heap.size R2)):=⟨hW1,hW2⟩
 have HR:Hid ((cs=(cur.toList.drop off).take n)∧R2.toList.take (k+1)=cs.take k++[u]):=⟨hcs,hR2k⟩
 clear hW1 hW2 hR2 hROW hG hcs hR2k hRk hold
 have hz2:¬((k:Int)=(n:Int)):=by omega
 have hz3:(c:Int)<(n:Int)+1:=by omega
 have hw1:IntKind.i64.wrap ((k:Int)+1)=(k:Int)+1:=by rw [IntKind.wrap_i64];omega
 have hb1:(0:Int)≤(k:Int)+1:=by omega
 have hin:k≤n:=by omega
 have htn:((k:Int)+1).toNat=k+1:=by omega
 have hGi:¬(G=k):=by omega
 have hGim:¬(G=k+1):=by omega
 have hci:¬(c=k):=by omega
 have hb3:(k:Int)≤(n:Int):=by omega
 have hG63:G≤9223372036854775807:=by unfold maxLen at hGm;omega
 go_enter Tryz.func229,Tryz.ntmps229
 go_wp2_with (first
  | (at_builtin;refine Lib.wpList_append_run _ rfl _ _ _ _ rfl _ _ rfl rfl _ _ (hrz _) ?_)
  | (at_builtin;refine wpList_copy_runI _ rfl _ _ 30 30 rfl _ _ rfl rfl (hcpA _ _) ?_))
 go_region_law_o (refine step_copy_runI rfl _ _ 30 30 rfl _ _ (by simp [Act.eval,Act.put]) (by simp [Act.eval,Act.put]) (hcpB _ _ _) ?_)
 go_wp2
 go_ret
 obtain ⟨e1,e2⟩:=HD.out
 obtain ⟨e3,e4⟩:=HR.out
 rw [←e3]
 have hl1:(cs.take k++[u]++cs.drop k).length=n+1:=by simp only [Y7,Yb,Yq,Yj,hcl];omega
 refine ⟨.slice (some ⟨w.heap.size,0,none⟩) (n+1) G,some w.heap.size,rfl,⟨by rw [hl1];omega,.inr ⟨w.heap.size,0,G,_,31,rfl,rfl,setRow_heap W2.drew _ _ _ _ _ hN2,hGn,hGm,?_,?_⟩⟩,.inr rfl,fun _=>?_,fun j hj hne=>?_,?_,?_,?_,?_⟩
 ·simp only [List.size_toArray,Y7,Yb,Yq,Yi,hR2s,hcl]
  omega
 ·simp only [List.drop_zero,Nat.mul_one]
  rw [e4,←Ym,List.take_append_of_le_length (by rw [hl1];omega),YI (by rw [hl1];omega)]
 ·rw [e2];simp [World.setRow,hS1]
 ·rw [setRow_other _ _ _ _ (by omega)];exact hO2 j hj
 ·rw [e2];simp [World.setRow,hS1]
 ·rw [e2,e1];rfl
 ·rw [e2,e1];rfl
 ·rw [e2,e1];rfl
theorem Zre {w:World} {v:Value} {o:Option Nat} {n k vb voff vc:Nat} {xs:List Value} {cu2:Array Value} {ety2:TypeId} {u:Value} (hown:Z5 w v o 1 n xs) (hk:k≤n) (hn:(n:Int)≤lim) (hvb:o≠some vb)
  (hv:w.heap[vb]?=some (.cells cu2 ety2 (0,0))) (hu:cu2[voff]?=some u) (h1:∀x∈xs,x.oneCell'=true) (h1u:u.oneCell'=true) :
  Calls Tryz.prog 229 #[v,.int .i64 k,.slice (some ⟨vb,voff,none⟩) 1 vc] w (Z7q w o n (xs.take k++[u]++xs.drop k)):=by
 have hlim:(n:Int)≤549755813888:=hn
 have hown0:=hown
 obtain ⟨hlen,hrest⟩:=hown
 rw [Nat.mul_one] at hlen
 have hcu:cell w vb voff=some u:=by rw [Z0b,hv];simpa using hu
 by_cases hkn:k=n
 ·subst hkn
  rw [YI (by omega),List.drop_of_length_le (by omega),Yx]
  rcases hrest with ⟨x,rfl,rfl,rfl⟩ | ⟨b,off,cap,cur,ety,rfl,rfl,hb,hnc,hcm,hfit,htk⟩
  ·have hx0:xs=[]:=List.eq_nil_of_length_eq_zero hlen
   subst hx0
   exact Zrc hown0 hn (Yh _) hcu h1u (fun h=>(h rfl).elim)
  ·exact Zrc hown0 hn hnc hcu h1u (fun _=>⟨b,off,rfl⟩)
 ·have hlt:k<n:=by omega
  rcases hrest with ⟨x,rfl,rfl,rfl⟩ | ⟨b,off,cap,cur,ety,rfl,rfl,hb,hnc,hcm,hfit,htk⟩
  ·omega
  ·simp only [Nat.mul_one] at htk hfit
   have hne:vb≠b:=fun h=>hvb (by rw [h])
   have h1':∀v∈(cur.toList.drop off).take n,v.oneCell'=true:=by rw [htk];exact h1
   by_cases hroom:n+1≤cap
   ·refine (Zrb hlt hroom (by unfold maxLen at hcm;omega) hne hb hfit hv hu h1' h1u).mono ?_
    rintro e w' ⟨rfl,W1,hW1,X,hX,rfl⟩
    have hXe:X=(cur.toList.take (off+(k+1))++(cur.toList.drop (off+k)).take (n - k)++cur.toList.drop (off+(k+1)+(n - k))).toArray:=by
     rw [hW1,setRow_heap w.drew b cur _ ety _ hb] at hX
     simp only [Y4,Obj.cells.injEq] at hX
     exact hX.1.symm
    have hmid:((cur.toList.drop (off+k)).take (n - k)).length=n - k:=by rw [Yb,Yq,Yi];omega
    have hmid2:(cur.toList.drop (off+k)).take (n - k)=xs.drop k:=by rw [←htk,List.drop_take,List.drop_drop]
    have hXs:X.size=cur.size:=by
     rw [hXe]
     simp only [List.size_toArray,Y7,Yb,Yq,Yi]
     omega
    have hl1:(xs.take k++[u]++xs.drop k).length=n+1:=by simp only [Y7,Yb,Yq,Yj,hlen];omega
    refine ⟨_,some b,rfl,⟨by rw [hl1];omega,.inr ⟨b,off,cap,_,ety,rfl,rfl,setRow_heap W1 _ _ _ _ _ hX,hroom,hcm,?_,?_⟩⟩,.inl rfl,fun h=>?_,fun j hj hne=>?_,?_,?_,?_,?_⟩
    ·simp only [List.size_toArray,Y7,Yb,Yq,Yi,hXs,Yj]
     omega
    ·-- the cells
     have e1:(X.toList.take (off+k)).drop off=xs.take k:=by
      rw [hXe]
      simp only
      rw [List.take_append_of_le_length (by simp only [Y7,Yb,Yi,hmid];omega),List.take_append_of_le_length (by rw [Yb,Yi];omega),List.take_take,Nat.min_eq_left (by omega),List.drop_take,←htk,List.take_take,Nat.min_eq_left (by omega)]
      congr 1;omega
     have e2:(X.toList.drop (off+k+1)).take (n - k)=xs.drop k:=by
      rw [hXe]
      simp only
      rw [Ym,List.drop_append_of_le_length (by rw [Yb,Yi];omega),List.drop_of_length_le (l:=cur.toList.take _) (by rw [Yb,Yi];omega),List.nil_append,List.take_append_of_le_length (by rw [hmid];omega),YI (by rw [hmid];omega),hmid2]
     show List.take ((n+1) * 1) (List.drop off (X.toList.take (off+k)++[u]++X.toList.drop (off+k+1)))=_
     rw [Nat.mul_one,Ym,List.drop_append_of_le_length (by rw [Yb,Yi];omega),e1,←Ym]
     rw [List.take_append,YI (by simp only [Y7,Yb,Yj,hlen];omega)]
     congr 1
     rw [show n+1 - (xs.take k++[u]).length=n - k by simp only [Y7,Yb,Yj,hlen];omega]
     exact e2
    ·have:=(Array.getElem?_eq_some_iff.1 hb).1
     cases h
     omega
    ·have hjb:j≠b:=fun h=>hne (by rw [h])
     rw [setRow_other _ _ _ _ hjb,hW1,setRow_other _ _ _ _ hjb];rfl
    ·rw [hW1];show _≤((w.drew.setRow b _).setRow b _).heap.size;simp [World.setRow]
    ·rw [hW1];rfl
    ·rw [hW1];rfl
    ·rw [hW1];rfl
   ·have:=Zrd (k:=k) (voff:=voff) (vc:=vc) hlt hnc (by omega) hn hne hb hfit hv hu h1' h1u
    rw [htk] at this
    exact this
theorem Zrf:Go.Sm.Enters Tryz.prog 229:=by
 refine ⟨_,Tryz.func229,of_decide_eq_true ?_,?_⟩<;>kernel_rfl
theorem Zrg:Z7r Tryz.prog 229:=⟨Zrf,fun w v o n k vb voff vc xs cu2 ety2 u h1 h2 h3 h4 h5 h6 h7 h8=>Zre h1 h2 h3 h4 h5 h6 h7 h8⟩
end Go.Proofs.YtdgpohclhppodaaGreat
namespace Go.Proofs.YtdgpohclhppodaaGreat
open Go Go.Sm Go.RowKit Go.Shelf
shelf_lay Lays2.n15 Nm2 15 at Tryz as layCln
theorem Zrh {w w':World} {ty:TypeId} {v:Value} {n:Nat} {xs:List Value} (h:w'.ownsRow w.heap.size ty 1 v n xs) (hb:Below w.heap.size w w'):Z7u w 1 n xs (.returned v) w':=by
 obtain ⟨h1,h2⟩:=h
 rcases h2 with ⟨rfl,rfl⟩ | ⟨g,cap,cur,rfl,h3,h4,h5,h6,h7,h8⟩
 ·exact ⟨_,none,rfl,⟨h1,.inl ⟨none,rfl,rfl,rfl⟩⟩,fun b hb=>(by cases hb),hb.block,hb.size,hb.os,hb.tape,hb.output⟩
 ·refine ⟨_,some g,rfl,⟨h1,.inr ⟨g,0,cap,cur,ty,rfl,rfl,h4,h5,h6,by omega,by rw [List.drop_zero];exact h8⟩⟩,fun b hb=>?_,hb.block,hb.size,hb.os,hb.tape,hb.output⟩
  cases hb
  exact ⟨h3,(Array.getElem?_eq_some_iff.1 h4).1⟩
theorem Zri:Z7w Tryz.prog 153:=by
 refine ⟨⟨_,Tryz.func153,of_decide_eq_true (by kernel_rfl),by kernel_rfl⟩,?_⟩
 intro w x c zs hx h0 hl
 cases x with
 | none =>
  have hz:zs=[]:=List.eq_nil_of_length_eq_zero (h0 rfl)
  subst hz
  have h:Calls Tryz.prog 153 #[.slice none 0 c] w fun e w'=>e=.returned (.slice none 0 0)∧w'=w:=Any.slices_Clone_int_nil layCln 0 c w
  refine h.mono ?_
  rintro e w' ⟨rfl,rfl⟩
  exact ⟨_,none,rfl,⟨rfl,.inl ⟨none,rfl,rfl,rfl⟩⟩,fun b hb=>(by cases hb),fun _ _=>rfl,Yh _,rfl,rfl,rfl⟩
 | some p =>
  by_cases hz:zs=[]
  ·subst hz
   have h:Calls Tryz.prog 153 #[.slice (some p) 0 c] w fun e w'=>∃v',e=.returned v'∧w'.ownsRow w.heap.size (layCln_ren.t 3) 1 v' 0 []∧v'≠.slice none 0 0∧Below w.heap.size w w':=Any.slices_Clone_int_zero layCln p c w
   refine h.mono ?_
   rintro e w' ⟨v',rfl,h1,_,h2⟩
   exact Zrh h1 h2
  ·obtain ⟨hs,hc⟩:=hx p rfl hz
   obtain ⟨b,off,sp⟩:=p
   simp only at hs hc
   subst hs
   have hlim:(zs.length:Int)≤549755813888:=hl
   have h:Calls Tryz.prog 153 #[.slice (some ⟨b,off,none⟩) zs.length c] w fun e w'=>∃v',e=.returned v'∧w'.ownsRow w.heap.size (layCln_ren.t 3) 1 v' zs.length ((zs.take zs.length).map (Value.int .i64))∧v'≠.slice none 0 0∧Below w.heap.size w w' :=
    Any.slices_Clone_int layCln b off zs.length c zs w (Yh _) (by omega) (fun j hj=>hc j _ (by rw [List.getElem?_map,List.getElem?_eq_getElem hj];simp [Y8,hj]))
   refine h.mono ?_
   rintro e w' ⟨v',rfl,h1,_,h2⟩
   rw [Yu] at h1
   exact Zrh h1 h2
end Go.Proofs.YtdgpohclhppodaaGreat
namespace Go.Proofs.YtdgpohclhppodaaGreat
open Go Go.Sm
theorem Zrj:Z7b cx:=Z7I fun f ty h=>by
 have h1:inF f=some ty:=h
 simp only [inF,inL] at h1
 obtain ⟨x,hx,h0⟩:=Ya.1 h1
 have h2:=List.find?_some hx
 have h3:=List.mem_of_find?_eq_some hx
 simp only [Yl,List.not_mem_nil,or_false] at h3
 rcases h3 with rfl | rfl
 ·have h4:=beq_iff_eq.1 h2
  simp only at h4 h0
  subst h4 h0
  exact Zrg
 ·have h4:=beq_iff_eq.1 h2
  simp only at h4 h0
  subst h4 h0
  exact Zri
end Go.Proofs.YtdgpohclhppodaaGreat
