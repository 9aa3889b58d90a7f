/- What the trees come to: plain mathematics; no condition. -/
import Derived.Test.YtdgpohclhppodaaGreatSmMath1
namespace Go.Proofs.YtdgpohclhppodaaGreat
open Go Go.Sm Go.Sm.Q
set_option linter.unusedSimpArgs false
set_option linter.unusedVariables false
theorem nxtN_nil {s:Sy} {st:List Int}:∀{k:Nat},nxtN s st k=[]→∀j,j<k→useM s.1 (s.2.getD j ([],[],[])) st=[]
 | 0,_,j,hj=>absurd hj (Nat.not_lt_zero _)
 | k+1,h,j,hj=>by
  simp only [nxtN] at h
  split at h
  ·rename_i g
   rcases Nat.lt_succ_iff_lt_or_eq.1 hj with h1 | rfl
   ·exact nxtN_nil h j h1
   ·exact g
  ·exact absurd h putM_ne
theorem nxt_nil {s:Sy} {st:List Int}:nxt s st=[]↔∀j,j<s.2.length→useM s.1 (s.2.getD j ([],[],[])) st=[]:=by
 refine ⟨nxtN_nil,fun h=>?_⟩
 cases g:nxt s st with
 | nil=>rfl
 | cons x t =>
  have hx:x∈nxtN s st s.2.length:=by show x∈nxt s st;rw [g];exact List.mem_cons_self
  obtain ⟨r,h1,h2,h3⟩:=nxtN_rule hx
  exact absurd (h2.symm.trans (h r h1)) h3
def usb (s:Sy) (st:List Int):List Int:=upTo (fun k=>decide (¬useM s.1 (s.2.getD k ([],[],[])) st=[])) s.2.length
theorem usb_nil {s:Sy} {st:List Int}:((usb s st).length:Int)=0↔nxt s st=[]:=by
 rw [nxt_nil]
 have h1:=@upTo_nil (fun k=>decide (¬useM s.1 (s.2.getD k ([],[],[])) st=[])) s.2.length
 unfold usb
 constructor
 ·intro h j hj
  have:=h1.1 (by omega) j hj
  simpa using this
 ·intro h
  have:=h1.2 fun k hk=>decide_eq_false fun g=>g (h k hk)
  omega
theorem C_impl_usableIn (s:Sy) (a:List Int) (h:valid s) (ha:inR s.1 a) (Q:List AV→Prop):mc.C f_impl_usableIn [⟨L V3,s.1⟩,⟨L TR,s.2⟩,⟨L I,a⟩] Q=Q [⟨L I,usb s a⟩]:=by
 refine Mc.Ends.c (mc.ends F_impl_usableIn ?_)
 simp+contextual(maxSteps:=1000000)(disch:=omega)only[↓Sd,↓So,↓Sk,↓den,↓denA,Sa,Sb,Sc,Se,O1.d,O2.d,O3.d,cmI,arI,envOf,putN,↓reduceIte,Nat.reduceLT,Nat.reduceSub,Nat.reduceAdd,Int.reduceAdd,Int.reduceEq,Int.reduceLT,Int.reduceLE,arr_pos,arr_neg,tr_impl_usableIn]
 refine mc.lp_for (List Int) (fun i o=>[⟨L I,a⟩,⟨I,(s.2.length:Int)⟩,⟨I,(i:Int)⟩,⟨L V3,s.1⟩,⟨L TR,s.2⟩,⟨L I,o⟩]) (fun i o=>o=upTo (fun k=>decide (¬useM s.1 (s.2.getD k ([],[],[])) a=[])) i) s.2.length 0 [] _ rfl (Nat.zero_le _) rfl ?_ ?_
 ·rintro i o hi rfl
  have h1:=@upTo_len (fun k=>decide (¬useM s.1 (s.2.getD k ([],[],[])) a=[])) i
  have h8:=h.2.1
  simp+contextual(maxSteps:=1000000)(disch:=omega)only[↓Sd,↓So,↓Sk,↓den,↓denA,Sa,Sb,Sc,Se,O1.d,O2.d,O3.d,cmI,arI,envOf,putN,↓reduceIte,Nat.reduceLT,Nat.reduceSub,Nat.reduceAdd,Int.reduceAdd,Int.reduceEq,Int.reduceLT,Int.reduceLE,arr_pos,arr_neg,↓wpJoin,C_impl_use s a i h ha hi]
  exact ⟨fun g=>(upTo_s (p:=fun k=>decide (¬useM s.1 (s.2.getD k ([],[],[])) a=[])) (decide_eq_true g)).symm,fun g=>(upTo_n (p:=fun k=>decide (¬useM s.1 (s.2.getD k ([],[],[])) a=[])) (by simpa using g)).symm⟩
 ·rintro o rfl
  have h1:=@upTo_len (fun k=>decide (¬useM s.1 (s.2.getD k ([],[],[])) a=[])) s.2.length
  have h8:=h.2.1
  simp+contextual(maxSteps:=1000000)(disch:=omega)only[↓Sd,↓So,↓Sk,↓den,↓denA,Sa,Sb,Sc,Se,O1.d,O2.d,O3.d,cmI,arI,envOf,putN,↓reduceIte,Nat.reduceLT,Nat.reduceSub,Nat.reduceAdd,Int.reduceAdd,Int.reduceEq,Int.reduceLT,Int.reduceLE,arr_pos,arr_neg,C_impl_clone_int (upTo (fun k=>decide (¬useM s.1 (s.2.getD k ([],[],[])) a=[])) s.2.length) (by omega)]
  rfl
theorem C_impl_follows (s:Sy) (a b:List Int) (h:valid s) (ha:inR s.1 a) (hb:inR s.1 b) (Q:List AV→Prop):mc.C f_impl_follows [⟨L V3,s.1⟩,⟨L TR,s.2⟩,⟨L I,a⟩,⟨L I,b⟩] Q=Q [⟨B,if nxt s a=[] then decide (a=b) else decide (0≤rbt s a b)⟩]:=by
 refine Mc.Ends.c (mc.ends F_impl_follows ?_)
 have hla:a.length≤1048576:=by have:=ha.1;have:=h.1.2;omega
 have hlb:b.length≤1048576:=by have:=hb.1;have:=h.1.2;omega
 simp+contextual(maxSteps:=1000000)(disch:=omega)only[↓Sd,↓So,↓Sk,↓den,↓denA,Sa,Sb,Sc,Se,O1.d,O2.d,O3.d,cmI,arI,envOf,putN,↓reduceIte,Nat.reduceLT,Nat.reduceSub,Nat.reduceAdd,Int.reduceAdd,Int.reduceEq,Int.reduceLT,Int.reduceLE,arr_pos,arr_neg,tr_impl_follows,C_impl_usableIn s a h ha]
 refine ⟨fun g=>?_,fun g=>?_⟩
 ·rw [if_pos (usb_nil.1 g)]
  simp+contextual(maxSteps:=1000000)(disch:=omega)only[↓Sd,↓So,↓Sk,↓den,↓denA,Sa,Sb,Sc,Se,O1.d,O2.d,O3.d,cmI,arI,envOf,putN,↓reduceIte,Nat.reduceLT,Nat.reduceSub,Nat.reduceAdd,Int.reduceAdd,Int.reduceEq,Int.reduceLT,Int.reduceLE,arr_pos,arr_neg,C_slices_Equal a b hla hlb]
 ·rw [if_neg fun e=>g (usb_nil.2 e)]
  simp+contextual(maxSteps:=1000000)(disch:=omega)only[↓Sd,↓So,↓Sk,↓den,↓denA,Sa,Sb,Sc,Se,O1.d,O2.d,O3.d,cmI,arI,envOf,putN,↓reduceIte,Nat.reduceLT,Nat.reduceSub,Nat.reduceAdd,Int.reduceAdd,Int.reduceEq,Int.reduceLT,Int.reduceLE,arr_pos,arr_neg,C_impl_ruleBetween s a b h ha hlb]
def bits (s:Sy) (X:List Int):List (List Int):=X.map fun x=>sb s (stN s x.toNat)
def tAt (l:List Tm) (i:Nat):Tm:=l.getD i (0,0,0,0)
inductive Nd (l:List Tm):Nat→Prop
 | top:Nd l (l.length - 1)
 | arg {m j:Nat}:Nd l m→m<l.length→2≤(tAt l m).1→(j=(tAt l m).2.2.1.toNat∨j=(tAt l m).2.2.2.toNat)→Nd l j
def Us (l:List Tm) (x:Int):Prop:=∃i,i<l.length∧Nd l i∧(tAt l i).1=1∧(tAt l i).2.1=x
noncomputable def usL (l:List Tm) (vars:Nat):List Int:=upTo (fun k=>dB (Us l k)) vars
def rl (s:Sy) (i:Nat):Ru:=s.2.getD i ([],[],[])
noncomputable def tcA (n:Nat) (r:Ru) (k:Nat):List Int:=usL r.1 n++((r.2.2.take k).map fun t=>usL t n).flatten
noncomputable def tcL (n:Nat) (r:Ru):List Int:=cptZ (srtZ (tcA n r r.2.2.length))
def Mt2 (a b:List Int):Prop:=∃x∈a,x∈b
def Apr (s:Sy) (i j:Nat):Prop:=¬Mt2 (rl s i).2.1 (rl s j).2.1∧¬Mt2 (rl s i).2.1 (tcL s.1.length (rl s j))∧¬Mt2 (rl s j).2.1 (tcL s.1.length (rl s i))
noncomputable def wkB (s:Sy) (i k:Nat):Bool:=dB (k≠i∧Mt2 (rl s k).2.1 (tcL s.1.length (rl s i)))
noncomputable def wkL (s:Sy) (i:Nat):List Int:=upTo (wkB s i) s.2.length
noncomputable def abS (s:Sy) (st:List Int) (k:Nat):Bool:=decide (¬useM s.1 (rl s k) st=[])
noncomputable def eT (s:Sy) (st:List Int) (k m:Nat):Bool:=bif abS s st k then (decide (m≠k)&&!dB (Apr s k m)) else dB ((m:Int)∈wkL s k)
def bt (b:Bool):Int:=if b=true then 1 else 0
theorem bt_and {a b:Bool}:IntKind.i64.wrap (((BitVec.ofInt IntKind.i64.bits (bt a) &&& BitVec.ofInt IntKind.i64.bits (bt b)).toNat:Nat):Int)=bt (a&&b):=by cases a<;>cases b<;>decide
theorem bt_or {a b:Bool}:IntKind.i64.wrap (((BitVec.ofInt IntKind.i64.bits (bt a) ||| BitVec.ofInt IntKind.i64.bits (bt b)).toNat:Nat):Int)=bt (a||b):=by cases a<;>cases b<;>decide
theorem bt_not {a:Bool}:IntKind.i64.wrap (1 - bt a)=bt (!a):=by cases a<;>decide
def hop (t:Tm) (P wl:Nat→Nat→Bool) (s m i:Nat) (x:Bool):Bool :=
 if t.1=0 then true else if t.1=1 then wl i t.2.1.toNat else if t.1=2 then !P t.2.2.1.toNat i else if t.1=3 then P t.2.2.1.toNat i&&P t.2.2.2.toNat i else
 if t.1=4 then P t.2.2.1.toNat i||P t.2.2.2.toNat i else if t.1=5 then P t.2.2.1.toNat (if i+1=m then s else i+1) else
 if t.1=6 then P t.2.2.2.toNat i||(P t.2.2.1.toNat i&&x) else P t.2.2.2.toNat i&&(P t.2.2.1.toNat i||x)
def gd (hp:Nat→Bool→Bool) (m:Nat) (w:Bool):Nat→Bool
 | 0=>w
 | k+1=>hp (m - (k+1)) (gd hp m w k)
def gq (hp:Nat→Bool→Bool) (m:Nat) (w:Bool) (i:Nat):Bool:=gd hp m w (m - i)
theorem gq_m {hp:Nat→Bool→Bool} {m:Nat} {w:Bool}:gq hp m w m=w:=by simp [gq,gd]
theorem gq_s {hp:Nat→Bool→Bool} {m:Nat} {w:Bool} {i:Nat} (h:i<m):gq hp m w i=hp i (gq hp m w (i+1)):=by
 unfold gq
 rw [show m - i=(m - (i+1))+1 by omega,gd]
 congr 1;omega
def rwB (t:Tm) (P wl:Nat→Nat→Bool) (s m:Nat):Nat→Bool:=gq (hop t P wl s m) m (gq (hop t P wl s m) m (decide (t.1=7)) s)
def pl (l:List Tm) (wl:Nat→Nat→Bool) (s m:Nat):Nat→List (Nat→Bool)
 | 0=>[]
 | k+1=>pl l wl s m k++[rwB (l.getD k zT) (fun a i=>(pl l wl s m k).getD a (fun _=>false) i) wl s m]
theorem pl_len {l:List Tm} {wl:Nat→Nat→Bool} {s m:Nat}:∀{k:Nat},(pl l wl s m k).length=k
 | 0=>rfl
 | k+1=>by rw [pl,List.length_append,pl_len (k:=k)];rfl
def bR (m:Nat) (ρ:Nat→Bool):List Int:=tab (fun i=>bt (ρ i)) m
theorem bR_len {m:Nat} {ρ:Nat→Bool}:(bR m ρ).length=m:=tab_len
theorem bR_get {m i:Nat} {ρ:Nat→Bool} (h:i<m):(bR m ρ).getD i 0=bt (ρ i):=tab_get h
theorem bR_set {m i:Nat} {w:Bool} {hp:Nat→Bool→Bool} {x:Nat→Bool} (hi:i<m):(bR m (fun k=>if i+1≤k then gq hp m w k else x k)).set i (bt (gq hp m w i))=bR m (fun k=>if i≤k then gq hp m w k else x k):=by
 unfold bR
 rw [tab_set']
 refine tab_congr fun k _=>?_
 dsimp only
 by_cases e:k=i
 ·rw [if_pos e,e,if_pos (Nat.le_refl _)]
 ·rw [if_neg e]
  by_cases e2:i≤k
  ·rw [if_pos e2,if_pos (by omega)]
  ·rw [if_neg e2,if_neg (by omega)]
def xs (hp:Nat→Bool→Bool) (s m:Nat) (st:Bool):Nat→Nat→Bool
 | 0=>fun _=>st
 | p+1=>gq hp m (xs hp s m st p s)
theorem flat_next {α:Type} {X:List (List α)} {i:Nat} (h:i<X.length):(X.take (i+1)).flatten=(X.take i).flatten++X.getD i []:=by
 rw [List.take_succ_eq_append_getElem h,List.flatten_append,getD_lt h];simp
theorem flat_le {α:Type} {X:List (List α)} {i:Nat}:(X.take i).flatten.length≤X.flatten.length:=by
 conv=>rhs;rw [←List.take_append_drop i X,List.flatten_append,List.length_append]
 omega
theorem C_slices_Concat2 (X:List (List (List Int))) (h:X.flatten.length≤4000000) (hx:X.length≤100) (Q:List AV→Prop):mc.C f_slices_Concat_SSint_Sint [⟨L (L (L I)),X⟩] Q=Q [⟨L (L I),X.flatten⟩]:=by
 refine Mc.Ends.c (mc.ends F_slices_Concat_SSint_Sint ?_)
 simp+contextual(maxSteps:=1000000)(disch:=omega)only[↓Sd,↓So,↓Sk,↓den,↓denA,Sa,Sb,Sc,Se,O1.d,O2.d,O3.d,cmI,arI,envOf,putN,↓reduceIte,Nat.reduceLT,Nat.reduceSub,Nat.reduceAdd,Int.reduceAdd,Int.reduceEq,Int.reduceLT,Int.reduceLE,arr_pos,arr_neg,tr_slices_Concat_SSint_Sint]
 refine mc.lp_for Unit (fun i _=>[⟨L (L (L I)),X⟩,⟨I,((X.take i).flatten.length:Int)⟩,⟨L (L (L I)),X⟩,⟨I,(X.length:Int)⟩,⟨I,(i:Int)⟩]) (fun _ _=>True) X.length 0 () _ rfl (by omega) trivial ?_ ?_
 ·rintro i - hi -
  have h1:=@flat_le _ X (i+1)
  rw [flat_next hi] at h1 ⊢
  rw [List.length_append] at h1 ⊢
  simp+contextual(maxSteps:=1000000)(disch:=omega)only[↓Sd,↓So,↓Sk,↓den,↓denA,Sa,Sb,Sc,Se,O1.d,O2.d,O3.d,cmI,arI,envOf,putN,↓reduceIte,Nat.reduceLT,Nat.reduceSub,Nat.reduceAdd,Int.reduceAdd,Int.reduceEq,Int.reduceLT,Int.reduceLE,arr_pos,arr_neg,]
 ·rintro - -
  rw [List.take_length]
  simp+contextual(maxSteps:=1000000)(disch:=omega)only[↓Sd,↓So,↓Sk,↓den,↓denA,Sa,Sb,Sc,Se,O1.d,O2.d,O3.d,cmI,arI,envOf,putN,↓reduceIte,Nat.reduceLT,Nat.reduceSub,Nat.reduceAdd,Int.reduceAdd,Int.reduceEq,Int.reduceLT,Int.reduceLE,arr_pos,arr_neg,]
  refine mc.lp_for (List (List Int)) (fun i o=>[⟨L (L (L I)),X⟩,⟨I,(X.length:Int)⟩,⟨I,(i:Int)⟩,⟨L (L I),o⟩]) (fun i o=>o=(X.take i).flatten) X.length 0 [] _ rfl (by omega) (by simp) ?_ ?_
  ·rintro i o hi rfl
   have h1:=@flat_le _ X (i+1)
   rw [flat_next hi] at h1 ⊢
   rw [List.length_append] at h1
   simp+contextual(maxSteps:=1000000)(disch:=omega)only[↓Sd,↓So,↓Sk,↓den,↓denA,Sa,Sb,Sc,Se,O1.d,O2.d,O3.d,cmI,arI,envOf,putN,↓reduceIte,Nat.reduceLT,Nat.reduceSub,Nat.reduceAdd,Int.reduceAdd,Int.reduceEq,Int.reduceLT,Int.reduceLE,arr_pos,arr_neg,]
  ·rintro o rfl
   rw [List.take_length]
   simp+contextual(maxSteps:=1000000)(disch:=omega)only[↓Sd,↓So,↓Sk,↓den,↓denA,Sa,Sb,Sc,Se,O1.d,O2.d,O3.d,cmI,arI,envOf,putN,↓reduceIte,Nat.reduceLT,Nat.reduceSub,Nat.reduceAdd,Int.reduceAdd,Int.reduceEq,Int.reduceLT,Int.reduceLE,arr_pos,arr_neg,]
def LtrsOk (W:List (List Int)) (n:Nat) (wl:Nat→Nat→Bool):Prop:=∀i,i<W.length→(W.getD i []).length=n∧∀j,j<n→(W.getD i []).getD j 0=bt (wl i j)
noncomputable def rowsT (l:List Tm) (wl:Nat→Nat→Bool) (s m k:Nat):List (List Int):=(pl l wl s m k).map (bR m)
theorem rowsT_len {l:List Tm} {wl:Nat→Nat→Bool} {s m k:Nat}:(rowsT l wl s m k).length=k:=by rw [rowsT,List.length_map,pl_len]
def pf (l:List Tm) (wl:Nat→Nat→Bool) (s m k a i:Nat):Bool:=(pl l wl s m k).getD a (fun _=>false) i
theorem rowsT_get {l:List Tm} {wl:Nat→Nat→Bool} {s m k a:Nat} (h:a<k):(rowsT l wl s m k).getD a []=bR m (pf l wl s m k a):=by
 rw [rowsT,getD_lt (by rw [List.length_map,pl_len];exact h),List.getElem_map]
 congr 1
 funext i
 rw [pf,getD_lt (by rw [pl_len];exact h)]
set_option maxHeartbeats 4000000 in
theorem C_impl_timesOn (l:List Tm) (n:Nat) (S R:List (List Int)) (wl:Nat→Nat→Bool) (h:tV l n) (hR:0<R.length) (hm:S.length+R.length≤60) (hw:LtrsOk (S++R) n wl) (Q:List AV→Prop) :
  mc.C f_impl_timesOn [⟨L T4,l⟩,⟨L (L I),S⟩,⟨L (L I),R⟩] Q=Q [⟨L (L I),rowsT l wl S.length (S.length+R.length) l.length⟩]:=by
 refine Mc.Ends.c (mc.ends F_impl_timesOn ?_)
 have hll:=h.2.1
 have hW:([S]++[R]).flatten=S++R:=by simp
 obtain ⟨W,hWe⟩:∃W,S++R=W:=⟨_,rfl⟩
 obtain ⟨s,hs⟩:∃s,S.length=s:=⟨_,rfl⟩
 obtain ⟨m,hm2⟩:∃m,s+R.length=m:=⟨_,rfl⟩
 have hWl:W.length=m:=by rw [←hWe,List.length_append,hs,hm2]
 rw [hWe] at hW hw
 rw [hs,hm2] at hm ⊢
 have hsm:s<m:=by omega
 have hw1:∀i,i<m→(W.getD i []).length=n:=fun i hi=>(hw i (by omega)).1
 have hw2:∀i j,i<m→j<n→(W.getD i []).getD j 0=bt (wl i j):=fun i j hi hj=>(hw i (by omega)).2 j hj
 have hn4:=h.1
 simp+contextual(maxSteps:=1000000)(disch:=omega)only[↓Sd,↓So,↓Sk,↓den,↓denA,Sa,Sb,Sc,Se,O1.d,O2.d,O3.d,cmI,arI,envOf,putN,↓reduceIte,Nat.reduceLT,Nat.reduceSub,Nat.reduceAdd,Int.reduceAdd,Int.reduceEq,Int.reduceLT,Int.reduceLE,arr_pos,arr_neg,tr_impl_timesOn,C_slices_Concat2 ([S]++[R]) (by rw [hW];omega) (by simp),hW,hWl]
 refine mc.lp_for Unit (fun k _=>[⟨L T4,l⟩,⟨I,(l.length:Int)⟩,⟨I,(k:Int)⟩,⟨L (L I),W⟩,⟨I,(m:Int)⟩,⟨L (L I),S⟩,⟨L (L I),rowsT l wl s m k++List.replicate (l.length - k) []⟩]) (fun _ _=>True) l.length 0 () _ ?_ (Nat.zero_le _) trivial ?_ ?_
 ·simp [rowsT,pl]
 ·rintro k - hk -
  obtain ⟨t,ht⟩:∃t,l.getD k (0,0,0,0)=t:=⟨_,rfl⟩
  have hto:=h.2.2 k hk
  have htz:l.getD k zT=t:=ht
  rw [htz] at hto
  obtain ⟨RW,hRW⟩:∃RW,rowsT l wl s m k++List.replicate (l.length - k) []=RW:=⟨_,rfl⟩
  have hRl:RW.length=l.length:=by rw [←hRW,List.length_append,rowsT_len,List.length_replicate];omega
  have hRg:∀a,a<k→RW.getD a []=bR m (pf l wl s m k a):=fun a ha=>by
   rw [←hRW,List.getD_eq_getElem?_getD,List.getElem?_append_left (by rw [rowsT_len];exact ha),←List.getD_eq_getElem?_getD,rowsT_get ha]
  have hnx:RW.set k (bR m (rwB t (pf l wl s m k) wl s m))=rowsT l wl s m (k+1)++List.replicate (l.length - (k+1)) []:=by
   rw [←hRW,show l.length - k=(l.length - (k+1))+1 by omega]
   have:=set_pad (l:=rowsT l wl s m k) (k:=l.length - (k+1)) (x:=bR m (rwB t (pf l wl s m k) wl s m)) (z:=([]:List Int))
   rw [rowsT_len] at this
   rw [this]
   congr 1
   rw [rowsT,rowsT,pl,List.map_append,htz]
   rfl
  obtain ⟨hp,hhp⟩:∃hp,hop t (pf l wl s m k) wl s m=hp:=⟨_,rfl⟩
  rw [hRW]
  have hrw:rwB t (pf l wl s m k) wl s m=xs hp s m (decide (t.1=7)) 2:=by rw [←hhp];rfl
  obtain ⟨st,hst⟩:∃st,decide (t.1=7)=st:=⟨_,rfl⟩
  rw [hst] at hrw
  simp+contextual(maxSteps:=1000000)(disch:=omega)only[↓Sd,↓So,↓Sk,↓den,↓denA,Sa,Sb,Sc,Se,O1.d,O2.d,O3.d,cmI,arI,envOf,putN,↓reduceIte,Nat.reduceLT,Nat.reduceSub,Nat.reduceAdd,Int.reduceAdd,Int.reduceEq,Int.reduceLT,Int.reduceLE,arr_pos,arr_neg,ht]
  refine mc.wp_join (fun us=>us=[⟨I,(k:Int)⟩,⟨I,bt st⟩,⟨L T4,l⟩,⟨I,(l.length:Int)⟩,⟨I,(k:Int)⟩,⟨L (L I),W⟩,⟨I,(m:Int)⟩,⟨L (L I),S⟩,⟨L (L I),RW⟩,⟨L I,List.replicate m (0:Int)⟩,⟨I,t.1⟩,⟨I,t.2.1⟩,⟨I,t.2.2.1⟩,⟨I,t.2.2.2⟩]) ?_ ?_
  ·simp+contextual(maxSteps:=1000000)(disch:=omega)only[↓Sd,↓So,↓Sk,↓den,↓denA,Sa,Sb,Sc,Se,O1.d,O2.d,O3.d,cmI,arI,envOf,putN,↓reduceIte,Nat.reduceLT,Nat.reduceSub,Nat.reduceAdd,Int.reduceAdd,Int.reduceEq,Int.reduceLT,Int.reduceLE,arr_pos,arr_neg,ht]
   refine ⟨fun g=>?_,fun g=>?_⟩
   ·rw [←hst,decide_eq_true g];rfl
   ·rw [←hst,decide_eq_false g];rfl
  rintro us rfl
  simp+contextual(maxSteps:=1000000)(disch:=omega)only[↓Sd,↓So,↓Sk,↓den,↓denA,Sa,Sb,Sc,Se,O1.d,O2.d,O3.d,cmI,arI,envOf,putN,↓reduceIte,Nat.reduceLT,Nat.reduceSub,Nat.reduceAdd,Int.reduceAdd,Int.reduceEq,Int.reduceLT,Int.reduceLE,arr_pos,arr_neg,List.length_replicate]
  refine mc.lp_for Unit (fun i _=>[⟨I,(k:Int)⟩,⟨I,bt st⟩,⟨L T4,l⟩,⟨I,(l.length:Int)⟩,⟨I,(k:Int)⟩,⟨I,(m:Int)⟩,⟨I,(i:Int)⟩,⟨L (L I),W⟩,⟨I,(m:Int)⟩,⟨L (L I),S⟩,⟨L (L I),RW⟩,⟨L I,tab (fun k=>if k<i then bt st else 0) m⟩,⟨I,t.1⟩,⟨I,t.2.1⟩,⟨I,t.2.2.1⟩,⟨I,t.2.2.2⟩]) (fun _ _=>True) m 0 () _ ?_ (Nat.zero_le _) trivial ?_ ?_
  ·have:List.replicate m (0:Int)=tab (fun k=>if k<0 then bt st else 0) m:=by rw [rep_tab];exact tab_congr fun k _=>by rw [if_neg (Nat.not_lt_zero k)]
   rw [this];rfl
  ·rintro i - hi -
   simp+contextual(maxSteps:=1000000)(disch:=omega)only[↓Sd,↓So,↓Sk,↓den,↓denA,Sa,Sb,Sc,Se,O1.d,O2.d,O3.d,cmI,arI,envOf,putN,↓reduceIte,Nat.reduceLT,Nat.reduceSub,Nat.reduceAdd,Int.reduceAdd,Int.reduceEq,Int.reduceLT,Int.reduceLE,arr_pos,arr_neg,tab_len,tab_set']
   refine tab_congr fun k _=>?_
   by_cases e:k=i
   ·rw [if_pos e,if_pos (by omega)]
   ·rw [if_neg e]
    by_cases e2:k<i
    ·rw [if_pos e2,if_pos (by omega)]
    ·rw [if_neg e2,if_neg (by omega)]
  rintro - -
  have hx0:tab (fun k=>if k<m then bt st else 0) m=bR m (xs hp s m st 0):=tab_congr fun k hk=>if_pos hk
  rw [hx0]
  simp+contextual(maxSteps:=1000000)(disch:=omega)only[↓Sd,↓So,↓Sk,↓den,↓denA,Sa,Sb,Sc,Se,O1.d,O2.d,O3.d,cmI,arI,envOf,putN,↓reduceIte,Nat.reduceLT,Nat.reduceSub,Nat.reduceAdd,Int.reduceAdd,Int.reduceEq,Int.reduceLT,Int.reduceLE,arr_pos,arr_neg,]
  refine mc.lp_for Unit (fun p _=>[⟨I,(k:Int)⟩,⟨L T4,l⟩,⟨I,(l.length:Int)⟩,⟨I,(k:Int)⟩,⟨I,(p:Int)⟩,⟨L (L I),W⟩,⟨I,(m:Int)⟩,⟨L (L I),S⟩,⟨L (L I),RW⟩,⟨L I,bR m (xs hp s m st p)⟩,⟨I,t.1⟩,⟨I,t.2.1⟩,⟨I,t.2.2.1⟩,⟨I,t.2.2.2⟩]) (fun _ _=>True) 2 0 () _ rfl (Nat.zero_le _) trivial ?_ ?_
  ·rintro p - hp2 -
   obtain ⟨x,hx⟩:∃x,xs hp s m st p=x:=⟨_,rfl⟩
   have hx1:xs hp s m st (p+1)=gq hp m (x s):=by rw [xs,hx]
   rw [hx,hx1]
   obtain ⟨w,hwx⟩:∃w,x s=w:=⟨_,rfl⟩
   rw [hwx]
   simp+contextual(maxSteps:=1000000)(disch:=omega)only[↓Sd,↓So,↓Sk,↓den,↓denA,Sa,Sb,Sc,Se,O1.d,O2.d,O3.d,cmI,arI,envOf,putN,↓reduceIte,Nat.reduceLT,Nat.reduceSub,Nat.reduceAdd,Int.reduceAdd,Int.reduceEq,Int.reduceLT,Int.reduceLE,arr_pos,arr_neg,]
   refine mc.lp_down Unit (fun i _=>[⟨I,(k:Int)⟩,⟨I,(i:Int) - 1⟩,⟨L T4,l⟩,⟨I,(l.length:Int)⟩,⟨I,(k:Int)⟩,⟨I,(p:Int)⟩,⟨L (L I),W⟩,⟨I,(m:Int)⟩,⟨L (L I),S⟩,⟨L (L I),RW⟩,⟨L I,bR m (fun k=>if i≤k then gq hp m w k else x k)⟩,⟨I,t.1⟩,⟨I,t.2.1⟩,⟨I,t.2.2.1⟩,⟨I,t.2.2.2⟩]) (fun i _=>i≤m) m () _ ?_ (Nat.le_refl _) ?_ ?_
   ·have:bR m x=bR m (fun k=>if m≤k then gq hp m w k else x k):=tab_congr fun k hk=>by
     dsimp only
     rw [if_neg (by omega)]
    rw [←this]
   ·rintro i - him
    have hi:i<m:=by omega
    have him1:i≤m:=by omega
    have hset:=bR_set (hp:=hp) (w:=w) (x:=x) hi
    have hgi:gq hp m w i=hop t (pf l wl s m k) wl s m i (gq hp m w (i+1)):=by rw [gq_s hi,hhp]
    have hbe:i+1=m→(bR m (fun k=>if i+1≤k then gq hp m w k else x k)).getD s 0=bt (gq hp m w (i+1)):=fun e=>by
     rw [bR_get hsm]
     rw [if_neg (by omega),e,gq_m,hwx]
    have hbn:i+1<m→(bR m (fun k=>if i+1≤k then gq hp m w k else x k)).getD (i+1) 0=bt (gq hp m w (i+1)):=fun e=>by
     rw [bR_get e]
     rw [if_pos (Nat.le_refl _)]
    obtain ⟨row,hrow⟩:∃row,bR m (fun k=>if i+1≤k then gq hp m w k else x k)=row:=⟨_,rfl⟩
    have hrl:row.length=m:=by rw [←hrow,bR_len]
    rw [hrow] at hset hbe hbn ⊢
    rw [←hset]
    obtain ⟨y,hy⟩:∃y,gq hp m w (i+1)=y:=⟨_,rfl⟩
    rw [hy] at hgi hbe hbn
    rw [hgi]
    clear hset hgi hx0 hx1 hrw hnx hhp hRW
    rcases hto with ⟨ho,-⟩ | ⟨ho,hnn,-⟩ | ⟨ho,-,hA,hB,-⟩
    ·simp+contextual(maxSteps:=1000000)(disch:=omega)only[↓Sd,↓So,↓Sk,↓den,↓denA,Sa,Sb,Sc,Se,O1.d,O2.d,O3.d,cmI,arI,envOf,putN,↓reduceIte,Nat.reduceLT,Nat.reduceSub,Nat.reduceAdd,Int.reduceAdd,Int.reduceEq,Int.reduceLT,Int.reduceLE,arr_pos,arr_neg,↓wpJoin,ho,hrl]
     exact ⟨by rw [hop,if_pos ho];rfl,him1⟩
    ·obtain ⟨a,ha⟩:∃a:Nat,t.2.1=a:=⟨t.2.1.toNat,by omega⟩
     rw [ha] at hnn ⊢
     simp+contextual(maxSteps:=1000000)(disch:=omega)only[↓Sd,↓So,↓Sk,↓den,↓denA,Sa,Sb,Sc,Se,O1.d,O2.d,O3.d,cmI,arI,envOf,putN,↓reduceIte,Nat.reduceLT,Nat.reduceSub,Nat.reduceAdd,Int.reduceAdd,Int.reduceEq,Int.reduceLT,Int.reduceLE,arr_pos,arr_neg,↓wpJoin,ho,hrl,hWl,hw1 i hi,hw2 i a hi (by omega)]
     exact ⟨by rw [hop,if_neg (by omega),if_pos ho,ha,Int.toNat_natCast],him1⟩
    ·obtain ⟨a,ha⟩:∃a:Nat,t.2.2.1=a:=⟨t.2.2.1.toNat,by omega⟩
     obtain ⟨b,hb⟩:∃b:Nat,t.2.2.2=b:=⟨t.2.2.2.toNat,by omega⟩
     have hak:a<k:=by omega
     have hbk:b<k:=by omega
     have ga:=bR_get (m:=m) (ρ:=pf l wl s m k a) hi
     have gb:=bR_get (m:=m) (ρ:=pf l wl s m k b) hi
     have h0:¬t.1=0:=by omega
     have h1:¬t.1=1:=by omega
     rw [ha] at hA ⊢
     rw [hb] at hB ⊢
     have hcase:t.1=2∨t.1=3∨t.1=4∨t.1=5∨t.1=6∨t.1=7:=by omega
     rw [hop,if_neg h0,if_neg h1,ha,hb,Int.toNat_natCast,Int.toNat_natCast]
     rcases hcase with ho | ho | ho | ho | ho | ho
     ·rw [if_pos ho]
      simp+contextual(maxSteps:=1000000)(disch:=omega)only[↓Sd,↓So,↓Sk,↓den,↓denA,Sa,Sb,Sc,Se,O1.d,O2.d,O3.d,cmI,arI,envOf,putN,↓reduceIte,Nat.reduceLT,Nat.reduceSub,Nat.reduceAdd,Int.reduceAdd,Int.reduceEq,Int.reduceLT,Int.reduceLE,arr_pos,arr_neg,↓wpJoin,ho,hrl,hRl,hRg a hak,hRg b hbk,bR_len,ga,gb,bt_not]
      exact him1
     ·rw [if_neg (by omega),if_pos ho]
      simp+contextual(maxSteps:=1000000)(disch:=omega)only[↓Sd,↓So,↓Sk,↓den,↓denA,Sa,Sb,Sc,Se,O1.d,O2.d,O3.d,cmI,arI,envOf,putN,↓reduceIte,Nat.reduceLT,Nat.reduceSub,Nat.reduceAdd,Int.reduceAdd,Int.reduceEq,Int.reduceLT,Int.reduceLE,arr_pos,arr_neg,↓wpJoin,ho,hrl,hRl,hRg a hak,hRg b hbk,bR_len,ga,gb,bt_and]
      exact him1
     ·rw [if_neg (by omega),if_neg (by omega),if_pos ho]
      simp+contextual(maxSteps:=1000000)(disch:=omega)only[↓Sd,↓So,↓Sk,↓den,↓denA,Sa,Sb,Sc,Se,O1.d,O2.d,O3.d,cmI,arI,envOf,putN,↓reduceIte,Nat.reduceLT,Nat.reduceSub,Nat.reduceAdd,Int.reduceAdd,Int.reduceEq,Int.reduceLT,Int.reduceLE,arr_pos,arr_neg,↓wpJoin,ho,hrl,hRl,hRg a hak,hRg b hbk,bR_len,ga,gb,bt_or]
      exact him1
     ·rw [if_neg (by omega),if_neg (by omega),if_neg (by omega),if_pos ho]
      simp+contextual(maxSteps:=1000000)(disch:=omega)only[↓Sd,↓So,↓Sk,↓den,↓denA,Sa,Sb,Sc,Se,O1.d,O2.d,O3.d,cmI,arI,envOf,putN,↓reduceIte,Nat.reduceLT,Nat.reduceSub,Nat.reduceAdd,Int.reduceAdd,Int.reduceEq,Int.reduceLT,Int.reduceLE,arr_pos,arr_neg,↓wpJoin,ho,hrl,hRl,hRg a hak,hRg b hbk,bR_len,ga,gb]
      refine ⟨fun g=>?_,fun g=>?_⟩
      ·have e:i+1=m:=by omega
       have e1:m - 1=i:=by omega
       rw [if_pos e,e1,hs,bR_get hsm]
       exact ⟨⟨(by show ((m : Int) - 1 - 1 = (i : Int) - 1); omega), rfl⟩, him1⟩
      ·have e:¬i+1=m:=by omega
       have e1:((i:Int)+1).toNat=i+1:=by omega
       rw [if_neg e,e1,bR_get (by omega:i+1<m)]
       exact ⟨rfl,him1⟩
     ·rw [if_neg (by omega),if_neg (by omega),if_neg (by omega),if_neg (by omega),if_pos ho]
      simp+contextual(maxSteps:=1000000)(disch:=omega)only[↓Sd,↓So,↓Sk,↓den,↓denA,Sa,Sb,Sc,Se,O1.d,O2.d,O3.d,cmI,arI,envOf,putN,↓reduceIte,Nat.reduceLT,Nat.reduceSub,Nat.reduceAdd,Int.reduceAdd,Int.reduceEq,Int.reduceLT,Int.reduceLE,arr_pos,arr_neg,↓wpJoin,ho,hrl,hRl,hRg a hak,hRg b hbk,bR_len,ga,gb,bt_and,bt_or]
      refine ⟨fun g=>?_,fun g=>?_⟩
      ·have e:i+1=m:=by omega
       have e1:m - 1=i:=by omega
       rw [e1,hs,hbe e,ga,gb,bt_and,bt_or]
       exact ⟨⟨(by show ((m : Int) - 1 - 1 = (i : Int) - 1); omega), rfl⟩, him1⟩
      ·have e1:((i:Int)+1).toNat=i+1:=by omega
       rw [e1,hbn (by omega),bt_and,bt_or]
       exact ⟨rfl,him1⟩
     ·rw [if_neg (by omega),if_neg (by omega),if_neg (by omega),if_neg (by omega),if_neg (by omega)]
      simp+contextual(maxSteps:=1000000)(disch:=omega)only[↓Sd,↓So,↓Sk,↓den,↓denA,Sa,Sb,Sc,Se,O1.d,O2.d,O3.d,cmI,arI,envOf,putN,↓reduceIte,Nat.reduceLT,Nat.reduceSub,Nat.reduceAdd,Int.reduceAdd,Int.reduceEq,Int.reduceLT,Int.reduceLE,arr_pos,arr_neg,↓wpJoin,ho,hrl,hRl,hRg a hak,hRg b hbk,bR_len,ga,gb,bt_and,bt_or]
      refine ⟨fun g=>?_,fun g=>?_⟩
      ·have e:i+1=m:=by omega
       have e1:m - 1=i:=by omega
       rw [e1,hs,hbe e,ga,gb,bt_or,bt_and]
       exact ⟨⟨(by show ((m : Int) - 1 - 1 = (i : Int) - 1); omega), rfl⟩, him1⟩
      ·have e1:((i:Int)+1).toNat=i+1:=by omega
       rw [e1,hbn (by omega),bt_or,bt_and]
       exact ⟨rfl,him1⟩
   ·rintro - -
    simp+contextual(maxSteps:=1000000)(disch:=omega)only[↓Sd,↓So,↓Sk,↓den,↓denA,Sa,Sb,Sc,Se,O1.d,O2.d,O3.d,cmI,arI,envOf,putN,↓reduceIte,Nat.reduceLT,Nat.reduceSub,Nat.reduceAdd,Int.reduceAdd,Int.reduceEq,Int.reduceLT,Int.reduceLE,arr_pos,arr_neg,]
    have:bR m (fun k=>if 0≤k then gq hp m w k else x k)=bR m (gq hp m w):=tab_congr fun k _=>by
     dsimp only
     rw [if_pos (Nat.zero_le _)]
    rw [this]
  ·rintro - -
   have e2:bR m (xs hp s m st 2)=bR m (rwB t (pf l wl s m k) wl s m):=by rw [hrw]
   rw [e2]
   simp+contextual(maxSteps:=1000000)(disch:=omega)only[↓Sd,↓So,↓Sk,↓den,↓denA,Sa,Sb,Sc,Se,O1.d,O2.d,O3.d,cmI,arI,envOf,putN,↓reduceIte,Nat.reduceLT,Nat.reduceSub,Nat.reduceAdd,Int.reduceAdd,Int.reduceEq,Int.reduceLT,Int.reduceLE,arr_pos,arr_neg,hRl,hnx]
 ·rintro - -
  simp+contextual(maxSteps:=1000000)(disch:=omega)only[↓Sd,↓So,↓Sk,↓den,↓denA,Sa,Sb,Sc,Se,O1.d,O2.d,O3.d,cmI,arI,envOf,putN,↓reduceIte,Nat.reduceLT,Nat.reduceSub,Nat.reduceAdd,Int.reduceAdd,Int.reduceEq,Int.reduceLT,Int.reduceLE,arr_pos,arr_neg,]
  simp
theorem hop_low {t:Tm} {P wl:Nat→Nat→Bool} {s m i:Nat} {x y:Bool} (h:0≤t.1∧t.1<6):hop t P wl s m i x=hop t P wl s m i y:=by
 unfold hop
 rw [if_neg (show ¬t.1=6 by omega)]
 by_cases h0:t.1=0
 ·simp [h0]
 ·by_cases h1:t.1=1
  ·simp [h1]
  ·by_cases h2:t.1=2
   ·simp [h2]
   ·by_cases h3:t.1=3
    ·simp [h3]
    ·by_cases h4:t.1=4
     ·simp [h4]
     ·by_cases h5:t.1=5
      ·simp [h5]
      ·omega
theorem rwB_low {t:Tm} {P wl:Nat→Nat→Bool} {s m i:Nat} {x:Bool} (h:0≤t.1∧t.1<6) (hi:i<m):rwB t P wl s m i=hop t P wl s m i x:=by
 rw [rwB,gq_s hi]
 exact hop_low h
theorem hop_mono {t:Tm} {P wl:Nat→Nat→Bool} {s m i:Nat} (h:hop t P wl s m i false=true):hop t P wl s m i true=true:=by
 unfold hop at h ⊢
 repeat' split at h
 all_goals simp_all
theorem gd_mono {hp:Nat→Bool→Bool} {m:Nat} (hm:∀i,hp i false=true→hp i true=true):∀{k:Nat},gd hp m false k=true→gd hp m true k=true
 | 0,h=>rfl
 | k+1,h=>by
  rw [gd] at h ⊢
  cases h1:gd hp m false k with
  | true=>rw [gd_mono hm h1];rw [h1] at h;exact h
  | false =>
   rw [h1] at h
   cases gd hp m true k with
   | true=>exact hm _ h
   | false=>exact h
theorem xs_fix {t:Tm} {P wl:Nat→Nat→Bool} {s m:Nat} (h:t.1=6∨t.1=7):∀p,xs (hop t P wl s m) s m (decide (t.1=7)) (p+1) s=xs (hop t P wl s m) s m (decide (t.1=7)) 1 s
 | 0=>rfl
 | p+1=>by
  have ih:=xs_fix (P:=P) (wl:=wl) (s:=s) (m:=m) h p
  show gq (hop t P wl s m) m (xs (hop t P wl s m) s m (decide (t.1=7)) (p+1) s) s=_
  rw [ih]
  have hm:gq (hop t P wl s m) m false s=true→gq (hop t P wl s m) m true s=true:=gd_mono fun i=>hop_mono
  show gq (hop t P wl s m) m (gq (hop t P wl s m) m (decide (t.1=7)) s) s=gq (hop t P wl s m) m (decide (t.1=7)) s
  rcases h with h | h
  ·rw [show decide (t.1=7)=false by rw [decide_eq_false];omega]
   cases h1:gq (hop t P wl s m) m false s with
   | false=>exact h1
   | true=>exact hm h1
  ·rw [decide_eq_true h]
   cases h1:gq (hop t P wl s m) m true s with
   | true=>exact h1
   | false =>
    cases h2:gq (hop t P wl s m) m false s with
    | false=>rfl
    | true=>rw [hm h2] at h1;cases h1
theorem xs_end {t:Tm} {P wl:Nat→Nat→Bool} {s m p:Nat} (h:t.1=6∨t.1=7):xs (hop t P wl s m) s m (decide (t.1=7)) (p+2)=rwB t P wl s m:=by
 show gq (hop t P wl s m) m (xs (hop t P wl s m) s m (decide (t.1=7)) (p+1) s)=_
 rw [xs_fix h]
 rfl
theorem C_spec_l20Next (i s m:Nat) (hm:m≤1000) (hi:i<m) (Q:List AV→Prop):mc.C f_spec_l20Next [⟨I,(i:Int)⟩,⟨I,(s:Int)⟩,⟨I,(m:Int)⟩] Q=Q [⟨I,((if i+1=m then s else i+1:Nat):Int)⟩]:=by
 refine Mc.Ends.c (mc.ends F_spec_l20Next ?_)
 simp+contextual(maxSteps:=1000000)(disch:=omega)only[↓Sd,↓So,↓Sk,↓den,↓denA,Sa,Sb,Sc,Se,O1.d,O2.d,O3.d,cmI,arI,envOf,putN,↓reduceIte,Nat.reduceLT,Nat.reduceSub,Nat.reduceAdd,Int.reduceAdd,Int.reduceEq,Int.reduceLT,Int.reduceLE,arr_pos,arr_neg,tr_spec_l20Next]
 refine ⟨fun h=>?_,fun h=>?_⟩
 ·rw [if_neg (by omega)];rfl
 ·rw [if_pos (by omega)]
set_option maxHeartbeats 4000000 in
theorem C_spec_l20Later (t:Tm) (RW:List (List Int)) (P wl:Nat→Nat→Bool) (s m k:Nat) (ho:t.1=6∨t.1=7) (hA:0≤t.2.2.1∧t.2.2.1<k) (hB:0≤t.2.2.2∧t.2.2.2<k) (hsm:s<m) (hm:m≤60) (hRl:k≤RW.length) (hRg:∀a,a<k→RW.getD a []=bR m (P a)) (Q:List AV→Prop) :
  mc.C f_spec_l20Later [⟨I,t.1⟩,⟨I,t.2.1⟩,⟨I,t.2.2.1⟩,⟨I,t.2.2.2⟩,⟨L (L I),RW⟩,⟨I,(s:Int)⟩,⟨I,(m:Int)⟩] Q=Q [⟨L I,bR m (rwB t P wl s m)⟩]:=by
 refine Mc.Ends.c (mc.ends F_spec_l20Later ?_)
 obtain ⟨a,ha⟩:∃a:Nat,t.2.2.1=a:=⟨t.2.2.1.toNat,by omega⟩
 obtain ⟨b,hb⟩:∃b:Nat,t.2.2.2=b:=⟨t.2.2.2.toNat,by omega⟩
 have hak:a<k:=by omega
 have hbk:b<k:=by omega
 obtain ⟨st,hst⟩:∃st,decide (t.1=7)=st:=⟨_,rfl⟩
 have hend:∀p,xs (hop t P wl s m) s m st (p+2)=rwB t P wl s m:=fun p=>by rw [←hst];exact xs_end ho
 obtain ⟨hp,hhp⟩:∃hp,hop t P wl s m=hp:=⟨_,rfl⟩
 have hhop:∀i x,hp i x=if t.1=6 then P b i||(P a i&&x) else P b i&&(P a i||x):=fun i x=>by
  rw [←hhp,hop,if_neg (by omega),if_neg (by omega),if_neg (by omega),if_neg (by omega),if_neg (by omega),if_neg (by omega),ha,hb,Int.toNat_natCast,Int.toNat_natCast]
 rw [hhp] at hend
 rw [ha,hb]
 simp+contextual(maxSteps:=1000000)(disch:=omega)only[↓Sd,↓So,↓Sk,↓den,↓denA,Sa,Sb,Sc,Se,O1.d,O2.d,O3.d,cmI,arI,envOf,putN,↓reduceIte,Nat.reduceLT,Nat.reduceSub,Nat.reduceAdd,Int.reduceAdd,Int.reduceEq,Int.reduceLT,Int.reduceLE,arr_pos,arr_neg,tr_spec_l20Later]
 refine mc.lp_for Unit (fun i _=>[⟨L (L I),RW⟩,⟨I,(s:Int)⟩,⟨I,(m:Int)⟩,⟨I,(i:Int)⟩,⟨I,t.1⟩,⟨I,t.2.1⟩,⟨I,(a:Int)⟩,⟨I,(b:Int)⟩,⟨L I,tab (fun _=>bt st) i⟩]) (fun _ _=>True) m 0 () _ rfl (Nat.zero_le _) trivial ?_ ?_
 ·rintro i - hi -
  simp+contextual(maxSteps:=1000000)(disch:=omega)only[↓Sd,↓So,↓Sk,↓den,↓denA,Sa,Sb,Sc,Se,O1.d,O2.d,O3.d,cmI,arI,envOf,putN,↓reduceIte,Nat.reduceLT,Nat.reduceSub,Nat.reduceAdd,Int.reduceAdd,Int.reduceEq,Int.reduceLT,Int.reduceLE,arr_pos,arr_neg,↓wpJoin,tab_len]
  refine ⟨fun g=>?_,fun g=>?_⟩
  ·rw [←tab_next,←hst,decide_eq_true g];rfl
  ·rw [←tab_next,←hst,decide_eq_false g];rfl
 rintro - -
 simp+contextual(maxSteps:=1000000)(disch:=omega)only[↓Sd,↓So,↓Sk,↓den,↓denA,Sa,Sb,Sc,Se,O1.d,O2.d,O3.d,cmI,arI,envOf,putN,↓reduceIte,Nat.reduceLT,Nat.reduceSub,Nat.reduceAdd,Int.reduceAdd,Int.reduceEq,Int.reduceLT,Int.reduceLE,arr_pos,arr_neg,]
 refine mc.lp_for Unit (fun p _=>[⟨L (L I),RW⟩,⟨I,(s:Int)⟩,⟨I,(m:Int)⟩,⟨I,(p:Int)⟩,⟨I,t.1⟩,⟨I,t.2.1⟩,⟨I,(a:Int)⟩,⟨I,(b:Int)⟩,⟨L I,bR m (xs hp s m st p)⟩]) (fun _ _=>True) (m+1) 0 () _ rfl (Nat.zero_le _) trivial ?_ ?_
 ·rintro p - hp2 -
  obtain ⟨x,hx⟩:∃x,xs hp s m st p=x:=⟨_,rfl⟩
  have hx1:xs hp s m st (p+1)=gq hp m (x s):=by rw [xs,hx]
  rw [hx,hx1]
  obtain ⟨w,hwx⟩:∃w,x s=w:=⟨_,rfl⟩
  rw [hwx]
  simp+contextual(maxSteps:=1000000)(disch:=omega)only[↓Sd,↓So,↓Sk,↓den,↓denA,Sa,Sb,Sc,Se,O1.d,O2.d,O3.d,cmI,arI,envOf,putN,↓reduceIte,Nat.reduceLT,Nat.reduceSub,Nat.reduceAdd,Int.reduceAdd,Int.reduceEq,Int.reduceLT,Int.reduceLE,arr_pos,arr_neg,]
  refine mc.lp_down Unit (fun i _=>[⟨L (L I),RW⟩,⟨I,(s:Int)⟩,⟨I,(m:Int)⟩,⟨I,(p:Int)⟩,⟨I,(i:Int) - 1⟩,⟨I,t.1⟩,⟨I,t.2.1⟩,⟨I,(a:Int)⟩,⟨I,(b:Int)⟩,⟨L I,bR m (fun k=>if i≤k then gq hp m w k else x k)⟩]) (fun i _=>i≤m) m () _ ?_ (Nat.le_refl _) ?_ ?_
  ·have:bR m x=bR m (fun k=>if m≤k then gq hp m w k else x k):=tab_congr fun k hk=>by
    dsimp only
    rw [if_neg (by omega)]
   rw [←this]
  ·rintro i - him
   have hi:i<m:=by omega
   have him1:i≤m:=by omega
   have hset:=bR_set (hp:=hp) (w:=w) (x:=x) hi
   have hgi:gq hp m w i=hp i (gq hp m w (i+1)):=gq_s hi
   have hbe:(bR m (fun k=>if i+1≤k then gq hp m w k else x k)).getD (if i+1=m then s else i+1) 0=bt (gq hp m w (i+1)):=by
    by_cases e:i+1=m
    ·rw [if_pos e,bR_get hsm,if_neg (by omega),e,gq_m,hwx]
    ·rw [if_neg e,bR_get (by omega:i+1<m),if_pos (Nat.le_refl _)]
   obtain ⟨row,hrow⟩:∃row,bR m (fun k=>if i+1≤k then gq hp m w k else x k)=row:=⟨_,rfl⟩
   have hrl:row.length=m:=by rw [←hrow,bR_len]
   obtain ⟨nx,hnx⟩:∃nx,(if i+1=m then s else i+1)=nx:=⟨_,rfl⟩
   have hnm:nx<m:=by rw [←hnx];split<;>omega
   rw [hrow] at hset hbe ⊢
   rw [hnx] at hbe
   rw [←hset,hgi,hhop]
   obtain ⟨y,hy⟩:∃y,gq hp m w (i+1)=y:=⟨_,rfl⟩
   rw [hy] at hbe ⊢
   have ga:=bR_get (m:=m) (ρ:=P a) hi
   have gb:=bR_get (m:=m) (ρ:=P b) hi
   clear hset hgi hx1 hend hhop
   simp+contextual(maxSteps:=1000000)(disch:=omega)only[↓Sd,↓So,↓Sk,↓den,↓denA,Sa,Sb,Sc,Se,O1.d,O2.d,O3.d,cmI,arI,envOf,putN,↓reduceIte,Nat.reduceLT,Nat.reduceSub,Nat.reduceAdd,Int.reduceAdd,Int.reduceEq,Int.reduceLT,Int.reduceLE,arr_pos,arr_neg,↓wpJoin,C_spec_l20Next i s m (by omega) hi,hnx,hRg a hak,hRg b hbk,bR_len,ga,gb,hbe,C_spec_l1Truth]
   generalize P b i=pb
   generalize P a i=pa
   cases pb<;>cases pa<;>cases y<;>simp [bt,him1]
  ·rintro - -
   simp+contextual(maxSteps:=1000000)(disch:=omega)only[↓Sd,↓So,↓Sk,↓den,↓denA,Sa,Sb,Sc,Se,O1.d,O2.d,O3.d,cmI,arI,envOf,putN,↓reduceIte,Nat.reduceLT,Nat.reduceSub,Nat.reduceAdd,Int.reduceAdd,Int.reduceEq,Int.reduceLT,Int.reduceLE,arr_pos,arr_neg,]
   have:bR m (fun k=>if 0≤k then gq hp m w k else x k)=bR m (gq hp m w):=tab_congr fun k _=>by
    dsimp only
    rw [if_pos (Nat.zero_le _)]
   rw [this]
 ·rintro - -
  obtain ⟨q,rfl⟩:∃q,m=q+1:=⟨m - 1,by omega⟩
  have:=hend q
  simp+contextual(maxSteps:=1000000)(disch:=omega)only[↓Sd,↓So,↓Sk,↓den,↓denA,Sa,Sb,Sc,Se,O1.d,O2.d,O3.d,cmI,arI,envOf,putN,↓reduceIte,Nat.reduceLT,Nat.reduceSub,Nat.reduceAdd,Int.reduceAdd,Int.reduceEq,Int.reduceLT,Int.reduceLE,arr_pos,arr_neg,]
  rw [show q+1+1=q+2 from rfl,this]
theorem putM_self {x:List Int}:∀{l:List (List Int)},x∈putM x l
 | []=>by simp [putM]
 | y::l=>by
  rw [putM]
  split
  ·rename_i h;rw [h];exact List.mem_cons_self ..
  ·split
   ·exact List.mem_cons_self ..
   ·exact List.mem_cons_of_mem _ putM_self
theorem putM_old {x z:List Int}:∀{l:List (List Int)},z∈l→z∈putM x l
 | [],h=>by cases h
 | y::l,h=>by
  rw [putM]
  split
  ·exact h
  ·split
   ·exact List.mem_cons_of_mem _ h
   ·rcases List.mem_cons.1 h with rfl | h
    ·exact List.mem_cons_self ..
    ·exact List.mem_cons_of_mem _ (putM_old h)
theorem nxtN_use {s:Sy} {st:List Int}:∀{k r:Nat},r<k→¬useM s.1 (s.2.getD r ([],[],[])) st=[]→useM s.1 (s.2.getD r ([],[],[])) st∈nxtN s st k
 | 0,r,h,_=>absurd h (Nat.not_lt_zero _)
 | k+1,r,h,h1=>by
  rw [nxtN]
  by_cases e:r=k
  ·subst e
   rw [if_neg h1]
   exact putM_self
  ·have ih:=nxtN_use (k:=k) (by omega) h1
   split
   ·exact ih
   ·exact putM_old ih
def folP (s:Sy) (a b:List Int):Prop:=if nxt s a=[] then a=b else 0≤rbt s a b
theorem fol_mem {s:Sy} {a b:List Int} (h:¬nxt s a=[]):0≤rbt s a b↔b∈nxt s a:=by
 constructor
 ·intro h1
  obtain ⟨r,_,h3,h4,h5⟩:=rbt_spec h1
  rw [←h5]
  exact nxtN_use h3 h4
 ·intro h1
  obtain ⟨r,h3,h4,h5⟩:=nxtN_rule h1
  exact fst1_ge h3 (decide_eq_true ⟨by rw [h4];exact h5,h4⟩)
theorem C_spec_l3Follows (s:Sy) (a b:List Int) (h:valid s) (ha:inR s.1 a) (hb:inR s.1 b) (Q:List AV→Prop):mc.C f_spec_l3Follows [⟨L V3,s.1⟩,⟨L TR,s.2⟩,⟨L I,a⟩,⟨L I,b⟩] Q=Q [⟨B,dB (folP s a b)⟩]:=by
 refine Mc.Ends.c (mc.ends F_spec_l3Follows ?_)
 have hla:a.length≤1048576:=by have:=ha.1;have:=h.1.2;omega
 have hlb:b.length≤1048576:=by have:=hb.1;have:=h.1.2;omega
 have hnl:=@nxt_len s a h
 have hni:=@nxt_in s a
 generalize hK:dB (folP s a b)=K
 unfold folP at hK
 simp+contextual(maxSteps:=1000000)(disch:=omega)only[↓Sd,↓So,↓Sk,↓den,↓denA,Sa,Sb,Sc,Se,O1.d,O2.d,O3.d,cmI,arI,envOf,putN,↓reduceIte,Nat.reduceLT,Nat.reduceSub,Nat.reduceAdd,Int.reduceAdd,Int.reduceEq,Int.reduceLT,Int.reduceLE,arr_pos,arr_neg,tr_spec_l3Follows,C_spec_l2Next s a h ha,C_spec_l2Same a b hla hlb]
 refine ⟨fun g=>?_,fun g=>?_⟩
 ·rw [if_pos (List.eq_nil_of_length_eq_zero (by omega))] at hK
  rw [←hK,←dB_eq]
 ·have hne:¬nxt s a=[]:=fun e=>g (by rw [e];rfl)
  rw [if_neg hne] at hK
  refine lp_all (fun i=>[⟨L I,b⟩,⟨I,(i:Int)⟩,⟨L (L I),nxt s a⟩]) (fun i=>¬(nxt s a).getD i []=b) (nxt s a).length _ rfl ?_ ?_
  ·intro i hi
   have hx:=hni _ (getD_mem (d:=[]) hi)
   have hxl:((nxt s a).getD i []).length≤1048576:=by have:=hx.1;have:=h.1.2;omega
   simp+contextual(maxSteps:=1000000)(disch:=omega)only[↓Sd,↓So,↓Sk,↓den,↓denA,Sa,Sb,Sc,Se,O1.d,O2.d,O3.d,cmI,arI,envOf,putN,↓reduceIte,Nat.reduceLT,Nat.reduceSub,Nat.reduceAdd,Int.reduceAdd,Int.reduceEq,Int.reduceLT,Int.reduceLE,arr_pos,arr_neg,C_spec_l2Same ((nxt s a).getD i []) b hxl hlb]
   intro e
   rw [←hK,dB_t]
   exact (fol_mem hne).2 (by rw [←e];exact getD_mem hi)
  ·intro hp
   simp+contextual(maxSteps:=1000000)(disch:=omega)only[↓Sd,↓So,↓Sk,↓den,↓denA,Sa,Sb,Sc,Se,O1.d,O2.d,O3.d,cmI,arI,envOf,putN,↓reduceIte,Nat.reduceLT,Nat.reduceSub,Nat.reduceAdd,Int.reduceAdd,Int.reduceEq,Int.reduceLT,Int.reduceLE,arr_pos,arr_neg,]
   rw [←hK,dB_f]
   intro e
   have:=(fol_mem hne).1 e
   obtain ⟨i,hi,rfl⟩:=List.getElem_of_mem this
   exact hp i hi (getD_lt hi)
def atW (S R:List (List Int)) (i:Nat):List Int:=if i<S.length then S.getD i [] else R.getD ((i - S.length) % R.length) []
theorem atW_in {S R:List (List Int)} {i:Nat} (h:i<S.length+R.length):atW S R i=(S++R).getD i []:=by
 unfold atW
 by_cases e:i<S.length
 ·rw [if_pos e,List.getD_eq_getElem?_getD,List.getD_eq_getElem?_getD,List.getElem?_append_left e]
 ·rw [if_neg e,Nat.mod_eq_of_lt (by omega),List.getD_eq_getElem?_getD,List.getD_eq_getElem?_getD,List.getElem?_append_right (by omega)]
theorem atW_end {S R:List (List Int)} (h:0<R.length):atW S R (S.length+R.length)=R.getD 0 []:=by
 unfold atW
 rw [if_neg (by omega),Nat.add_sub_cancel_left,Nat.mod_self]
theorem C_spec_l3At (S R:List (List Int)) (i:Nat) (hR:0<R.length) (hb:S.length+R.length≤3000000) (hi:i≤3000000) (Q:List AV→Prop):mc.C f_spec_l3At [⟨L (L I),S⟩,⟨L (L I),R⟩,⟨I,(i:Int)⟩] Q=Q [⟨L I,atW S R i⟩]:=by
 refine Mc.Ends.c (mc.ends F_spec_l3At ?_)
 unfold atW
 by_cases e:i<S.length
 ·rw [if_pos e]
  simp+contextual(maxSteps:=1000000)(disch:=omega)only[↓Sd,↓So,↓Sk,↓den,↓denA,Sa,Sb,Sc,Se,O1.d,O2.d,O3.d,cmI,arI,envOf,putN,↓reduceIte,Nat.reduceLT,Nat.reduceSub,Nat.reduceAdd,Int.reduceAdd,Int.reduceEq,Int.reduceLT,Int.reduceLE,arr_pos,arr_neg,tr_spec_l3At]
 ·rw [if_neg e]
  have e1:((i:Int) - (S.length:Int)) % (R.length:Int)=(((i - S.length) % R.length:Nat):Int):=by
   rw [show (i:Int) - (S.length:Int)=((i - S.length:Nat):Int) by omega]
   exact (Int.natCast_emod _ _).symm
  have e2:(i - S.length) % R.length<R.length:=Nat.mod_lt _ hR
  simp+contextual(maxSteps:=1000000)(disch:=omega)only[↓Sd,↓So,↓Sk,↓den,↓denA,Sa,Sb,Sc,Se,O1.d,O2.d,O3.d,cmI,arI,envOf,putN,↓reduceIte,Nat.reduceLT,Nat.reduceSub,Nat.reduceAdd,Int.reduceAdd,Int.reduceEq,Int.reduceLT,Int.reduceLE,arr_pos,arr_neg,tr_spec_l3At,e1]
def SRok (S R:List (List Int)):Prop:=(S.length≤1048576∧∀x∈S,x.length≤1048576)∧R.length≤1048576∧∀x∈R,x.length≤1048576
theorem atW_len {S R:List (List Int)} (h:SRok S R) {i:Nat}:(atW S R i).length≤1048576:=by
 have key:∀{X:List (List Int)} {j:Nat},(∀x∈X,x.length≤1048576)→(X.getD j []).length≤1048576:=fun {X j} hX=>by
  by_cases e:j<X.length
  ·exact hX _ (getD_mem e)
  ·rw [List.getD_eq_getElem?_getD,List.getElem?_eq_none (by omega)];simp
 unfold atW
 split
 ·exact key h.1.2
 ·exact key h.2.2
def lasK (s:Sy) (S R:List (List Int)):Prop:=valid s∧0<R.length∧S.length+R.length≤500∧(∀i,i≤S.length+R.length→inR s.1 (atW S R i))∧atW S R 0=fst0 s.1∧∀i,i<S.length+R.length→folP s (atW S R i) (atW S R (i+1))
theorem C_spec_LassoValid (s:Sy) (S R:List (List Int)) (hs:FewSy s) (h:SRok S R) (Q:List AV→Prop):mc.C f_spec_LassoValid [⟨L V3,s.1⟩,⟨L TR,s.2⟩,⟨L (L I),S⟩,⟨L (L I),R⟩] Q=Q [⟨B,dB (lasK s S R)⟩]:=by
 refine Mc.Ends.c (mc.ends F_spec_LassoValid ?_)
 generalize hK:dB (lasK s S R)=K
 have hb1:=h.1.1
 have hb2:=h.2.1
 by_cases hv:valid s
 ·by_cases h0:R.length=0
  ·simp+contextual(maxSteps:=1000000)(disch:=omega)only[↓Sd,↓So,↓Sk,↓den,↓denA,Sa,Sb,Sc,Se,O1.d,O2.d,O3.d,cmI,arI,envOf,putN,↓reduceIte,Nat.reduceLT,Nat.reduceSub,Nat.reduceAdd,Int.reduceAdd,Int.reduceEq,Int.reduceLT,Int.reduceLE,arr_pos,arr_neg,tr_spec_LassoValid,C_spec_SystemValid s hs,decide_eq_true hv,h0]
   rw [←hK,dB_f fun g=>by have:=g.2.1;omega]
  ·by_cases hl:S.length+R.length≤500
   ·have h5:=hv.1
    have hat:=fun i=>@atW_len S R h i
    have hf0:(fst0 s.1).length≤1048576:=by rw [fst0,List.length_map];omega
    simp+contextual(maxSteps:=1000000)(disch:=omega)only[↓Sd,↓So,↓Sk,↓den,↓denA,Sa,Sb,Sc,Se,O1.d,O2.d,O3.d,cmI,arI,envOf,putN,↓reduceIte,Nat.reduceLT,Nat.reduceSub,Nat.reduceAdd,Int.reduceAdd,Int.reduceEq,Int.reduceLT,Int.reduceLE,arr_pos,arr_neg,tr_spec_LassoValid,C_spec_SystemValid s hs,decide_eq_true hv,C_spec_FirstState s hs hv]
    have hc0:((0:Nat):Int)=0:=rfl
    rw [←hc0,C_spec_l3At S R 0 (by omega) (by omega) (by omega)]
    simp+contextual(maxSteps:=1000000)(disch:=omega)only[↓Sd,↓So,↓Sk,↓den,↓denA,Sa,Sb,Sc,Se,O1.d,O2.d,O3.d,cmI,arI,envOf,putN,↓reduceIte,Nat.reduceLT,Nat.reduceSub,Nat.reduceAdd,Int.reduceAdd,Int.reduceEq,Int.reduceLT,Int.reduceLE,arr_pos,arr_neg,C_spec_FirstState s hs hv,C_spec_l2Same (atW S R 0) (fst0 s.1) (hat 0) hf0]
    refine ⟨fun g=>?_,fun g=>?_⟩
    ·rw [←hK,dB_f fun g2=>g g2.2.2.2.2.1]
    refine mc.lp_for Unit (fun i _=>[⟨L (L I),S⟩,⟨L (L I),R⟩,⟨I,((S.length+R.length:Nat):Int)⟩,⟨I,(i:Int)⟩,⟨L V3,s.1⟩,⟨L TR,s.2⟩]) (fun i _=>∀j,j<i→inR s.1 (atW S R j)∧inR s.1 (atW S R (j+1))∧folP s (atW S R j) (atW S R (j+1))) (S.length+R.length) 0 () _ rfl (Nat.zero_le _) (fun j hj=>absurd hj (Nat.not_lt_zero _)) ?_ ?_
    ·rintro i - hi hp
     have hc1:((i:Int)+1)=((i+1:Nat):Int):=rfl
     have e1:=C_spec_l3At S R i (by omega) (by omega) (by omega)
     have e2:=C_spec_l3At S R (i+1) (by omega) (by omega) (by omega)
     rw [←hc1] at e2
     by_cases i1:inR s.1 (atW S R i)
     ·by_cases i2:inR s.1 (atW S R (i+1))
      ·simp+contextual(maxSteps:=1000000)(disch:=omega)only[↓Sd,↓So,↓Sk,↓den,↓denA,Sa,Sb,Sc,Se,O1.d,O2.d,O3.d,cmI,arI,envOf,putN,↓reduceIte,Nat.reduceLT,Nat.reduceSub,Nat.reduceAdd,Int.reduceAdd,Int.reduceEq,Int.reduceLT,Int.reduceLE,arr_pos,arr_neg,e1,e2,C_spec_l2In s (atW S R i) h5.2 (hat i),C_spec_l2In s (atW S R (i+1)) h5.2 (hat (i+1)),decide_eq_true i1,decide_eq_true i2,C_spec_l3Follows s (atW S R i) (atW S R (i+1)) hv i1 i2]
       refine ⟨fun g=>?_,fun g j hj=>?_⟩
       ·rw [←hK,dB_f fun g2=>?_]
        rw [dB_t (g2.2.2.2.2.2 i hi)] at g;cases g
       ·by_cases e:j=i
        ·rw [e];exact ⟨i1,i2,Classical.byContradiction fun g2=>g (dB_f g2)⟩
        ·exact hp j (by omega)
      ·simp+contextual(maxSteps:=1000000)(disch:=omega)only[↓Sd,↓So,↓Sk,↓den,↓denA,Sa,Sb,Sc,Se,O1.d,O2.d,O3.d,cmI,arI,envOf,putN,↓reduceIte,Nat.reduceLT,Nat.reduceSub,Nat.reduceAdd,Int.reduceAdd,Int.reduceEq,Int.reduceLT,Int.reduceLE,arr_pos,arr_neg,e1,e2,C_spec_l2In s (atW S R i) h5.2 (hat i),C_spec_l2In s (atW S R (i+1)) h5.2 (hat (i+1)),decide_eq_true i1,decide_eq_false i2]
       rw [←hK,dB_f fun g2=>i2 (g2.2.2.2.1 _ (by omega))]
     ·simp+contextual(maxSteps:=1000000)(disch:=omega)only[↓Sd,↓So,↓Sk,↓den,↓denA,Sa,Sb,Sc,Se,O1.d,O2.d,O3.d,cmI,arI,envOf,putN,↓reduceIte,Nat.reduceLT,Nat.reduceSub,Nat.reduceAdd,Int.reduceAdd,Int.reduceEq,Int.reduceLT,Int.reduceLE,arr_pos,arr_neg,e1,C_spec_l2In s (atW S R i) h5.2 (hat i),decide_eq_false i1]
      rw [←hK,dB_f fun g2=>i1 (g2.2.2.2.1 _ (by omega))]
    ·rintro - hp
     simp+contextual(maxSteps:=1000000)(disch:=omega)only[↓Sd,↓So,↓Sk,↓den,↓denA,Sa,Sb,Sc,Se,O1.d,O2.d,O3.d,cmI,arI,envOf,putN,↓reduceIte,Nat.reduceLT,Nat.reduceSub,Nat.reduceAdd,Int.reduceAdd,Int.reduceEq,Int.reduceLT,Int.reduceLE,arr_pos,arr_neg,]
     rw [←hK,dB_t]
     refine ⟨hv,by omega,hl,fun i hi=>?_,g,fun i hi=>(hp i hi).2.2⟩
     cases i with
     | zero=>exact (hp 0 (by omega)).1
     | succ i=>exact (hp i (by omega)).2.1
   ·simp+contextual(maxSteps:=1000000)(disch:=omega)only[↓Sd,↓So,↓Sk,↓den,↓denA,Sa,Sb,Sc,Se,O1.d,O2.d,O3.d,cmI,arI,envOf,putN,↓reduceIte,Nat.reduceLT,Nat.reduceSub,Nat.reduceAdd,Int.reduceAdd,Int.reduceEq,Int.reduceLT,Int.reduceLE,arr_pos,arr_neg,tr_spec_LassoValid,C_spec_SystemValid s hs,decide_eq_true hv]
    rw [←hK,dB_f fun g=>by have:=g.2.2.1;omega]
 ·simp+contextual(maxSteps:=1000000)(disch:=omega)only[↓Sd,↓So,↓Sk,↓den,↓denA,Sa,Sb,Sc,Se,O1.d,O2.d,O3.d,cmI,arI,envOf,putN,↓reduceIte,Nat.reduceLT,Nat.reduceSub,Nat.reduceAdd,Int.reduceAdd,Int.reduceEq,Int.reduceLT,Int.reduceLE,arr_pos,arr_neg,tr_spec_LassoValid,C_spec_SystemValid s hs,decide_eq_false hv]
  rw [←hK,dB_f fun g=>hv g.1]
theorem C_impl_LassoValid (s:Sy) (S R:List (List Int)) (hs:FewSy s) (h:SRok S R) (Q:List AV→Prop):mc.C f_impl_LassoValid [⟨L V3,s.1⟩,⟨L TR,s.2⟩,⟨L (L I),S⟩,⟨L (L I),R⟩] Q=Q [⟨B,dB (lasK s S R)⟩]:=by
 refine Mc.Ends.c (mc.ends F_impl_LassoValid ?_)
 generalize hK:dB (lasK s S R)=K
 have hb1:=h.1.1
 have hb2:=h.2.1
 have hok:∀Q:List AV→Prop,mc.C f_impl_lassoOk [⟨L (L I),S⟩,⟨L (L I),R⟩] Q=Q [⟨B,dB (0<R.length∧S.length+R.length≤500)⟩]:=fun Q=>by
  refine Mc.Ends.c (mc.ends F_impl_lassoOk ?_)
  simp+contextual(maxSteps:=1000000)(disch:=omega)only[↓Sd,↓So,↓Sk,↓den,↓denA,Sa,Sb,Sc,Se,O1.d,O2.d,O3.d,cmI,arI,envOf,putN,↓reduceIte,Nat.reduceLT,Nat.reduceSub,Nat.reduceAdd,Int.reduceAdd,Int.reduceEq,Int.reduceLT,Int.reduceLE,arr_pos,arr_neg,tr_impl_lassoOk]
  refine ⟨fun g=>?_,fun g=>?_⟩
  ·rw [←dB_eq];exact dB_congr ⟨fun g2=>⟨by omega,by omega⟩,fun g2=>by omega⟩
  ·rw [dB_f fun g2=>g (by omega)]
 by_cases hv:valid s
 ·by_cases hl:0<R.length∧S.length+R.length≤500
  ·have h5:=hv.1
   have hat:=fun i=>@atW_len S R h i
   have hf0:(fst0 s.1).length≤1048576:=by rw [fst0,List.length_map];omega
   have hfl:([S]++([R]++[R.take 1])).flatten=S++(R++R.take 1):=by simp
   have ht1:(R.take 1).length=1:=by rw [List.length_take];omega
   obtain ⟨A,hA⟩:∃A,S++(R++R.take 1)=A:=⟨_,rfl⟩
   have hAl:A.length=S.length+R.length+1:=by rw [←hA,List.length_append,List.length_append,ht1];omega
   have hAg:∀i,i≤S.length+R.length→A.getD i []=atW S R i:=fun i hi=>by
    rw [←hA,←List.append_assoc]
    by_cases e:i=S.length+R.length
    ·rw [e,atW_end hl.1,List.getD_eq_getElem?_getD,List.getElem?_append_right (by rw [List.length_append];omega),List.length_append,Nat.sub_self,List.getElem?_take_of_lt (by omega),←List.getD_eq_getElem?_getD]
    ·rw [atW_in (by omega),List.getD_eq_getElem?_getD,List.getD_eq_getElem?_getD,List.getElem?_append_left (by rw [List.length_append];omega)]
   rw [hA] at hfl
   obtain ⟨m,hm⟩:∃m,S.length+R.length=m:=⟨_,rfl⟩
   simp+contextual(maxSteps:=1000000)(disch:=omega)only[↓Sd,↓So,↓Sk,↓den,↓denA,Sa,Sb,Sc,Se,O1.d,O2.d,O3.d,cmI,arI,envOf,putN,↓reduceIte,Nat.reduceLT,Nat.reduceSub,Nat.reduceAdd,Int.reduceAdd,Int.reduceEq,Int.reduceLT,Int.reduceLE,arr_pos,arr_neg,tr_impl_LassoValid,C_impl_SystemValid s hs,decide_eq_true hv,hok,dB_t hl,C_slices_Concat2 ([S]++([R]++[R.take 1])) (by rw [hfl];omega) (by simp),hfl,hAl]
   refine mc.lp_for Unit (fun i _=>[⟨I,((S.length+R.length+1:Nat):Int)⟩,⟨I,(i:Int)⟩,⟨L V3,s.1⟩,⟨L TR,s.2⟩,⟨L (L I),A⟩]) (fun i _=>∀j,j<i→inR s.1 (atW S R j)∧(j=0→atW S R 0=fst0 s.1)∧∀a,j=a+1→folP s (atW S R a) (atW S R j)) (S.length+R.length+1) 0 () _ rfl (Nat.zero_le _) (fun j hj=>absurd hj (Nat.not_lt_zero _)) ?_ ?_
   ·rintro i - hi hp
    have e1:=hAg i (by omega)
    by_cases i1:inR s.1 (atW S R i)
    ·cases i with
     | zero =>
      simp+contextual(maxSteps:=1000000)(disch:=omega)only[↓Sd,↓So,↓Sk,↓den,↓denA,Sa,Sb,Sc,Se,O1.d,O2.d,O3.d,cmI,arI,envOf,putN,↓reduceIte,Nat.reduceLT,Nat.reduceSub,Nat.reduceAdd,Int.reduceAdd,Int.reduceEq,Int.reduceLT,Int.reduceLE,arr_pos,arr_neg,↓wpJoin,hAl,e1,C_impl_inRange s (atW S R 0) h5.2 (hat 0),decide_eq_true i1,C_impl_first s h5.2,C_slices_Equal (atW S R 0) (fst0 s.1) (hat 0) hf0]
      refine ⟨fun g=>?_,fun g j hj=>?_⟩
      ·rw [←hK,dB_f fun g2=>g g2.2.2.2.2.1]
      ·obtain rfl:j=0:=by omega
       first | exact ⟨i1,fun _=>trivial⟩ | exact ⟨i1,fun _=>g,fun a ha=>by omega⟩ | exact ⟨i1,fun _=>g,fun _=>trivial⟩ | exact ⟨i1,g,fun _=>trivial⟩
     | succ i =>
      have i0:=(hp i (by omega)).1
      have e0:=hAg i (by omega)
      have hfol:=C_impl_follows s (atW S R i) (atW S R (i+1)) hv i0 i1
      have hres:(if nxt s (atW S R i)=[] then decide (atW S R i=atW S R (i+1)) else decide (0≤rbt s (atW S R i) (atW S R (i+1))))=dB (folP s (atW S R i) (atW S R (i+1))):=by
       unfold folP
       split<;>rw [←dB_eq]
      rw [hres] at hfol
      have e3:((i:Int)+1).toNat=i+1:=by omega
      simp+contextual(maxSteps:=1000000)(disch:=omega)only[↓Sd,↓So,↓Sk,↓den,↓denA,Sa,Sb,Sc,Se,O1.d,O2.d,O3.d,cmI,arI,envOf,putN,↓reduceIte,Nat.reduceLT,Nat.reduceSub,Nat.reduceAdd,Int.reduceAdd,Int.reduceEq,Int.reduceLT,Int.reduceLE,arr_pos,arr_neg,↓wpJoin,hAl,e3,e1,e0,C_impl_inRange s (atW S R (i+1)) h5.2 (hat (i+1)),decide_eq_true i1,hfol]
      refine ⟨fun g=>?_,fun g j hj=>?_⟩
      ·rw [←hK,dB_f fun g2=>?_]
       rw [dB_t (g2.2.2.2.2.2 i (by omega))] at g;cases g
      ·by_cases e:j=i+1
       ·refine ⟨by rw [e];exact i1,fun h0=>by omega,fun a ha=>?_⟩
        obtain rfl:a=i:=by omega
        exact Classical.byContradiction fun g2=>g (dB_f g2)
       ·refine ⟨(hp j (by omega)).1,(hp j (by omega)).2.1,fun a ha=>?_⟩
        rw [←ha];exact (hp j (by omega)).2.2 a ha
    ·simp+contextual(maxSteps:=1000000)(disch:=omega)only[↓Sd,↓So,↓Sk,↓den,↓denA,Sa,Sb,Sc,Se,O1.d,O2.d,O3.d,cmI,arI,envOf,putN,↓reduceIte,Nat.reduceLT,Nat.reduceSub,Nat.reduceAdd,Int.reduceAdd,Int.reduceEq,Int.reduceLT,Int.reduceLE,arr_pos,arr_neg,↓wpJoin,hAl,e1,C_impl_inRange s (atW S R i) h5.2 (hat i),decide_eq_false i1]
     rw [←hK,dB_f fun g2=>i1 (g2.2.2.2.1 _ (by omega))]
   ·rintro - hp
    simp+contextual(maxSteps:=1000000)(disch:=omega)only[↓Sd,↓So,↓Sk,↓den,↓denA,Sa,Sb,Sc,Se,O1.d,O2.d,O3.d,cmI,arI,envOf,putN,↓reduceIte,Nat.reduceLT,Nat.reduceSub,Nat.reduceAdd,Int.reduceAdd,Int.reduceEq,Int.reduceLT,Int.reduceLE,arr_pos,arr_neg,]
    rw [←hK,dB_t]
    exact ⟨hv,hl.1,hl.2,fun i hi=>(hp i (by omega)).1,(hp 0 (by omega)).2.1 rfl,fun i hi=>(hp (i+1) (by omega)).2.2 i rfl⟩
  ·simp+contextual(maxSteps:=1000000)(disch:=omega)only[↓Sd,↓So,↓Sk,↓den,↓denA,Sa,Sb,Sc,Se,O1.d,O2.d,O3.d,cmI,arI,envOf,putN,↓reduceIte,Nat.reduceLT,Nat.reduceSub,Nat.reduceAdd,Int.reduceAdd,Int.reduceEq,Int.reduceLT,Int.reduceLE,arr_pos,arr_neg,tr_impl_LassoValid,C_impl_SystemValid s hs,decide_eq_true hv,hok,dB_f hl]
   rw [←hK,dB_f fun g=>hl ⟨g.2.1,g.2.2.1⟩]
 ·simp+contextual(maxSteps:=1000000)(disch:=omega)only[↓Sd,↓So,↓Sk,↓den,↓denA,Sa,Sb,Sc,Se,O1.d,O2.d,O3.d,cmI,arI,envOf,putN,↓reduceIte,Nat.reduceLT,Nat.reduceSub,Nat.reduceAdd,Int.reduceAdd,Int.reduceEq,Int.reduceLT,Int.reduceLE,arr_pos,arr_neg,tr_impl_LassoValid,C_impl_SystemValid s hs,decide_eq_false hv]
  rw [←hK,dB_f fun g=>hv g.1]
theorem C_spec_l20Row (t:Tm) (RW S R:List (List Int)) (P wl:Nat→Nat→Bool) (n k:Nat) (hto:tO t k n) (hR:0<R.length) (hm:S.length+R.length≤60) (hw:LtrsOk (S++R) n wl) (hRl:k≤RW.length) (hRg:∀a,a<k→RW.getD a []=bR (S.length+R.length) (P a)) (Q:List AV→Prop) :
  mc.C f_spec_l20Row [⟨I,t.1⟩,⟨I,t.2.1⟩,⟨I,t.2.2.1⟩,⟨I,t.2.2.2⟩,⟨L (L I),RW⟩,⟨L (L I),S⟩,⟨L (L I),R⟩] Q=Q [⟨L I,bR (S.length+R.length) (rwB t P wl S.length (S.length+R.length))⟩]:=by
 refine Mc.Ends.c (mc.ends F_spec_l20Row ?_)
 obtain ⟨m,hmm⟩:∃m,S.length+R.length=m:=⟨_,rfl⟩
 have hWl:(S++R).length=m:=by rw [List.length_append,hmm]
 have hmi:(S.length:Int)+(R.length:Int)=(m:Int):=by omega
 have hsm:S.length<m:=by omega
 rw [hmm] at hm hRg ⊢
 by_cases h6:t.1≥6
 ·have ho:t.1=6∨t.1=7:=by
   rcases hto with ⟨h,_⟩ | ⟨h,_⟩ | ⟨h,_⟩<;>omega
  have hAB:(0≤t.2.2.1∧t.2.2.1<k)∧0≤t.2.2.2∧t.2.2.2<k:=by
   rcases hto with ⟨h,_⟩ | ⟨h,_⟩ | ⟨h,_,hA,hB,_⟩
   ·omega
   ·omega
   ·omega
  simp+contextual(maxSteps:=1000000)(disch:=omega)only[↓Sd,↓So,↓Sk,↓den,↓denA,Sa,Sb,Sc,Se,O1.d,O2.d,O3.d,cmI,arI,envOf,putN,↓reduceIte,Nat.reduceLT,Nat.reduceSub,Nat.reduceAdd,Int.reduceAdd,Int.reduceEq,Int.reduceLT,Int.reduceLE,arr_pos,arr_neg,tr_spec_l20Row,h6,hmi,C_spec_l20Later t RW P wl S.length m k ho hAB.1 hAB.2 hsm hm hRl hRg]
 ·have hlow:0≤t.1∧t.1<6:=by
   rcases hto with ⟨h,_⟩ | ⟨h,_⟩ | ⟨h,_⟩<;>omega
  have hval:∀i,i<m→rwB t P wl S.length m i=hop t P wl S.length m i true:=fun i hi=>rwB_low hlow hi
  have hbR:bR m (rwB t P wl S.length m)=tab (fun i=>bt (hop t P wl S.length m i true)) m:=tab_congr fun i hi=>by rw [hval i hi]
  rw [hbR]
  simp+contextual(maxSteps:=1000000)(disch:=omega)only[↓Sd,↓So,↓Sk,↓den,↓denA,Sa,Sb,Sc,Se,O1.d,O2.d,O3.d,cmI,arI,envOf,putN,↓reduceIte,Nat.reduceLT,Nat.reduceSub,Nat.reduceAdd,Int.reduceAdd,Int.reduceEq,Int.reduceLT,Int.reduceLE,arr_pos,arr_neg,tr_spec_l20Row,h6,hmi]
  refine mc.lp_for (List Int) (fun i o=>[⟨L (L I),RW⟩,⟨L (L I),S⟩,⟨L (L I),R⟩,⟨I,(m:Int)⟩,⟨I,(i:Int)⟩,⟨I,t.1⟩,⟨I,t.2.1⟩,⟨I,t.2.2.1⟩,⟨I,t.2.2.2⟩,⟨L I,o⟩]) (fun i o=>o=tab (fun i=>bt (hop t P wl S.length m i true)) i) m 0 [] _ rfl (Nat.zero_le _) rfl ?_ ?_
  ·rintro i o hi rfl
   have him:i+1≤m:=hi
   rw [←tab_next]
   obtain ⟨o,ho⟩:∃o,tab (fun i=>bt (hop t P wl S.length m i true)) i=o:=⟨_,rfl⟩
   have hol:o.length=i:=by rw [←ho,tab_len]
   rw [ho]
   clear hbR hval
   rcases hto with ⟨ho,-⟩ | ⟨ho,hnn,-⟩ | ⟨ho,-,hA,hB,-⟩
   ·simp+contextual(maxSteps:=1000000)(disch:=omega)only[↓Sd,↓So,↓Sk,↓den,↓denA,Sa,Sb,Sc,Se,O1.d,O2.d,O3.d,cmI,arI,envOf,putN,↓reduceIte,Nat.reduceLT,Nat.reduceSub,Nat.reduceAdd,Int.reduceAdd,Int.reduceEq,Int.reduceLT,Int.reduceLE,arr_pos,arr_neg,↓wpJoin,ho,hol]
    rw [hop,if_pos ho];rfl
   ·obtain ⟨a,ha⟩:∃a:Nat,t.2.1=a:=⟨t.2.1.toNat,by omega⟩
    have hwi:=hw i (by omega)
    have hat:atW S R i=(S++R).getD i []:=atW_in (by omega)
    rw [ha] at hnn ⊢
    have hwj:=hwi.2 a (by omega)
    rw [←hat] at hwi hwj
    simp+contextual(maxSteps:=1000000)(disch:=omega)only[↓Sd,↓So,↓Sk,↓den,↓denA,Sa,Sb,Sc,Se,O1.d,O2.d,O3.d,cmI,arI,envOf,putN,↓reduceIte,Nat.reduceLT,Nat.reduceSub,Nat.reduceAdd,Int.reduceAdd,Int.reduceEq,Int.reduceLT,Int.reduceLE,arr_pos,arr_neg,↓wpJoin,ho,hol,C_spec_l3At S R i hR (by omega) (by omega),hwi.1,hwj]
    rw [hop,if_neg (by omega),if_pos ho,ha,Int.toNat_natCast]
   ·obtain ⟨a,ha⟩:∃a:Nat,t.2.2.1=a:=⟨t.2.2.1.toNat,by omega⟩
    obtain ⟨b,hb⟩:∃b:Nat,t.2.2.2=b:=⟨t.2.2.2.toNat,by omega⟩
    have hak:a<k:=by omega
    have hbk:b<k:=by omega
    have ga:=bR_get (m:=m) (ρ:=P a) hi
    have gb:=bR_get (m:=m) (ρ:=P b) hi
    rw [ha] at hA ⊢
    rw [hb] at hB ⊢
    have hcase:t.1=2∨t.1=3∨t.1=4∨t.1=5:=by omega
    rw [hop,if_neg (by omega),if_neg (by omega),ha,hb,Int.toNat_natCast,Int.toNat_natCast]
    have bm:∀x y:Bool,IntKind.i64.wrap (bt x * bt y)=bt (x&&y):=fun x y=>by cases x<;>cases y<;>decide
    have bs:∀x y:Bool,(if decide (bt x+bt y > 0)=true then (1:Int) else 0)=bt (x||y):=fun x y=>by cases x<;>cases y<;>decide
    rcases hcase with ho | ho | ho | ho
    ·rw [if_pos ho]
     simp+contextual(maxSteps:=1000000)(disch:=omega)only[↓Sd,↓So,↓Sk,↓den,↓denA,Sa,Sb,Sc,Se,O1.d,O2.d,O3.d,cmI,arI,envOf,putN,↓reduceIte,Nat.reduceLT,Nat.reduceSub,Nat.reduceAdd,Int.reduceAdd,Int.reduceEq,Int.reduceLT,Int.reduceLE,arr_pos,arr_neg,↓wpJoin,ho,hol,hRg a hak,hRg b hbk,bR_len,ga,gb,bt_not]
    ·rw [if_neg (by omega),if_pos ho]
     simp+contextual(maxSteps:=1000000)(disch:=omega)only[↓Sd,↓So,↓Sk,↓den,↓denA,Sa,Sb,Sc,Se,O1.d,O2.d,O3.d,cmI,arI,envOf,putN,↓reduceIte,Nat.reduceLT,Nat.reduceSub,Nat.reduceAdd,Int.reduceAdd,Int.reduceEq,Int.reduceLT,Int.reduceLE,arr_pos,arr_neg,↓wpJoin,ho,hol,hRg a hak,hRg b hbk,bR_len,ga,gb,bm]
    ·rw [if_neg (by omega),if_neg (by omega),if_pos ho]
     simp+contextual(maxSteps:=1000000)(disch:=omega)only[↓Sd,↓So,↓Sk,↓den,↓denA,Sa,Sb,Sc,Se,O1.d,O2.d,O3.d,cmI,arI,envOf,putN,↓reduceIte,Nat.reduceLT,Nat.reduceSub,Nat.reduceAdd,Int.reduceAdd,Int.reduceEq,Int.reduceLT,Int.reduceLE,arr_pos,arr_neg,↓wpJoin,ho,hol,hRg a hak,hRg b hbk,bR_len,ga,gb,C_spec_l1Truth]
     generalize P a i=pa
     generalize P b i=pb
     congr 2
     cases pa<;>cases pb<;>decide
    ·rw [if_neg (by omega),if_neg (by omega),if_neg (by omega),if_pos ho]
     obtain ⟨nx,hnx⟩:∃nx,(if i+1=m then S.length else i+1)=nx:=⟨_,rfl⟩
     have hnm:nx<m:=by rw [←hnx];split<;>omega
     rw [hnx]
     have gn:=bR_get (m:=m) (ρ:=P a) hnm
     simp+contextual(maxSteps:=1000000)(disch:=omega)only[↓Sd,↓So,↓Sk,↓den,↓denA,Sa,Sb,Sc,Se,O1.d,O2.d,O3.d,cmI,arI,envOf,putN,↓reduceIte,Nat.reduceLT,Nat.reduceSub,Nat.reduceAdd,Int.reduceAdd,Int.reduceEq,Int.reduceLT,Int.reduceLE,arr_pos,arr_neg,↓wpJoin,ho,hol,hRg a hak,bR_len,C_spec_l20Next i S.length m (by omega) hi,hnx,gn]
  ·rintro o rfl
   simp+contextual(maxSteps:=1000000)(disch:=omega)only[↓Sd,↓So,↓Sk,↓den,↓denA,Sa,Sb,Sc,Se,O1.d,O2.d,O3.d,cmI,arI,envOf,putN,↓reduceIte,Nat.reduceLT,Nat.reduceSub,Nat.reduceAdd,Int.reduceAdd,Int.reduceEq,Int.reduceLT,Int.reduceLE,arr_pos,arr_neg,]
def LtrB (X:List (List Int)) (n:Nat):Prop:=∀i,i<X.length→(X.getD i []).length=n∧∀j,j<n→0≤(X.getD i []).getD j 0∧(X.getD i []).getD j 0≤1
def wlO (W:List (List Int)) (i j:Nat):Bool:=decide ((W.getD i []).getD j 0=1)
theorem LtrB.app {X Y:List (List Int)} {n:Nat} (hx:LtrB X n) (hy:LtrB Y n):LtrsOk (X++Y) n (wlO (X++Y)):=by
 have key:∀i,i<(X++Y).length→((X++Y).getD i []).length=n∧∀j,j<n→0≤((X++Y).getD i []).getD j 0∧((X++Y).getD i []).getD j 0≤1:=fun i hi=>by
  rw [List.length_append] at hi
  by_cases e:i<X.length
  ·rw [List.getD_eq_getElem?_getD,List.getElem?_append_left e,←List.getD_eq_getElem?_getD];exact hx i e
  ·rw [List.getD_eq_getElem?_getD,List.getElem?_append_right (by omega),←List.getD_eq_getElem?_getD];exact hy _ (by omega)
 intro i hi
 refine ⟨(key i hi).1,fun j hj=>?_⟩
 have h1:=(key i hi).2 j hj
 unfold bt wlO
 by_cases e:((X++Y).getD i []).getD j 0=1
 ·rw [if_pos (by rw [decide_eq_true e]),e]
 ·rw [if_neg (by rw [decide_eq_false e];simp)];omega
theorem C_spec_l6Are_b (x:List Int) (hl:x.length≤1048576) (h:∀j,j<x.length→0≤x.getD j 0∧x.getD j 0≤1) (Q:List AV→Prop):mc.C f_spec_l6Are [⟨L I,x⟩] Q=Q [⟨B,true⟩]:=by
 refine Mc.Ends.c (mc.ends F_spec_l6Are ?_)
 simp+contextual(maxSteps:=1000000)(disch:=omega)only[↓Sd,↓So,↓Sk,↓den,↓denA,Sa,Sb,Sc,Se,O1.d,O2.d,O3.d,cmI,arI,envOf,putN,↓reduceIte,Nat.reduceLT,Nat.reduceSub,Nat.reduceAdd,Int.reduceAdd,Int.reduceEq,Int.reduceLT,Int.reduceLE,arr_pos,arr_neg,tr_spec_l6Are]
 refine lp_all (fun i=>[⟨L I,x⟩,⟨I,(i:Int)⟩]) (fun _=>True) x.length _ rfl ?_ ?_
 ·intro i hi
  have:=h i hi
  simp+contextual(maxSteps:=1000000)(disch:=omega)only[↓Sd,↓So,↓Sk,↓den,↓denA,Sa,Sb,Sc,Se,O1.d,O2.d,O3.d,cmI,arI,envOf,putN,↓reduceIte,Nat.reduceLT,Nat.reduceSub,Nat.reduceAdd,Int.reduceAdd,Int.reduceEq,Int.reduceLT,Int.reduceLE,arr_pos,arr_neg,C_spec_l1In,decide_eq_true this]
 ·intro _
  simp+contextual(maxSteps:=1000000)(disch:=omega)only[↓Sd,↓So,↓Sk,↓den,↓denA,Sa,Sb,Sc,Se,O1.d,O2.d,O3.d,cmI,arI,envOf,putN,↓reduceIte,Nat.reduceLT,Nat.reduceSub,Nat.reduceAdd,Int.reduceAdd,Int.reduceEq,Int.reduceLT,Int.reduceLE,arr_pos,arr_neg,]
theorem C_spec_l20Letters_b (X:List (List Int)) (n:Nat) (hl:X.length≤1048576) (hn:n≤1000) (h:LtrB X n) (Q:List AV→Prop):mc.C f_spec_l20Letters [⟨L (L I),X⟩,⟨I,(n:Int)⟩] Q=Q [⟨B,true⟩]:=by
 refine Mc.Ends.c (mc.ends F_spec_l20Letters ?_)
 simp+contextual(maxSteps:=1000000)(disch:=omega)only[↓Sd,↓So,↓Sk,↓den,↓denA,Sa,Sb,Sc,Se,O1.d,O2.d,O3.d,cmI,arI,envOf,putN,↓reduceIte,Nat.reduceLT,Nat.reduceSub,Nat.reduceAdd,Int.reduceAdd,Int.reduceEq,Int.reduceLT,Int.reduceLE,arr_pos,arr_neg,tr_spec_l20Letters]
 refine lp_all (fun i=>[⟨L (L I),X⟩,⟨I,(n:Int)⟩,⟨I,(i:Int)⟩]) (fun _=>True) X.length _ rfl ?_ ?_
 ·intro i hi
  obtain ⟨h1,h2⟩:=h i hi
  simp+contextual(maxSteps:=1000000)(disch:=omega)only[↓Sd,↓So,↓Sk,↓den,↓denA,Sa,Sb,Sc,Se,O1.d,O2.d,O3.d,cmI,arI,envOf,putN,↓reduceIte,Nat.reduceLT,Nat.reduceSub,Nat.reduceAdd,Int.reduceAdd,Int.reduceEq,Int.reduceLT,Int.reduceLE,arr_pos,arr_neg,h1,C_spec_l6Are_b (X.getD i []) (by omega) (by rw [h1];exact h2)]
 ·intro _
  simp+contextual(maxSteps:=1000000)(disch:=omega)only[↓Sd,↓So,↓Sk,↓den,↓denA,Sa,Sb,Sc,Se,O1.d,O2.d,O3.d,cmI,arI,envOf,putN,↓reduceIte,Nat.reduceLT,Nat.reduceSub,Nat.reduceAdd,Int.reduceAdd,Int.reduceEq,Int.reduceLT,Int.reduceLE,arr_pos,arr_neg,]
theorem C_spec_TimesOn_b (l:List Tm) (n:Nat) (S R:List (List Int)) (hf:Few l) (hn:n≤4) (hR:0<R.length) (hS:LtrB S n) (hRb:LtrB R n) (hb:S.length≤1048576∧R.length≤1048576) {Q:List AV→Prop}
  (hy:tV l n→S.length+R.length≤60→Q [⟨L (L I),rowsT l (wlO (S++R)) S.length (S.length+R.length) l.length⟩]) (hno:¬(tV l n∧S.length+R.length≤60)→Q [⟨L (L I),[]⟩]):mc.C f_spec_TimesOn [⟨L T4,l⟩,⟨L (L I),S⟩,⟨L (L I),R⟩,⟨I,(n:Int)⟩] Q:=by
 refine mc.c_of F_spec_TimesOn ?_
 have hw:∀Q:List AV→Prop,mc.C f_spec_WordValid [⟨L (L I),S⟩,⟨L (L I),R⟩,⟨I,(n:Int)⟩] Q=Q [⟨B,decide (S.length+R.length≤60)⟩]:=fun Q=>by
  refine Mc.Ends.c (mc.ends F_spec_WordValid ?_)
  simp+contextual(maxSteps:=1000000)(disch:=omega)only[↓Sd,↓So,↓Sk,↓den,↓denA,Sa,Sb,Sc,Se,O1.d,O2.d,O3.d,cmI,arI,envOf,putN,↓reduceIte,Nat.reduceLT,Nat.reduceSub,Nat.reduceAdd,Int.reduceAdd,Int.reduceEq,Int.reduceLT,Int.reduceLE,arr_pos,arr_neg,tr_spec_WordValid,C_spec_l1In,decide_eq_true (show 0≤(n:Int)∧(n:Int)≤4 by omega),C_spec_l20Letters_b S n (by omega) (by omega) hS,C_spec_l20Letters_b R n (by omega) (by omega) hRb]
  refine ⟨fun g=>(decide_eq_true (by omega)).symm,fun g=>(decide_eq_false (by omega)).symm⟩
 by_cases h1:tV l n
 ·by_cases h2:S.length+R.length≤60
  ·have hll:=h1.2.1
   have hwl:=hS.app hRb
   simp+contextual(maxSteps:=1000000)(disch:=omega)only[↓Sd,↓So,↓Sk,↓den,↓denA,Sa,Sb,Sc,Se,O1.d,O2.d,O3.d,cmI,arI,envOf,putN,↓reduceIte,Nat.reduceLT,Nat.reduceSub,Nat.reduceAdd,Int.reduceAdd,Int.reduceEq,Int.reduceLT,Int.reduceLE,arr_pos,arr_neg,tr_spec_TimesOn,C_spec_TimesValid l n hf,decide_eq_true h1,hw,decide_eq_true h2]
   refine mc.lp_for Unit (fun k _=>[⟨L T4,l⟩,⟨L (L I),S⟩,⟨L (L I),R⟩,⟨I,(k:Int)⟩,⟨L (L I),rowsT l (wlO (S++R)) S.length (S.length+R.length) k⟩]) (fun _ _=>True) l.length 0 () _ rfl (Nat.zero_le _) trivial ?_ ?_
   ·rintro k - hk -
    obtain ⟨t,ht⟩:∃t,l.getD k (0,0,0,0)=t:=⟨_,rfl⟩
    have hto:=h1.2.2 k hk
    have htz:l.getD k zT=t:=ht
    rw [htz] at hto
    have hrl:=@rowsT_len l (wlO (S++R)) S.length (S.length+R.length) k
    simp+contextual(maxSteps:=1000000)(disch:=omega)only[↓Sd,↓So,↓Sk,↓den,↓denA,Sa,Sb,Sc,Se,O1.d,O2.d,O3.d,cmI,arI,envOf,putN,↓reduceIte,Nat.reduceLT,Nat.reduceSub,Nat.reduceAdd,Int.reduceAdd,Int.reduceEq,Int.reduceLT,Int.reduceLE,arr_pos,arr_neg,ht,hrl,C_spec_l20Row t (rowsT l (wlO (S++R)) S.length (S.length+R.length) k) S R (pf l (wlO (S++R)) S.length (S.length+R.length) k) (wlO (S++R)) n k hto hR h2 hwl (by omega) (fun a ha=>rowsT_get ha)]
    rw [rowsT,rowsT,pl,List.map_append,htz]
    rfl
   ·rintro - -
    simp+contextual(maxSteps:=1000000)(disch:=omega)only[↓Sd,↓So,↓Sk,↓den,↓denA,Sa,Sb,Sc,Se,O1.d,O2.d,O3.d,cmI,arI,envOf,putN,↓reduceIte,Nat.reduceLT,Nat.reduceSub,Nat.reduceAdd,Int.reduceAdd,Int.reduceEq,Int.reduceLT,Int.reduceLE,arr_pos,arr_neg,]
    exact hy h1 h2
  ·simp+contextual(maxSteps:=1000000)(disch:=omega)only[↓Sd,↓So,↓Sk,↓den,↓denA,Sa,Sb,Sc,Se,O1.d,O2.d,O3.d,cmI,arI,envOf,putN,↓reduceIte,Nat.reduceLT,Nat.reduceSub,Nat.reduceAdd,Int.reduceAdd,Int.reduceEq,Int.reduceLT,Int.reduceLE,arr_pos,arr_neg,tr_spec_TimesOn,C_spec_TimesValid l n hf,decide_eq_true h1,hw,decide_eq_false h2]
   exact hno fun g=>h2 g.2
 ·simp+contextual(maxSteps:=1000000)(disch:=omega)only[↓Sd,↓So,↓Sk,↓den,↓denA,Sa,Sb,Sc,Se,O1.d,O2.d,O3.d,cmI,arI,envOf,putN,↓reduceIte,Nat.reduceLT,Nat.reduceSub,Nat.reduceAdd,Int.reduceAdd,Int.reduceEq,Int.reduceLT,Int.reduceLE,arr_pos,arr_neg,tr_spec_TimesOn,C_spec_TimesValid l n hf,decide_eq_false h1]
  exact hno fun g=>h1 g.1
def hoV (l:List Tm) (S R:List (List Int)):Bool:=pf l (wlO (S++R)) S.length (S.length+R.length) l.length (l.length - 1) 0
theorem bt_one {b:Bool}:(bt b==(1:Int))=b:=by cases b<;>rfl
theorem C_spec_HoldsOn_b (l:List Tm) (n:Nat) (S R:List (List Int)) (hf:Few l) (hn:n≤4) (hR:0<R.length) (hS:LtrB S n) (hRb:LtrB R n) (hb:S.length≤1048576∧R.length≤1048576) (Q:List AV→Prop) :
  mc.C f_spec_HoldsOn [⟨L T4,l⟩,⟨L (L I),S⟩,⟨L (L I),R⟩,⟨I,(n:Int)⟩] Q=Q [⟨B,decide (tV l n∧S.length+R.length≤60)&&hoV l S R⟩]:=by
 refine Mc.Ends.c (mc.ends F_spec_HoldsOn ?_)
 simp+contextual(maxSteps:=1000000)(disch:=omega)only[↓Sd,↓So,↓Sk,↓den,↓denA,Sa,Sb,Sc,Se,O1.d,O2.d,O3.d,cmI,arI,envOf,putN,↓reduceIte,Nat.reduceLT,Nat.reduceSub,Nat.reduceAdd,Int.reduceAdd,Int.reduceEq,Int.reduceLT,Int.reduceLE,arr_pos,arr_neg,tr_spec_HoldsOn]
 refine C_spec_TimesOn_b l n S R hf hn hR hS hRb hb (fun h1 h2=>?_) (fun h=>?_)
 ·have hll:=h1.2.1
  have hrl:=@rowsT_len l (wlO (S++R)) S.length (S.length+R.length) l.length
  have hrg:=rowsT_get (l:=l) (wl:=wlO (S++R)) (s:=S.length) (m:=S.length+R.length) (k:=l.length) (a:=l.length - 1) (by omega)
  have hg0:=bR_get (m:=S.length+R.length) (i:=0) (ρ:=pf l (wlO (S++R)) S.length (S.length+R.length) l.length (l.length - 1)) (by omega)
  simp+contextual(maxSteps:=1000000)(disch:=omega)only[↓Sd,↓So,↓Sk,↓den,↓denA,Sa,Sb,Sc,Se,O1.d,O2.d,O3.d,cmI,arI,envOf,putN,↓reduceIte,Nat.reduceLT,Nat.reduceSub,Nat.reduceAdd,Int.reduceAdd,Int.reduceEq,Int.reduceLT,Int.reduceLE,arr_pos,arr_neg,hrl,hrg,bR_len,hg0,bt_one]
  rw [decide_eq_true (show tV l n∧S.length+R.length≤60 from ⟨h1,h2⟩)]
  rfl
 ·simp+contextual(maxSteps:=1000000)(disch:=omega)only[↓Sd,↓So,↓Sk,↓den,↓denA,Sa,Sb,Sc,Se,O1.d,O2.d,O3.d,cmI,arI,envOf,putN,↓reduceIte,Nat.reduceLT,Nat.reduceSub,Nat.reduceAdd,Int.reduceAdd,Int.reduceEq,Int.reduceLT,Int.reduceLE,arr_pos,arr_neg,]
  rw [decide_eq_false h];rfl
theorem C_impl_word (F:List (List Tm)) (S:List (List Int)) (n:Nat) (hl:F.length≤4) (hS:S.length≤1048576) (h:∀i,i<F.length→kf (F.getD i []) n=2) (hb:∀x∈S,x.length=n∧Bds x) (Q:List AV→Prop):mc.C f_impl_word [⟨L (L T4),F⟩,⟨L (L I),S⟩] Q=Q [⟨L (L I),S.map (ltr F)⟩]:=by
 refine Mc.Ends.c (mc.ends F_impl_word ?_)
 simp+contextual(maxSteps:=1000000)(disch:=omega)only[↓Sd,↓So,↓Sk,↓den,↓denA,Sa,Sb,Sc,Se,O1.d,O2.d,O3.d,cmI,arI,envOf,putN,↓reduceIte,Nat.reduceLT,Nat.reduceSub,Nat.reduceAdd,Int.reduceAdd,Int.reduceEq,Int.reduceLT,Int.reduceLE,arr_pos,arr_neg,tr_impl_word]
 refine mc.lp_for (List (List Int)) (fun i o=>[⟨L (L T4),F⟩,⟨L (L I),S⟩,⟨I,(S.length:Int)⟩,⟨I,(i:Int)⟩,⟨L (L I),o⟩]) (fun i o=>o=(S.take i).map (ltr F)) S.length 0 [] _ rfl (Nat.zero_le _) rfl ?_ ?_
 ·rintro i o hi rfl
  obtain ⟨h1,h2⟩:=hb _ (getD_mem (d:=[]) hi)
  have hml:((S.take i).map (ltr F)).length≤1048576:=by rw [List.length_map,List.length_take];omega
  have hnx:(S.take (i+1)).map (ltr F)=(S.take i).map (ltr F)++[ltr F (S.getD i [])]:=by
   rw [List.take_succ_eq_append_getElem hi,List.map_append,getD_lt hi];rfl
  rw [hnx]
  simp+contextual(maxSteps:=1000000)(disch:=omega)only[↓Sd,↓So,↓Sk,↓den,↓denA,Sa,Sb,Sc,Se,O1.d,O2.d,O3.d,cmI,arI,envOf,putN,↓reduceIte,Nat.reduceLT,Nat.reduceSub,Nat.reduceAdd,Int.reduceAdd,Int.reduceEq,Int.reduceLT,Int.reduceLE,arr_pos,arr_neg,C_impl_letters F (S.getD i []) hl (by rw [h1];exact h) h2]
 ·rintro o rfl
  rw [List.take_length]
  simp+contextual(maxSteps:=1000000)(disch:=omega)only[↓Sd,↓So,↓Sk,↓den,↓denA,Sa,Sb,Sc,Se,O1.d,O2.d,O3.d,cmI,arI,envOf,putN,↓reduceIte,Nat.reduceLT,Nat.reduceSub,Nat.reduceAdd,Int.reduceAdd,Int.reduceEq,Int.reduceLT,Int.reduceLE,arr_pos,arr_neg,]
theorem las_bds {s:Sy} {S R:List (List Int)} (h:lasK s S R):(∀x∈S,x.length=s.1.length∧Bds x)∧∀x∈R,x.length=s.1.length∧Bds x:=by
 obtain ⟨hv,h1,h2,h3,-,-⟩:=h
 have key:∀i,i<S.length+R.length→inR s.1 ((S++R).getD i []):=fun i hi=>by rw [←atW_in hi];exact h3 i (by omega)
 refine ⟨fun x hx=>?_,fun x hx=>?_⟩
 ·obtain ⟨i,hi,rfl⟩:=List.getElem_of_mem hx
  have:=key i (by omega)
  rw [List.getD_eq_getElem?_getD,List.getElem?_append_left hi,List.getElem?_eq_getElem hi] at this
  exact ⟨this.1,inR.bds this hv.2.2.1⟩
 ·obtain ⟨i,hi,rfl⟩:=List.getElem_of_mem hx
  have:=key (S.length+i) (by omega)
  rw [List.getD_eq_getElem?_getD,List.getElem?_append_right (by omega),Nat.add_sub_cancel_left,List.getElem?_eq_getElem hi] at this
  exact ⟨this.1,inR.bds this hv.2.2.1⟩
theorem ltr_b {F:List (List Tm)} {S:List (List Int)} {n:Nat} (h:∀i,i<F.length→kf (F.getD i []) n=2) (hb:∀x∈S,x.length=n∧Bds x):LtrB (S.map (ltr F)) F.length:=by
 intro i hi
 rw [List.length_map] at hi
 obtain ⟨h1,h2⟩:=hb _ (getD_mem (d:=[]) hi)
 have e:(S.map (ltr F)).getD i []=ltr F (S.getD i []):=by rw [getD_lt (by rw [List.length_map];exact hi),List.getElem_map,getD_lt hi]
 rw [e]
 refine ⟨tab_len,fun j hj=>?_⟩
 rw [ltr,tab_get hj]
 rcases evl_bit (h j hj) h2 (by rw [h1]) with h3 | h3<;>omega
noncomputable def hrB (s:Sy) (F:List (List Tm)) (l:List Tm) (S R:List (List Int)):Bool:=dB (fOk s F∧lasK s S R∧tV l F.length∧S.length+R.length≤60)&&hoV l (S.map (ltr F)) (R.map (ltr F))
theorem C_impl_HoldsOnRun (s:Sy) (F:List (List Tm)) (l:List Tm) (S R:List (List Int)) (hs:FewSy s) (hF:FewSS F) (hf:Few l) (h:SRok S R) (Q:List AV→Prop):mc.C f_impl_HoldsOnRun [⟨L V3,s.1⟩,⟨L TR,s.2⟩,⟨L (L T4),F⟩,⟨L T4,l⟩,⟨L (L I),S⟩,⟨L (L I),R⟩] Q=Q [⟨B,hrB s F l S R⟩]:=by
 refine Mc.Ends.c (mc.ends F_impl_HoldsOnRun ?_)
 generalize hK:hrB s F l S R=K
 have hb1:=h.1.1
 have hb2:=h.2.1
 unfold hrB at hK
 have no:¬(fOk s F∧lasK s S R∧tV l F.length∧S.length+R.length≤60)→false=K:=fun g=>by rw [←hK,dB_f g];rfl
 by_cases h1:fOk s F
 ·by_cases h2:lasK s S R
  ·by_cases h3:S.length+R.length≤60
   ·by_cases h4:tV l F.length
    ·obtain ⟨b1,b2⟩:=las_bds h2
     have hw:=(ltr_b h1.2.2 b1).app (ltr_b h1.2.2 b2)
     have hll:=h4.2.1
     have hfl:=h1.2.1
     have hrl:=@rowsT_len l (wlO (S.map (ltr F)++R.map (ltr F))) S.length (S.length+R.length) l.length
     have hR0:=h2.2.1
     have hto:=fun Q=>C_impl_timesOn l F.length (S.map (ltr F)) (R.map (ltr F)) _ h4 (by rw [List.length_map];exact hR0) (by rw [List.length_map,List.length_map];exact h3) hw Q
     simp only [List.length_map] at hto
     have hrg:=rowsT_get (l:=l) (wl:=wlO (S.map (ltr F)++R.map (ltr F))) (s:=S.length) (m:=S.length+R.length) (k:=l.length) (a:=l.length - 1) (by omega)
     have hg0:=bR_get (m:=S.length+R.length) (i:=0) (ρ:=pf l (wlO (S.map (ltr F)++R.map (ltr F))) S.length (S.length+R.length) l.length (l.length - 1)) (by omega)
     simp+contextual(maxSteps:=1000000)(disch:=omega)only[↓Sd,↓So,↓Sk,↓den,↓denA,Sa,Sb,Sc,Se,O1.d,O2.d,O3.d,cmI,arI,envOf,putN,↓reduceIte,Nat.reduceLT,Nat.reduceSub,Nat.reduceAdd,Int.reduceAdd,Int.reduceEq,Int.reduceLT,Int.reduceLE,arr_pos,arr_neg,tr_impl_HoldsOnRun,C_impl_factsOk s F hs hF,decide_eq_true h1,C_impl_LassoValid s S R hs h,dB_t h2,C_impl_TimesValid l F.length hf,decide_eq_true h4,C_impl_word F S s.1.length hfl hb1 h1.2.2 b1,C_impl_word F R s.1.length hfl hb2 h1.2.2 b2,hto,hrl,hrg,bR_len,hg0,bt_one]
     rw [←hK,dB_t (show fOk s F∧lasK s S R∧tV l F.length∧S.length+R.length≤60 from ⟨h1,h2,h4,h3⟩),hoV,List.length_map,List.length_map]
     rfl
    ·simp+contextual(maxSteps:=1000000)(disch:=omega)only[↓Sd,↓So,↓Sk,↓den,↓denA,Sa,Sb,Sc,Se,O1.d,O2.d,O3.d,cmI,arI,envOf,putN,↓reduceIte,Nat.reduceLT,Nat.reduceSub,Nat.reduceAdd,Int.reduceAdd,Int.reduceEq,Int.reduceLT,Int.reduceLE,arr_pos,arr_neg,tr_impl_HoldsOnRun,C_impl_factsOk s F hs hF,decide_eq_true h1,C_impl_LassoValid s S R hs h,dB_t h2,C_impl_TimesValid l F.length hf,decide_eq_false h4]
     exact no fun g=>h4 g.2.2.1
   ·simp+contextual(maxSteps:=1000000)(disch:=omega)only[↓Sd,↓So,↓Sk,↓den,↓denA,Sa,Sb,Sc,Se,O1.d,O2.d,O3.d,cmI,arI,envOf,putN,↓reduceIte,Nat.reduceLT,Nat.reduceSub,Nat.reduceAdd,Int.reduceAdd,Int.reduceEq,Int.reduceLT,Int.reduceLE,arr_pos,arr_neg,tr_impl_HoldsOnRun,C_impl_factsOk s F hs hF,decide_eq_true h1,C_impl_LassoValid s S R hs h,dB_t h2]
    exact no fun g=>h3 g.2.2.2
  ·simp+contextual(maxSteps:=1000000)(disch:=omega)only[↓Sd,↓So,↓Sk,↓den,↓denA,Sa,Sb,Sc,Se,O1.d,O2.d,O3.d,cmI,arI,envOf,putN,↓reduceIte,Nat.reduceLT,Nat.reduceSub,Nat.reduceAdd,Int.reduceAdd,Int.reduceEq,Int.reduceLT,Int.reduceLE,arr_pos,arr_neg,tr_impl_HoldsOnRun,C_impl_factsOk s F hs hF,decide_eq_true h1,C_impl_LassoValid s S R hs h,dB_f h2]
   exact no fun g=>h2 g.2.1
 ·simp+contextual(maxSteps:=1000000)(disch:=omega)only[↓Sd,↓So,↓Sk,↓den,↓denA,Sa,Sb,Sc,Se,O1.d,O2.d,O3.d,cmI,arI,envOf,putN,↓reduceIte,Nat.reduceLT,Nat.reduceSub,Nat.reduceAdd,Int.reduceAdd,Int.reduceEq,Int.reduceLT,Int.reduceLE,arr_pos,arr_neg,tr_impl_HoldsOnRun,C_impl_factsOk s F hs hF,decide_eq_false h1]
  exact no fun g=>h1 g.1
end Go.Proofs.YtdgpohclhppodaaGreat
namespace Go.Proofs.YtdgpohclhppodaaGreat
open Go Go.Sm Go.Sm.Q
set_option linter.unusedSimpArgs false
set_option linter.unusedVariables false
theorem C_spec_HoldsOnRun (s:Sy) (F:List (List Tm)) (l:List Tm) (S R:List (List Int)) (hs:FewSy s) (hF:FewSS F) (hf:Few l) (h:SRok S R) (Q:List AV→Prop):mc.C f_spec_HoldsOnRun [⟨L V3,s.1⟩,⟨L TR,s.2⟩,⟨L (L T4),F⟩,⟨L T4,l⟩,⟨L (L I),S⟩,⟨L (L I),R⟩] Q=Q [⟨B,hrB s F l S R⟩]:=by
 refine Mc.Ends.c (mc.ends F_spec_HoldsOnRun ?_)
 generalize hK:hrB s F l S R=K
 have hb1:=h.1.1
 have hb2:=h.2.1
 unfold hrB at hK
 have no:¬(fOk s F∧lasK s S R∧tV l F.length∧S.length+R.length≤60)→false=K:=fun g=>by rw [←hK,dB_f g];rfl
 by_cases h1:fOk s F
 ·by_cases h2:lasK s S R
  ·obtain ⟨b1,b2⟩:=las_bds h2
   have hfl:=h1.2.1
   have hR0:=h2.2.1
   have hsr:=h2.2.2.1
   have l1:=ltr_b h1.2.2 b1
   have l2:=ltr_b h1.2.2 b2
   simp+contextual(maxSteps:=1000000)(disch:=omega)only[↓Sd,↓So,↓Sk,↓den,↓denA,Sa,Sb,Sc,Se,O1.d,O2.d,O3.d,cmI,arI,envOf,putN,↓reduceIte,Nat.reduceLT,Nat.reduceSub,Nat.reduceAdd,Int.reduceAdd,Int.reduceEq,Int.reduceLT,Int.reduceLE,arr_pos,arr_neg,tr_spec_HoldsOnRun,C_spec_l20Facts s F hs hF,decide_eq_true h1,C_spec_LassoValid s S R hs h,dB_t h2]
   refine mc.lp_for (List (List Int)) (fun i o=>[⟨L (L T4),F⟩,⟨L T4,l⟩,⟨L (L I),S⟩,⟨L (L I),R⟩,⟨I,(i:Int)⟩,⟨L (L I),o⟩,⟨L (L I),[]⟩]) (fun i o=>o=(S.take i).map (ltr F)) S.length 0 [] _ rfl (Nat.zero_le _) rfl ?_ ?_
   ·rintro i o hi rfl
    obtain ⟨x1,x2⟩:=b1 _ (getD_mem (d:=[]) hi)
    have hml:((S.take i).map (ltr F)).length≤1048576:=by rw [List.length_map,List.length_take];omega
    have hnx:(S.take (i+1)).map (ltr F)=(S.take i).map (ltr F)++[ltr F (S.getD i [])]:=by
     rw [List.take_succ_eq_append_getElem hi,List.map_append,getD_lt hi];rfl
    rw [hnx]
    simp+contextual(maxSteps:=1000000)(disch:=omega)only[↓Sd,↓So,↓Sk,↓den,↓denA,Sa,Sb,Sc,Se,O1.d,O2.d,O3.d,cmI,arI,envOf,putN,↓reduceIte,Nat.reduceLT,Nat.reduceSub,Nat.reduceAdd,Int.reduceAdd,Int.reduceEq,Int.reduceLT,Int.reduceLE,arr_pos,arr_neg,C_spec_l20Of F (S.getD i []) hfl (by rw [x1];exact h1.2.2) x2]
   rintro o rfl
   rw [List.take_length]
   simp+contextual(maxSteps:=1000000)(disch:=omega)only[↓Sd,↓So,↓Sk,↓den,↓denA,Sa,Sb,Sc,Se,O1.d,O2.d,O3.d,cmI,arI,envOf,putN,↓reduceIte,Nat.reduceLT,Nat.reduceSub,Nat.reduceAdd,Int.reduceAdd,Int.reduceEq,Int.reduceLT,Int.reduceLE,arr_pos,arr_neg,]
   refine mc.lp_for (List (List Int)) (fun i o=>[⟨L (L T4),F⟩,⟨L T4,l⟩,⟨L (L I),R⟩,⟨I,(i:Int)⟩,⟨L (L I),S.map (ltr F)⟩,⟨L (L I),o⟩]) (fun i o=>o=(R.take i).map (ltr F)) R.length 0 [] _ rfl (Nat.zero_le _) rfl ?_ ?_
   ·rintro i o hi rfl
    obtain ⟨x1,x2⟩:=b2 _ (getD_mem (d:=[]) hi)
    have hml:((R.take i).map (ltr F)).length≤1048576:=by rw [List.length_map,List.length_take];omega
    have hnx:(R.take (i+1)).map (ltr F)=(R.take i).map (ltr F)++[ltr F (R.getD i [])]:=by
     rw [List.take_succ_eq_append_getElem hi,List.map_append,getD_lt hi];rfl
    rw [hnx]
    simp+contextual(maxSteps:=1000000)(disch:=omega)only[↓Sd,↓So,↓Sk,↓den,↓denA,Sa,Sb,Sc,Se,O1.d,O2.d,O3.d,cmI,arI,envOf,putN,↓reduceIte,Nat.reduceLT,Nat.reduceSub,Nat.reduceAdd,Int.reduceAdd,Int.reduceEq,Int.reduceLT,Int.reduceLE,arr_pos,arr_neg,C_spec_l20Of F (R.getD i []) hfl (by rw [x1];exact h1.2.2) x2]
   rintro o rfl
   rw [List.take_length]
   simp+contextual(maxSteps:=1000000)(disch:=omega)only[↓Sd,↓So,↓Sk,↓den,↓denA,Sa,Sb,Sc,Se,O1.d,O2.d,O3.d,cmI,arI,envOf,putN,↓reduceIte,Nat.reduceLT,Nat.reduceSub,Nat.reduceAdd,Int.reduceAdd,Int.reduceEq,Int.reduceLT,Int.reduceLE,arr_pos,arr_neg,C_spec_HoldsOn_b l F.length (S.map (ltr F)) (R.map (ltr F)) hf hfl (by rw [List.length_map];exact hR0) l1 l2 ⟨by rw [List.length_map];omega,by rw [List.length_map];omega⟩]
   rw [←hK,List.length_map,List.length_map]
   rw [←dB_eq]
   congr 1
   exact dB_congr ⟨fun g=>⟨h1,h2,g.1,g.2⟩,fun g=>⟨g.2.2.1,g.2.2.2⟩⟩
  ·simp+contextual(maxSteps:=1000000)(disch:=omega)only[↓Sd,↓So,↓Sk,↓den,↓denA,Sa,Sb,Sc,Se,O1.d,O2.d,O3.d,cmI,arI,envOf,putN,↓reduceIte,Nat.reduceLT,Nat.reduceSub,Nat.reduceAdd,Int.reduceAdd,Int.reduceEq,Int.reduceLT,Int.reduceLE,arr_pos,arr_neg,tr_spec_HoldsOnRun,C_spec_l20Facts s F hs hF,decide_eq_true h1,C_spec_LassoValid s S R hs h,dB_f h2]
   exact no fun g=>h2 g.2.1
 ·simp+contextual(maxSteps:=1000000)(disch:=omega)only[↓Sd,↓So,↓Sk,↓den,↓denA,Sa,Sb,Sc,Se,O1.d,O2.d,O3.d,cmI,arI,envOf,putN,↓reduceIte,Nat.reduceLT,Nat.reduceSub,Nat.reduceAdd,Int.reduceAdd,Int.reduceEq,Int.reduceLT,Int.reduceLE,arr_pos,arr_neg,tr_spec_HoldsOnRun,C_spec_l20Facts s F hs hF,decide_eq_false h1]
  exact no fun g=>h1 g.1
theorem D_l2Some (b:List Int) (p:Int) (s:Sy) (hb:Rdy b) (hp:0≤p∧p≤600000000) (hs:SmSy s) {Q:List AV→Prop} (h:∀(l:List Int) (p':Int),p≤p'∧p'≤p+100→l.length≤10→Q [⟨L I,l⟩,⟨RD,(b,p')⟩]):mc.C f_spec_l2Some [⟨RD,(b,p)⟩,⟨L V3,s.1⟩,⟨L TR,s.2⟩] Q:=by
 have h3:=hs.1
 refine mc.c_of F_spec_l2Some ?_
 simp+contextual(maxSteps:=1000000)(disch:=omega)only[↓Sd,↓So,↓Sk,↓den,↓denA,Sa,Sb,Sc,Se,O1.d,O2.d,O3.d,cmI,arI,envOf,putN,↓reduceIte,Nat.reduceLT,Nat.reduceSub,Nat.reduceAdd,Int.reduceAdd,Int.reduceEq,Int.reduceLT,Int.reduceLE,arr_pos,arr_neg,tr_spec_l2Some]
 refine mc.lp_for (List Int×Int) (fun i o=>[⟨I,(i:Int)⟩,⟨L U,b⟩,⟨I,o.2⟩,⟨L V3,s.1⟩,⟨L TR,s.2⟩,⟨L I,o.1⟩]) (fun i o=>o.1.length=i∧p≤o.2∧o.2≤p+2 * i) s.1.length 0 ([],p) _ rfl (Nat.zero_le _) ⟨rfl,by omega,by omega⟩ ?_ ?_
 ·rintro i ⟨o,p1⟩ hi ⟨e1,e2,e3⟩
  simp only at e1 e2 e3
  simp+contextual(maxSteps:=1000000)(disch:=omega)only[↓Sd,↓So,↓Sk,↓den,↓denA,Sa,Sb,Sc,Se,O1.d,O2.d,O3.d,cmI,arI,envOf,putN,↓reduceIte,Nat.reduceLT,Nat.reduceSub,Nat.reduceAdd,Int.reduceAdd,Int.reduceEq,Int.reduceLT,Int.reduceLE,arr_pos,arr_neg,]
  refine mc.wp_join (fun us=>∃(x p2:Int),us=[⟨I,(i:Int)⟩,⟨I,x⟩,⟨L U,b⟩,⟨I,p2⟩,⟨L V3,s.1⟩,⟨L TR,s.2⟩,⟨L I,o⟩]∧p1≤p2∧p2≤p1+2) ?_ ?_
  ·simp+contextual(maxSteps:=1000000)(disch:=omega)only[↓Sd,↓So,↓Sk,↓den,↓denA,Sa,Sb,Sc,Se,O1.d,O2.d,O3.d,cmI,arI,envOf,putN,↓reduceIte,Nat.reduceLT,Nat.reduceSub,Nat.reduceAdd,Int.reduceAdd,Int.reduceEq,Int.reduceLT,Int.reduceLE,arr_pos,arr_neg,]
   refine ⟨fun _=>⟨fun _=>?_,fun _=>⟨_,_,⟨rfl,rfl⟩,by omega,by omega⟩⟩,fun _=>⟨_,_,⟨rfl,rfl⟩,by omega,by omega⟩⟩
   refine D_pick _ _ _ hb (by omega) fun v _ _=>?_
   simp+contextual(maxSteps:=1000000)(disch:=omega)only[↓Sd,↓So,↓Sk,↓den,↓denA,Sa,Sb,Sc,Se,O1.d,O2.d,O3.d,cmI,arI,envOf,putN,↓reduceIte,Nat.reduceLT,Nat.reduceSub,Nat.reduceAdd,Int.reduceAdd,Int.reduceEq,Int.reduceLT,Int.reduceLE,arr_pos,arr_neg,]
   exact ⟨_,_,⟨rfl,rfl⟩,by omega,by omega⟩
  ·rintro us ⟨x,p2,rfl,c1,c2⟩
   simp+contextual(maxSteps:=1000000)(disch:=omega)only[↓Sd,↓So,↓Sk,↓den,↓denA,Sa,Sb,Sc,Se,O1.d,O2.d,O3.d,cmI,arI,envOf,putN,↓reduceIte,Nat.reduceLT,Nat.reduceSub,Nat.reduceAdd,Int.reduceAdd,Int.reduceEq,Int.reduceLT,Int.reduceLE,arr_pos,arr_neg,]
   exact ⟨(_,_),⟨rfl,rfl⟩,by simp [e1],by simp only;omega,by simp only;omega⟩
 ·rintro ⟨o,p1⟩ ⟨e1,e2,e3⟩
  simp only at e1 e2 e3
  simp+contextual(maxSteps:=1000000)(disch:=omega)only[↓Sd,↓So,↓Sk,↓den,↓denA,Sa,Sb,Sc,Se,O1.d,O2.d,O3.d,cmI,arI,envOf,putN,↓reduceIte,Nat.reduceLT,Nat.reduceSub,Nat.reduceAdd,Int.reduceAdd,Int.reduceEq,Int.reduceLT,Int.reduceLE,arr_pos,arr_neg,]
  refine mc.wp_join (fun us=>∃(p2:Int) (l:List Int),us=[⟨L U,b⟩,⟨I,p2⟩,⟨L I,l⟩]∧p1≤p2∧p2≤p1+10∧l.length≤10) ?_ ?_
  ·simp+contextual(maxSteps:=1000000)(disch:=omega)only[↓Sd,↓So,↓Sk,↓den,↓denA,Sa,Sb,Sc,Se,O1.d,O2.d,O3.d,cmI,arI,envOf,putN,↓reduceIte,Nat.reduceLT,Nat.reduceSub,Nat.reduceAdd,Int.reduceAdd,Int.reduceEq,Int.reduceLT,Int.reduceLE,arr_pos,arr_neg,]
   refine D_pick1 _ _ _ hb (by omega) (by omega) fun x x0 x1=>?_;simp+contextual(maxSteps:=1000000)(disch:=omega)only[↓Sd,↓So,↓Sk,↓den,↓denA,Sa,Sb,Sc,Se,O1.d,O2.d,O3.d,cmI,arI,envOf,putN,↓reduceIte,Nat.reduceLT,Nat.reduceSub,Nat.reduceAdd,Int.reduceAdd,Int.reduceEq,Int.reduceLT,Int.reduceLE,arr_pos,arr_neg,]
   refine ⟨fun _=>?_,fun _=>⟨_,_,⟨rfl,rfl⟩,by omega,by omega,by omega⟩⟩
   refine D_pick1 _ _ _ hb (by omega) (by omega) fun y y0 y1=>?_;simp+contextual(maxSteps:=1000000)(disch:=omega)only[↓Sd,↓So,↓Sk,↓den,↓denA,Sa,Sb,Sc,Se,O1.d,O2.d,O3.d,cmI,arI,envOf,putN,↓reduceIte,Nat.reduceLT,Nat.reduceSub,Nat.reduceAdd,Int.reduceAdd,Int.reduceEq,Int.reduceLT,Int.reduceLE,arr_pos,arr_neg,]
   refine ⟨fun _=>⟨_,_,⟨rfl,rfl⟩,by omega,by omega,by simp;omega⟩,fun _=>⟨fun _=>⟨_,_,⟨rfl,rfl⟩,by omega,by omega,by simp;omega⟩,fun _=>⟨_,_,⟨rfl,rfl⟩,by omega,by omega,by simp;omega⟩⟩⟩
  ·rintro us ⟨p2,l,rfl,c1,c2,c3⟩
   simp+contextual(maxSteps:=1000000)(disch:=omega)only[↓Sd,↓So,↓Sk,↓den,↓denA,Sa,Sb,Sc,Se,O1.d,O2.d,O3.d,cmI,arI,envOf,putN,↓reduceIte,Nat.reduceLT,Nat.reduceSub,Nat.reduceAdd,Int.reduceAdd,Int.reduceEq,Int.reduceLT,Int.reduceLE,arr_pos,arr_neg,]
   exact h l p2 (by omega) c3
structure Tj where
 c:Nat
 o:Nat→Nat
 lw:Nat→Nat
 st:List Nat
 out:Nat→Int
structure TInv (U:List (List Int)) (n:Nat) (p:Nat→Bool) (s:Tj) (G:List Nat):Prop where
 lt:∀k,s.o k≠0→k<n∧p k=true
 cnt:∀k,s.o k≤s.c
 stv:∀k,k∈s.st↔s.o k≠0∧s.out k<0
 ord:s.st.Pairwise (fun a b=>s.o a<s.o b)
 outs:∀k,s.out k<0→s.out k = -1
 outv:∀k,0≤s.out k→s.o k≠0
 clsd:∀k y:Nat,0≤s.out k→(y:Int)∈U.getD k []→0≤s.out y
 outc:∀k,0≤s.out k→s.out k=cmp U n k
 blk:∀k y:Nat,s.o k≠0→k∉G→(y:Int)∈U.getD k []→s.o y≠0
 gst:∀g∈G,g∈s.st
 low:∀y∈s.st,∃g∈G,s.o g≤s.o y∧Rch U [(y:Int)] g
 acc:∀g∈G,∀y∈s.st,s.o g≤s.o y→Rch U [(g:Int)] y
 cc:s.c+cntF (fun k=>decide (s.o k≠0)) n≤n
 len:s.st.length≤s.c
theorem TInv.few {U:List (List Int)} {n:Nat} {p:Nat→Bool} {s:Tj} {G:List Nat} (h:TInv U n p s G):s.c≤n∧s.st.length≤n:=by
 have h1:=h.cc
 have h2:=h.len
 omega
theorem D_l3Laced (b:List Int) (hb:Byt b) (hl:Lt63 b) {Q:List AV→Prop} (h:∀(b':List Int) (p:Int) (s:Sy) (S R:List (List Int)),Rdy b'→0≤p∧p≤200000→SmSy s→S.length≤30→R.length≤30→(∀x∈S,x.length≤20)→(∀x∈R,x.length≤20)→Q [⟨RD,(b',p)⟩,⟨L V3,s.1⟩,⟨L TR,s.2⟩,⟨L (L I),S⟩,⟨L (L I),R⟩]) :
  mc.C f_spec_l3Laced [⟨L U,b⟩] Q:=by
 refine mc.c_of F_spec_l3Laced ?_
 simp+contextual(maxSteps:=1000000)(disch:=omega)only[↓Sd,↓So,↓Sk,↓den,↓denA,Sa,Sb,Sc,Se,O1.d,O2.d,O3.d,cmI,arI,envOf,putN,↓reduceIte,Nat.reduceLT,Nat.reduceSub,Nat.reduceAdd,Int.reduceAdd,Int.reduceEq,Int.reduceLT,Int.reduceLE,arr_pos,arr_neg,tr_spec_l3Laced]
 refine D_open b hb hl fun b hb=>?_
 simp+contextual(maxSteps:=1000000)(disch:=omega)only[↓Sd,↓So,↓Sk,↓den,↓denA,Sa,Sb,Sc,Se,O1.d,O2.d,O3.d,cmI,arI,envOf,putN,↓reduceIte,Nat.reduceLT,Nat.reduceSub,Nat.reduceAdd,Int.reduceAdd,Int.reduceEq,Int.reduceLT,Int.reduceLE,arr_pos,arr_neg,]
 refine D_l2Any _ _ _ hb (by omega) fun s p1 hp1 hs=>?_
 have hf:=hs.few
 have h3:=hs.1
 by_cases hv:valid s
 ·have hfi:=fst0_in hv.2.2.1
  have hin:∀x,inR s.1 x→x.length≤3:=fun x hx=>by have:=hx.1;omega
  simp+contextual(maxSteps:=1000000)(disch:=omega)only[↓Sd,↓So,↓Sk,↓den,↓denA,Sa,Sb,Sc,Se,O1.d,O2.d,O3.d,cmI,arI,envOf,putN,↓reduceIte,Nat.reduceLT,Nat.reduceSub,Nat.reduceAdd,Int.reduceAdd,Int.reduceEq,Int.reduceLT,Int.reduceLE,arr_pos,arr_neg,C_spec_SystemValid s hf,hv,decide_true,Bool.not_true,C_spec_FirstState s hf hv]
  refine mc.wp_join (fun us=>∃(a:Int) (T:List (List Int)) (p2:Int),us=[⟨I,a⟩,⟨L (L I),T⟩,⟨L U,b⟩,⟨I,p2⟩,⟨L V3,s.1⟩,⟨L TR,s.2⟩]∧(-1≤a∧a<(T.length:Int))∧(1≤T.length∧T.length≤25)∧(∀x∈T,inR s.1 x)∧p1≤p2∧p2≤p1+24) ?_ ?_
  ·simp+contextual(maxSteps:=1000000)(disch:=omega)only[↓Sd,↓So,↓Sk,↓den,↓denA,Sa,Sb,Sc,Se,O1.d,O2.d,O3.d,cmI,arI,envOf,putN,↓reduceIte,Nat.reduceLT,Nat.reduceSub,Nat.reduceAdd,Int.reduceAdd,Int.reduceEq,Int.reduceLT,Int.reduceLE,arr_pos,arr_neg,]
   refine mc.lp_inv (fun k us=>∃(a:Int) (i:Nat) (p2:Int) (T:List (List Int)),us=[⟨I,a⟩,⟨I,(i:Int)⟩,⟨L U,b⟩,⟨I,p2⟩,⟨L V3,s.1⟩,⟨L TR,s.2⟩,⟨L (L I),T⟩,⟨L V3,s.1⟩,⟨L TR,s.2⟩]∧(-1≤a∧a<(T.length:Int))∧(1≤T.length∧T.length≤i+1)∧i≤24∧(∀x∈T,inR s.1 x)∧(p1≤p2∧p2≤p1+i)∧k=24 - i)
    _ _ ⟨-1,0,p1,[fst0 s.1],rfl,by simp,by simp,by omega,fun x hx=>by rw [List.mem_singleton.1 hx];exact hfi,by omega,rfl⟩ ?_
   rintro k us ⟨a,i,p2,T,rfl,ha,hT,hi24,hTi,hp2,rfl⟩
   by_cases hi:i<24
   ·by_cases han:a<0
    ·simp+contextual(maxSteps:=1000000)(disch:=omega)only[↓Sd,↓So,↓Sk,↓den,↓denA,Sa,Sb,Sc,Se,O1.d,O2.d,O3.d,cmI,arI,envOf,putN,↓reduceIte,Nat.reduceLT,Nat.reduceSub,Nat.reduceAdd,Int.reduceAdd,Int.reduceEq,Int.reduceLT,Int.reduceLE,arr_pos,arr_neg,]
     refine mc.wp_join (fun us=>∃(a':Int) (T':List (List Int)) (p':Int),us=[⟨I,a'⟩,⟨I,(i:Int)⟩,⟨L U,b⟩,⟨I,p'⟩,⟨L V3,s.1⟩,⟨L TR,s.2⟩,⟨L (L I),T'⟩,⟨L V3,s.1⟩,⟨L TR,s.2⟩]∧(-1≤a'∧a'<(T'.length:Int))∧(1≤T'.length∧T'.length≤i+2)∧(∀x∈T',inR s.1 x)∧p1≤p'∧p'≤p1+i+1) ?_ ?_
     ·obtain ⟨m,hm⟩:∃m,T.length=m+1:=⟨T.length - 1,by omega⟩
      have hm2:(T.length:Int) - 1=(m:Int):=by omega
      have hla:=hTi _ (getD_mem (d:=[]) (show m<T.length by omega))
      have hl3:=hin _ hla
      have hnl:=nxt_len (st:=T.getD m []) hv
      simp+contextual(maxSteps:=1000000)(disch:=omega)only[↓Sd,↓So,↓Sk,↓den,↓denA,Sa,Sb,Sc,Se,O1.d,O2.d,O3.d,cmI,arI,envOf,putN,↓reduceIte,Nat.reduceLT,Nat.reduceSub,Nat.reduceAdd,Int.reduceAdd,Int.reduceEq,Int.reduceLT,Int.reduceLE,arr_pos,arr_neg,hm2,Int.toNat_natCast,C_spec_l2Next s (T.getD m []) hv hla,C_spec_l3Copy (T.getD m []) (by omega)]
      refine mc.wp_join (fun us=>∃(x:List Int) (p':Int),us=[⟨I,a⟩,⟨I,(i:Int)⟩,⟨L I,x⟩,⟨L U,b⟩,⟨I,p'⟩,⟨L V3,s.1⟩,⟨L TR,s.2⟩,⟨L (L I),T⟩,⟨L V3,s.1⟩,⟨L TR,s.2⟩]∧inR s.1 x∧p1≤p'∧p'≤p1+i+1) ?_ ?_
      ·by_cases hn:0<(nxt s (T.getD m [])).length
       ·simp+contextual(maxSteps:=1000000)(disch:=omega)only[↓Sd,↓So,↓Sk,↓den,↓denA,Sa,Sb,Sc,Se,O1.d,O2.d,O3.d,cmI,arI,envOf,putN,↓reduceIte,Nat.reduceLT,Nat.reduceSub,Nat.reduceAdd,Int.reduceAdd,Int.reduceEq,Int.reduceLT,Int.reduceLE,arr_pos,arr_neg,]
        refine D_pick1 _ _ _ hb (by omega) (by omega) fun q q0 q1=>?_
        simp+contextual(maxSteps:=1000000)(disch:=omega)only[↓Sd,↓So,↓Sk,↓den,↓denA,Sa,Sb,Sc,Se,O1.d,O2.d,O3.d,cmI,arI,envOf,putN,↓reduceIte,Nat.reduceLT,Nat.reduceSub,Nat.reduceAdd,Int.reduceAdd,Int.reduceEq,Int.reduceLT,Int.reduceLE,arr_pos,arr_neg,]
        exact ⟨_,_,⟨rfl,rfl⟩,nxt_in _ (getD_mem (by omega)),by omega,by omega⟩
       ·simp+contextual(maxSteps:=1000000)(disch:=omega)only[↓Sd,↓So,↓Sk,↓den,↓denA,Sa,Sb,Sc,Se,O1.d,O2.d,O3.d,cmI,arI,envOf,putN,↓reduceIte,Nat.reduceLT,Nat.reduceSub,Nat.reduceAdd,Int.reduceAdd,Int.reduceEq,Int.reduceLT,Int.reduceLE,arr_pos,arr_neg,]
        exact ⟨_,_,⟨rfl,rfl⟩,hla,by omega,by omega⟩
      ·rintro us ⟨x,p',rfl,hx,hp1',hp2'⟩
       have hx3:=hin _ hx
       simp+contextual(maxSteps:=1000000)(disch:=omega)only[↓Sd,↓So,↓Sk,↓den,↓denA,Sa,Sb,Sc,Se,O1.d,O2.d,O3.d,cmI,arI,envOf,putN,↓reduceIte,Nat.reduceLT,Nat.reduceSub,Nat.reduceAdd,Int.reduceAdd,Int.reduceEq,Int.reduceLT,Int.reduceLE,arr_pos,arr_neg,]
       refine mc.lp_for Int (fun k a'=>[⟨I,a'⟩,⟨I,(i:Int)⟩,⟨L I,x⟩,⟨I,(k:Int)⟩,⟨L U,b⟩,⟨I,p'⟩,⟨L V3,s.1⟩,⟨L TR,s.2⟩,⟨L (L I),T⟩,⟨L V3,s.1⟩,⟨L TR,s.2⟩]) (fun _ a' => -1≤a'∧a'<(T.length:Int)) T.length 0 a _ rfl (Nat.zero_le _) ha ?_ ?_
       ·rintro k a' hk ha'
        have hk3:=hin _ (hTi _ (getD_mem (d:=[]) hk))
        by_cases he:T.getD k []=x
        ·simp+contextual(maxSteps:=1000000)(disch:=omega)only[↓Sd,↓So,↓Sk,↓den,↓denA,Sa,Sb,Sc,Se,O1.d,O2.d,O3.d,cmI,arI,envOf,putN,↓reduceIte,Nat.reduceLT,Nat.reduceSub,Nat.reduceAdd,Int.reduceAdd,Int.reduceEq,Int.reduceLT,Int.reduceLE,arr_pos,arr_neg,↓wpJoin,C_spec_l2Same (T.getD k []) x (by omega) (by omega),decide_eq_true he]
         first | exact hk | omega
        ·simp+contextual(maxSteps:=1000000)(disch:=omega)only[↓Sd,↓So,↓Sk,↓den,↓denA,Sa,Sb,Sc,Se,O1.d,O2.d,O3.d,cmI,arI,envOf,putN,↓reduceIte,Nat.reduceLT,Nat.reduceSub,Nat.reduceAdd,Int.reduceAdd,Int.reduceEq,Int.reduceLT,Int.reduceLE,arr_pos,arr_neg,↓wpJoin,C_spec_l2Same (T.getD k []) x (by omega) (by omega),decide_eq_false he]
         exact ha'
       ·rintro a' ha'
        by_cases hn:a'<0
        ·simp+contextual(maxSteps:=1000000)(disch:=omega)only[↓Sd,↓So,↓Sk,↓den,↓denA,Sa,Sb,Sc,Se,O1.d,O2.d,O3.d,cmI,arI,envOf,putN,↓reduceIte,Nat.reduceLT,Nat.reduceSub,Nat.reduceAdd,Int.reduceAdd,Int.reduceEq,Int.reduceLT,Int.reduceLE,arr_pos,arr_neg,]
         refine ⟨_,_,_,⟨rfl,rfl,rfl⟩,by rw [List.length_append,List.length_singleton];omega,by rw [List.length_append,List.length_singleton];omega,fun y hy=>?_,by omega,by omega⟩
         rcases List.mem_append.1 hy with hy | hy
         ·exact hTi y hy
         ·rw [List.mem_singleton.1 hy];exact hx
        ·simp+contextual(maxSteps:=1000000)(disch:=omega)only[↓Sd,↓So,↓Sk,↓den,↓denA,Sa,Sb,Sc,Se,O1.d,O2.d,O3.d,cmI,arI,envOf,putN,↓reduceIte,Nat.reduceLT,Nat.reduceSub,Nat.reduceAdd,Int.reduceAdd,Int.reduceEq,Int.reduceLT,Int.reduceLE,arr_pos,arr_neg,]
         exact ⟨_,_,_,⟨rfl,rfl,rfl⟩,ha',by omega,hTi,by omega,by omega⟩
     ·rintro us ⟨a',T',p',rfl,c1,c2,c3,c4,c5⟩
      simp+contextual(maxSteps:=1000000)(disch:=omega)only[↓Sd,↓So,↓Sk,↓den,↓denA,Sa,Sb,Sc,Se,O1.d,O2.d,O3.d,cmI,arI,envOf,putN,↓reduceIte,Nat.reduceLT,Nat.reduceSub,Nat.reduceAdd,Int.reduceAdd,Int.reduceEq,Int.reduceLT,Int.reduceLE,arr_pos,arr_neg,]
      exact ⟨_,by omega,a',i+1,p',T',⟨rfl,by simp,rfl,rfl⟩,c1,by omega,by omega,c3,by omega,rfl⟩
    ·simp+contextual(maxSteps:=1000000)(disch:=omega)only[↓Sd,↓So,↓Sk,↓den,↓denA,Sa,Sb,Sc,Se,O1.d,O2.d,O3.d,cmI,arI,envOf,putN,↓reduceIte,Nat.reduceLT,Nat.reduceSub,Nat.reduceAdd,Int.reduceAdd,Int.reduceEq,Int.reduceLT,Int.reduceLE,arr_pos,arr_neg,]
     exact ⟨a,T,p2,⟨rfl,rfl,rfl⟩,ha,by omega,hTi,by omega,by omega⟩
   ·simp+contextual(maxSteps:=1000000)(disch:=omega)only[↓Sd,↓So,↓Sk,↓den,↓denA,Sa,Sb,Sc,Se,O1.d,O2.d,O3.d,cmI,arI,envOf,putN,↓reduceIte,Nat.reduceLT,Nat.reduceSub,Nat.reduceAdd,Int.reduceAdd,Int.reduceEq,Int.reduceLT,Int.reduceLE,arr_pos,arr_neg,]
    exact ⟨a,T,p2,⟨rfl,rfl,rfl⟩,ha,by omega,hTi,by omega,by omega⟩
  ·rintro us ⟨a,T,p2,rfl,ha,hT,hTi,hp2,hp3⟩
   have hsub:∀(c d:Nat) (x:List Int),x∈(T.take c).drop d→x.length≤20:=fun c d x hx=>by
    have:=hin x (hTi x (List.mem_of_mem_take (List.mem_of_mem_drop hx)));omega
   refine mc.wp_join (fun us=>∃c:Nat,us=[⟨I,(c:Int)⟩,⟨L (L I),T⟩,⟨L U,b⟩,⟨I,p2⟩,⟨L V3,s.1⟩,⟨L TR,s.2⟩]∧c<T.length) ?_ ?_
   ·by_cases hn:a<0
    ·simp+contextual(maxSteps:=1000000)(disch:=omega)only[↓Sd,↓So,↓Sk,↓den,↓denA,Sa,Sb,Sc,Se,O1.d,O2.d,O3.d,cmI,arI,envOf,putN,↓reduceIte,Nat.reduceLT,Nat.reduceSub,Nat.reduceAdd,Int.reduceAdd,Int.reduceEq,Int.reduceLT,Int.reduceLE,arr_pos,arr_neg,]
     exact ⟨0,rfl,by omega⟩
    ·obtain ⟨c,rfl⟩:∃c:Nat,a=(c:Int):=⟨a.toNat,by omega⟩
     simp+contextual(maxSteps:=1000000)(disch:=omega)only[↓Sd,↓So,↓Sk,↓den,↓denA,Sa,Sb,Sc,Se,O1.d,O2.d,O3.d,cmI,arI,envOf,putN,↓reduceIte,Nat.reduceLT,Nat.reduceSub,Nat.reduceAdd,Int.reduceAdd,Int.reduceEq,Int.reduceLT,Int.reduceLE,arr_pos,arr_neg,]
     exact ⟨c,rfl,by omega⟩
   ·rintro us ⟨c,rfl,hc⟩
    simp+contextual(maxSteps:=1000000)(disch:=omega)only[↓Sd,↓So,↓Sk,↓den,↓denA,Sa,Sb,Sc,Se,O1.d,O2.d,O3.d,cmI,arI,envOf,putN,↓reduceIte,Nat.reduceLT,Nat.reduceSub,Nat.reduceAdd,Int.reduceAdd,Int.reduceEq,Int.reduceLT,Int.reduceLE,arr_pos,arr_neg,]
    refine mc.wp_join (fun us=>us=[⟨I,0⟩,⟨I,(c:Int)⟩,⟨I,(c:Int)⟩,⟨I,(T.length:Int)⟩,⟨L (L I),T⟩,⟨L U,b⟩,⟨I,p2⟩,⟨L V3,s.1⟩,⟨L TR,s.2⟩]) ?_ ?_
    ·simp+contextual(maxSteps:=1000000)(disch:=omega)only[↓Sd,↓So,↓Sk,↓den,↓denA,Sa,Sb,Sc,Se,O1.d,O2.d,O3.d,cmI,arI,envOf,putN,↓reduceIte,Nat.reduceLT,Nat.reduceSub,Nat.reduceAdd,Int.reduceAdd,Int.reduceEq,Int.reduceLT,Int.reduceLE,arr_pos,arr_neg,]
    ·rintro us rfl
     refine mc.wp_join (fun us=>∃(S R:List (List Int)) (p':Int),us=[⟨L (L I),S⟩,⟨L (L I),R⟩,⟨L U,b⟩,⟨I,p'⟩,⟨L V3,s.1⟩,⟨L TR,s.2⟩]∧(0≤p'∧p'≤200000)∧(S.length≤30∧R.length≤30)∧(∀x∈S,x.length≤20)∧∀x∈R,x.length≤20) ?_ ?_
     ·have eT:T.take T.length=T:=List.take_length
      have hRl:(List.drop c (List.take T.length T)).length≤25:=by rw [eT,List.length_drop];omega
      have hRm:=hsub T.length c
      have hSm:=hsub c 0
      have hSl:(List.drop 0 (List.take c T)).length≤30:=by rw [List.drop_zero,List.length_take];omega
      simp+contextual(maxSteps:=1000000)(disch:=omega)only[↓Sd,↓So,↓Sk,↓den,↓denA,Sa,Sb,Sc,Se,O1.d,O2.d,O3.d,cmI,arI,envOf,putN,↓reduceIte,Nat.reduceLT,Nat.reduceSub,Nat.reduceAdd,Int.reduceAdd,Int.reduceEq,Int.reduceLT,Int.reduceLE,arr_pos,arr_neg,Int.toNat_natCast]
      refine D_pick1 _ _ _ hb (by omega) (by omega) fun q q0 q1=>?_;simp+contextual(maxSteps:=1000000)(disch:=omega)only[↓Sd,↓So,↓Sk,↓den,↓denA,Sa,Sb,Sc,Se,O1.d,O2.d,O3.d,cmI,arI,envOf,putN,↓reduceIte,Nat.reduceLT,Nat.reduceSub,Nat.reduceAdd,Int.reduceAdd,Int.reduceEq,Int.reduceLT,Int.reduceLE,arr_pos,arr_neg,]
      refine ⟨fun _=>?_,fun _=>?_⟩
      ·refine D_pick1 _ _ _ hb (by omega) (by omega) fun f f0 f1=>?_;simp+contextual(maxSteps:=1000000)(disch:=omega)only[↓Sd,↓So,↓Sk,↓den,↓denA,Sa,Sb,Sc,Se,O1.d,O2.d,O3.d,cmI,arI,envOf,putN,↓reduceIte,Nat.reduceLT,Nat.reduceSub,Nat.reduceAdd,Int.reduceAdd,Int.reduceEq,Int.reduceLT,Int.reduceLE,arr_pos,arr_neg,]
       refine ⟨fun _=>?_,fun _=>⟨fun _=>⟨fun _=>?_,fun _=>?_⟩,fun _=>?_⟩⟩
       ·exact ⟨_,_,_,⟨rfl,rfl,rfl⟩,by omega,⟨hSl,by simp⟩,hSm,fun x hx=>by cases hx⟩
       ·exact ⟨_,_,_,⟨rfl,rfl,rfl⟩,by omega,⟨hSl,by rw [List.length_drop];omega⟩,hSm,fun x hx=>hRm x (List.mem_of_mem_drop hx)⟩
       ·refine D_l2Some _ _ s hb (by omega) hs fun r p4 hp4 hr=>?_
        simp+contextual(maxSteps:=1000000)(disch:=omega)only[↓Sd,↓So,↓Sk,↓den,↓denA,Sa,Sb,Sc,Se,O1.d,O2.d,O3.d,cmI,arI,envOf,putN,↓reduceIte,Nat.reduceLT,Nat.reduceSub,Nat.reduceAdd,Int.reduceAdd,Int.reduceEq,Int.reduceLT,Int.reduceLE,arr_pos,arr_neg,Int.toNat_natCast]
        refine ⟨_,_,_,⟨rfl,rfl,rfl⟩,by omega,⟨hSl,by rw [List.length_append,List.length_singleton];omega⟩,hSm,fun x hx=>?_⟩
        rcases List.mem_append.1 hx with hx | hx
        ·exact hRm x hx
        ·rw [List.mem_singleton.1 hx];omega
       ·refine D_l2Some _ _ s hb (by omega) hs fun r p4 hp4 hr=>?_
        simp+contextual(maxSteps:=1000000)(disch:=omega)only[↓Sd,↓So,↓Sk,↓den,↓denA,Sa,Sb,Sc,Se,O1.d,O2.d,O3.d,cmI,arI,envOf,putN,↓reduceIte,Nat.reduceLT,Nat.reduceSub,Nat.reduceAdd,Int.reduceAdd,Int.reduceEq,Int.reduceLT,Int.reduceLE,arr_pos,arr_neg,Int.toNat_natCast]
        refine ⟨_,_,_,⟨rfl,rfl,rfl⟩,by omega,⟨hSl,by rw [List.length_append,List.length_singleton];omega⟩,hSm,fun x hx=>?_⟩
        rcases List.mem_append.1 hx with hx | hx
        ·exact hRm x hx
        ·rw [List.mem_singleton.1 hx];omega
      ·exact ⟨_,_,_,⟨rfl,rfl,rfl⟩,by omega,⟨hSl,by omega⟩,hSm,hRm⟩
     ·rintro us ⟨S,R,p',rfl,q1,q2,q3,q4⟩
      simp+contextual(maxSteps:=1000000)(disch:=omega)only[↓Sd,↓So,↓Sk,↓den,↓denA,Sa,Sb,Sc,Se,O1.d,O2.d,O3.d,cmI,arI,envOf,putN,↓reduceIte,Nat.reduceLT,Nat.reduceSub,Nat.reduceAdd,Int.reduceAdd,Int.reduceEq,Int.reduceLT,Int.reduceLE,arr_pos,arr_neg,]
      exact h b p' s S R hb q1 hs q2.1 q2.2 q3 q4
 ·simp+contextual(maxSteps:=1000000)(disch:=omega)only[↓Sd,↓So,↓Sk,↓den,↓denA,Sa,Sb,Sc,Se,O1.d,O2.d,O3.d,cmI,arI,envOf,putN,↓reduceIte,Nat.reduceLT,Nat.reduceSub,Nat.reduceAdd,Int.reduceAdd,Int.reduceEq,Int.reduceLT,Int.reduceLE,arr_pos,arr_neg,↓wpJoin,C_spec_SystemValid s hf,hv,decide_false,Bool.not_false]
  exact h b _ s [] [[0]] hb (by omega) hs (by simp) (by simp) (fun x hx=>by cases hx) (fun x hx=>by rw [List.mem_singleton.1 hx];simp)
theorem D_DrawHoldsOnRun (b:List Int) (hb:Byt b) (hl:Lt63 b) {Q:List AV→Prop} (h:∀(s:Sy) (F:List (List Tm)) (l:List Tm) (S R:List (List Int)),SmSy s→F.length≤4→(∀x∈F,x.length≤16)→l.length≤8→S.length≤30→R.length≤30→(∀x∈S,x.length≤20)→(∀x∈R,x.length≤20)→Q [⟨L V3,s.1⟩,⟨L TR,s.2⟩,⟨L (L T4),F⟩,⟨L T4,l⟩,⟨L (L I),S⟩,⟨L (L I),R⟩]) :
  mc.C f_spec_DrawHoldsOnRun [⟨L U,b⟩] Q:=by
 refine mc.c_of F_spec_DrawHoldsOnRun ?_
 simp+contextual(maxSteps:=1000000)(disch:=omega)only[↓Sd,↓So,↓Sk,↓den,↓denA,Sa,Sb,Sc,Se,O1.d,O2.d,O3.d,cmI,arI,envOf,putN,↓reduceIte,Nat.reduceLT,Nat.reduceSub,Nat.reduceAdd,Int.reduceAdd,Int.reduceEq,Int.reduceLT,Int.reduceLE,arr_pos,arr_neg,tr_spec_DrawHoldsOnRun]
 refine D_l3Laced b hb hl fun b p s S R hb hp hs hS hR hSm hRm=>?_
 simp+contextual(maxSteps:=1000000)(disch:=omega)only[↓Sd,↓So,↓Sk,↓den,↓denA,Sa,Sb,Sc,Se,O1.d,O2.d,O3.d,cmI,arI,envOf,putN,↓reduceIte,Nat.reduceLT,Nat.reduceSub,Nat.reduceAdd,Int.reduceAdd,Int.reduceEq,Int.reduceLT,Int.reduceLE,arr_pos,arr_neg,]
 refine D_l20Asked _ _ s hb (by omega) hs fun F p2 hp2 hF hFm=>?_
 simp+contextual(maxSteps:=1000000)(disch:=omega)only[↓Sd,↓So,↓Sk,↓den,↓denA,Sa,Sb,Sc,Se,O1.d,O2.d,O3.d,cmI,arI,envOf,putN,↓reduceIte,Nat.reduceLT,Nat.reduceSub,Nat.reduceAdd,Int.reduceAdd,Int.reduceEq,Int.reduceLT,Int.reduceLE,arr_pos,arr_neg,]
 refine D_l20Any _ _ _ _ hb (by omega) fun l p3 hp3 _ hl8=>?_
 simp+contextual(maxSteps:=1000000)(disch:=omega)only[↓Sd,↓So,↓Sk,↓den,↓denA,Sa,Sb,Sc,Se,O1.d,O2.d,O3.d,cmI,arI,envOf,putN,↓reduceIte,Nat.reduceLT,Nat.reduceSub,Nat.reduceAdd,Int.reduceAdd,Int.reduceEq,Int.reduceLT,Int.reduceLE,arr_pos,arr_neg,↓wpJoin,]
 exact h s F l S R hs hF hFm hl8 hS hR hSm hRm
theorem C_impl_LettersOf_r (s:Sy) (F:List (List Tm)) (x:List Int) (hs:FewSy s) (hF:FewSS F) (hx:x.length≤1048576) (Q:List AV→Prop):mc.C f_impl_LettersOf [⟨L V3,s.1⟩,⟨L TR,s.2⟩,⟨L (L T4),F⟩,⟨L I,x⟩] Q=Q [⟨L I,if fOk s F∧inR s.1 x then ltr F x else []⟩]:=by
 refine Mc.Ends.c (mc.ends F_impl_LettersOf ?_)
 by_cases h1:fOk s F
 ·have h5:=h1.1.1.2
  by_cases h2:inR s.1 x
  ·have hll:(ltr F x).length=F.length:=tab_len
   have hfl:=h1.2.1
   simp+contextual(maxSteps:=1000000)(disch:=omega)only[↓Sd,↓So,↓Sk,↓den,↓denA,Sa,Sb,Sc,Se,O1.d,O2.d,O3.d,cmI,arI,envOf,putN,↓reduceIte,Nat.reduceLT,Nat.reduceSub,Nat.reduceAdd,Int.reduceAdd,Int.reduceEq,Int.reduceLT,Int.reduceLE,arr_pos,arr_neg,tr_impl_LettersOf,C_impl_factsOk s F hs hF,decide_eq_true h1,C_impl_inRange s x h5 hx,decide_eq_true h2,C_impl_letters F x hfl (by rw [h2.1];exact h1.2.2) (inR.bds h2 h1.1.2.2.1),C_impl_clone_int (ltr F x) (by omega),if_pos (And.intro h1 h2)]
  ·simp+contextual(maxSteps:=1000000)(disch:=omega)only[↓Sd,↓So,↓Sk,↓den,↓denA,Sa,Sb,Sc,Se,O1.d,O2.d,O3.d,cmI,arI,envOf,putN,↓reduceIte,Nat.reduceLT,Nat.reduceSub,Nat.reduceAdd,Int.reduceAdd,Int.reduceEq,Int.reduceLT,Int.reduceLE,arr_pos,arr_neg,tr_impl_LettersOf,C_impl_factsOk s F hs hF,decide_eq_true h1,C_impl_inRange s x h5 hx,decide_eq_false h2,if_neg (fun g:fOk s F∧inR s.1 x=>h2 g.2)]
 ·simp+contextual(maxSteps:=1000000)(disch:=omega)only[↓Sd,↓So,↓Sk,↓den,↓denA,Sa,Sb,Sc,Se,O1.d,O2.d,O3.d,cmI,arI,envOf,putN,↓reduceIte,Nat.reduceLT,Nat.reduceSub,Nat.reduceAdd,Int.reduceAdd,Int.reduceEq,Int.reduceLT,Int.reduceLE,arr_pos,arr_neg,tr_impl_LettersOf,C_impl_factsOk s F hs hF,decide_eq_false h1,if_neg (fun g:fOk s F∧inR s.1 x=>h1 g.1)]
theorem C_impl_bitsValid_b (x:List Int) (hn:x.length≤1000) (h:∀j,j<x.length→0≤x.getD j 0∧x.getD j 0≤1) (Q:List AV→Prop):mc.C f_impl_bitsValid [⟨L I,x⟩] Q=Q [⟨B,true⟩]:=by
 refine Mc.Ends.c (mc.ends F_impl_bitsValid ?_)
 simp+contextual(maxSteps:=1000000)(disch:=omega)only[↓Sd,↓So,↓Sk,↓den,↓denA,Sa,Sb,Sc,Se,O1.d,O2.d,O3.d,cmI,arI,envOf,putN,↓reduceIte,Nat.reduceLT,Nat.reduceSub,Nat.reduceAdd,Int.reduceAdd,Int.reduceEq,Int.reduceLT,Int.reduceLE,arr_pos,arr_neg,tr_impl_bitsValid]
 refine mc.lp_for Unit (fun i _=>[⟨L I,x⟩,⟨I,(x.length:Int)⟩,⟨I,(i:Int)⟩]) (fun _ _=>True) x.length 0 () _ rfl (Nat.zero_le _) trivial ?_ ?_
 ·rintro i _ hi -
  simp+contextual(maxSteps:=1000000)(disch:=omega)only[↓Sd,↓So,↓Sk,↓den,↓denA,Sa,Sb,Sc,Se,O1.d,O2.d,O3.d,cmI,arI,envOf,putN,↓reduceIte,Nat.reduceLT,Nat.reduceSub,Nat.reduceAdd,Int.reduceAdd,Int.reduceEq,Int.reduceLT,Int.reduceLE,arr_pos,arr_neg,C_impl_in,decide_eq_true (h i hi)]
 ·rintro _ -
  simp+contextual(maxSteps:=1000000)(disch:=omega)only[↓Sd,↓So,↓Sk,↓den,↓denA,Sa,Sb,Sc,Se,O1.d,O2.d,O3.d,cmI,arI,envOf,putN,↓reduceIte,Nat.reduceLT,Nat.reduceSub,Nat.reduceAdd,Int.reduceAdd,Int.reduceEq,Int.reduceLT,Int.reduceLE,arr_pos,arr_neg,]
  rfl
theorem C_impl_letterOk_b (x:List Int) (n:Nat) (hl:x.length=n) (hn:n≤1000) (h:∀j,j<n→0≤x.getD j 0∧x.getD j 0≤1) (Q:List AV→Prop):mc.C f_impl_letterOk [⟨L I,x⟩,⟨I,(n:Int)⟩] Q=Q [⟨B,true⟩]:=by
 refine Mc.Ends.c (mc.ends F_impl_letterOk ?_)
 simp+contextual(maxSteps:=1000000)(disch:=omega)only[↓Sd,↓So,↓Sk,↓den,↓denA,Sa,Sb,Sc,Se,O1.d,O2.d,O3.d,cmI,arI,envOf,putN,↓reduceIte,Nat.reduceLT,Nat.reduceSub,Nat.reduceAdd,Int.reduceAdd,Int.reduceEq,Int.reduceLT,Int.reduceLE,arr_pos,arr_neg,tr_impl_letterOk,hl,C_impl_bitsValid_b x (by omega) (by rw [hl];exact h)]
theorem C_impl_WordValid_b (S R:List (List Int)) (n:Nat) (hn:n≤4) (hR:0<R.length) (h60:S.length+R.length≤60) (hS:LtrB S n) (hRb:LtrB R n) (Q:List AV→Prop):mc.C f_impl_WordValid [⟨L (L I),S⟩,⟨L (L I),R⟩,⟨I,(n:Int)⟩] Q=Q [⟨B,true⟩]:=by
 have hn4:(0:Int)≤(n:Int)∧(n:Int)≤4:=by omega
 refine Mc.Ends.c (mc.ends F_impl_WordValid ?_)
 simp+contextual(maxSteps:=1000000)(disch:=omega)only[↓Sd,↓So,↓Sk,↓den,↓denA,Sa,Sb,Sc,Se,O1.d,O2.d,O3.d,cmI,arI,envOf,putN,↓reduceIte,Nat.reduceLT,Nat.reduceSub,Nat.reduceAdd,Int.reduceAdd,Int.reduceEq,Int.reduceLT,Int.reduceLE,arr_pos,arr_neg,tr_impl_WordValid,C_impl_in,decide_eq_true hn4]
 refine mc.lp_for Unit (fun i _=>[⟨L (L I),S⟩,⟨I,(S.length:Int)⟩,⟨I,(i:Int)⟩,⟨L (L I),R⟩,⟨I,(n:Int)⟩]) (fun _ _=>True) S.length 0 () _ rfl (Nat.zero_le _) trivial ?_ ?_
 ·rintro i _ hi -
  have hx:=hS i hi
  simp+contextual(maxSteps:=1000000)(disch:=omega)only[↓Sd,↓So,↓Sk,↓den,↓denA,Sa,Sb,Sc,Se,O1.d,O2.d,O3.d,cmI,arI,envOf,putN,↓reduceIte,Nat.reduceLT,Nat.reduceSub,Nat.reduceAdd,Int.reduceAdd,Int.reduceEq,Int.reduceLT,Int.reduceLE,arr_pos,arr_neg,C_impl_letterOk_b (S.getD i []) n hx.1 (by omega) hx.2]
 ·rintro _ -
  simp+contextual(maxSteps:=1000000)(disch:=omega)only[↓Sd,↓So,↓Sk,↓den,↓denA,Sa,Sb,Sc,Se,O1.d,O2.d,O3.d,cmI,arI,envOf,putN,↓reduceIte,Nat.reduceLT,Nat.reduceSub,Nat.reduceAdd,Int.reduceAdd,Int.reduceEq,Int.reduceLT,Int.reduceLE,arr_pos,arr_neg,]
  refine ⟨fun _=>?_,fun g=>absurd (by simp) g⟩
  refine mc.lp_for Unit (fun i _=>[⟨L (L I),R⟩,⟨I,(R.length:Int)⟩,⟨I,(i:Int)⟩,⟨I,(n:Int)⟩]) (fun _ _=>True) R.length 0 () _ rfl (Nat.zero_le _) trivial ?_ ?_
  ·rintro i _ hi -
   have hx:=hRb i hi
   simp+contextual(maxSteps:=1000000)(disch:=omega)only[↓Sd,↓So,↓Sk,↓den,↓denA,Sa,Sb,Sc,Se,O1.d,O2.d,O3.d,cmI,arI,envOf,putN,↓reduceIte,Nat.reduceLT,Nat.reduceSub,Nat.reduceAdd,Int.reduceAdd,Int.reduceEq,Int.reduceLT,Int.reduceLE,arr_pos,arr_neg,C_impl_letterOk_b (R.getD i []) n hx.1 (by omega) hx.2]
  ·rintro _ -
   simp+contextual(maxSteps:=1000000)(disch:=omega)only[↓Sd,↓So,↓Sk,↓den,↓denA,Sa,Sb,Sc,Se,O1.d,O2.d,O3.d,cmI,arI,envOf,putN,↓reduceIte,Nat.reduceLT,Nat.reduceSub,Nat.reduceAdd,Int.reduceAdd,Int.reduceEq,Int.reduceLT,Int.reduceLE,arr_pos,arr_neg,]
   rfl
theorem C_impl_HoldsOn_b (l:List Tm) (n:Nat) (S R:List (List Int)) (hf:Few l) (hn:n≤4) (hR:0<R.length) (hS:LtrB S n) (hRb:LtrB R n) (h60:S.length+R.length≤60) (ht:tV l n) (Q:List AV→Prop) :
  mc.C f_impl_HoldsOn [⟨L T4,l⟩,⟨L (L I),S⟩,⟨L (L I),R⟩,⟨I,(n:Int)⟩] Q=Q [⟨B,hoV l S R⟩]:=by
 refine Mc.Ends.c (mc.ends F_impl_HoldsOn ?_)
 have hll:=ht.2.1
 have hw:=hS.app hRb
 have hrl:=@rowsT_len l (wlO (S++R)) S.length (S.length+R.length) l.length
 have hrg:=rowsT_get (l:=l) (wl:=wlO (S++R)) (s:=S.length) (m:=S.length+R.length) (k:=l.length) (a:=l.length - 1) (by omega)
 have hg0:=bR_get (m:=S.length+R.length) (i:=0) (ρ:=pf l (wlO (S++R)) S.length (S.length+R.length) l.length (l.length - 1)) (by omega)
 have hem:(rowsT l (wlO (S++R)) S.length (S.length+R.length) l.length).isEmpty=false:=by
  rw [List.isEmpty_eq_false_iff];intro g;rw [g] at hrl;simp only [List.length_nil] at hrl;omega
 simp+contextual(maxSteps:=1000000)(disch:=omega)only[↓Sd,↓So,↓Sk,↓den,↓denA,Sa,Sb,Sc,Se,O1.d,O2.d,O3.d,cmI,arI,envOf,putN,↓reduceIte,Nat.reduceLT,Nat.reduceSub,Nat.reduceAdd,Int.reduceAdd,Int.reduceEq,Int.reduceLT,Int.reduceLE,arr_pos,arr_neg,tr_impl_HoldsOn]
 refine mc.c_of F_impl_TimesOn ?_
 simp+contextual(maxSteps:=1000000)(disch:=omega)only[↓Sd,↓So,↓Sk,↓den,↓denA,Sa,Sb,Sc,Se,O1.d,O2.d,O3.d,cmI,arI,envOf,putN,↓reduceIte,Nat.reduceLT,Nat.reduceSub,Nat.reduceAdd,Int.reduceAdd,Int.reduceEq,Int.reduceLT,Int.reduceLE,arr_pos,arr_neg,tr_impl_TimesOn,C_impl_TimesValid l n hf,decide_eq_true ht,C_impl_WordValid_b S R n hn hR h60 hS hRb,C_impl_timesOn l n S R _ ht hR h60 hw,hem,hrl,hrg,bR_len,hg0,bt_one]
 rfl
theorem las_in {s:Sy} {S R:List (List Int)} (h:lasK s S R):(∀x∈S,inR s.1 x)∧∀x∈R,inR s.1 x:=by
 obtain ⟨hv,h1,h2,h3,-,-⟩:=h
 have key:∀x∈S++R,inR s.1 x:=fun x hx=>by
  obtain ⟨i,hi,rfl⟩:=List.getElem_of_mem hx
  rw [List.length_append] at hi
  have:=h3 i (by omega)
  rw [atW_in hi,getD_lt (by rw [List.length_append];exact hi)] at this
  exact this
 exact ⟨fun x hx=>key x (List.mem_append_left _ hx),fun x hx=>key x (List.mem_append_right _ hx)⟩
theorem law_FnHoldsOnRun (b:List Int) (hb:Byt b) (hl:Lt63 b):mc.C f_laws_FnHoldsOnRun [⟨L U,b⟩] (·=[⟨B,true⟩]):=by
 refine mc.c_of F_laws_FnHoldsOnRun ?_
 simp+contextual(maxSteps:=1000000)(disch:=omega)only[↓Sd,↓So,↓Sk,↓den,↓denA,Sa,Sb,Sc,Se,O1.d,O2.d,O3.d,cmI,arI,envOf,putN,↓reduceIte,Nat.reduceLT,Nat.reduceSub,Nat.reduceAdd,Int.reduceAdd,Int.reduceEq,Int.reduceLT,Int.reduceLE,arr_pos,arr_neg,tr_laws_FnHoldsOnRun]
 intro _
 refine D_DrawHoldsOnRun b hb hl fun s F l S R hs hF hFm hl8 hS hR hSm hRm=>?_
 have hs:=hs.few
 have hFS:FewSS F:=⟨by unfold Few;omega,fun x hx=>by have:=hFm x hx;unfold Few;omega⟩
 have hfl:Few l:=by unfold Few;omega
 have hSR:SRok S R:=⟨⟨by omega,fun x hx=>by have:=hSm x hx;omega⟩,by omega,fun x hx=>by have:=hRm x hx;omega⟩
 obtain ⟨E,hE⟩:∃E:List Int→List Int,(fun x=>if fOk s F∧inR s.1 x then ltr F x else [])=E:=⟨_,rfl⟩
 have hEl:∀x:List Int,x.length≤1048576→∀Q:List AV→Prop,mc.C f_impl_LettersOf [⟨L V3,s.1⟩,⟨L TR,s.2⟩,⟨L (L T4),F⟩,⟨L I,x⟩] Q=Q [⟨L I,E x⟩]:=fun x hx Q=>by rw [←hE];exact C_impl_LettersOf_r s F x hs hFS hx Q
 by_cases hla:lasK s S R
 ·simp+contextual(maxSteps:=1000000)(disch:=omega)only[↓Sd,↓So,↓Sk,↓den,↓denA,Sa,Sb,Sc,Se,O1.d,O2.d,O3.d,cmI,arI,envOf,putN,↓reduceIte,Nat.reduceLT,Nat.reduceSub,Nat.reduceAdd,Int.reduceAdd,Int.reduceEq,Int.reduceLT,Int.reduceLE,arr_pos,arr_neg,C_impl_HoldsOnRun s F l S R hs hFS hfl hSR,C_spec_HoldsOnRun s F l S R hs hFS hfl hSR,C_impl_LassoValid s S R hs hSR,C_spec_LassoValid s S R hs hSR,dB_t hla]
  refine mc.lp_for (List (List Int)) (fun i o=>[⟨L (L T4),F⟩,⟨L T4,l⟩,⟨L (L I),R⟩,⟨B,hrB s F l S R⟩,⟨L (L I),S⟩,⟨I,(S.length:Int)⟩,⟨I,(i:Int)⟩,⟨L V3,s.1⟩,⟨L TR,s.2⟩,⟨L (L I),o⟩,⟨L (L I),[]⟩]) (fun i o=>o=(S.take i).map E) S.length 0 [] _ rfl (Nat.zero_le _) rfl ?_ ?_
  ·rintro i o hi rfl
   have hx:=hSm _ (getD_mem (d:=[]) hi)
   have hml:((S.take i).map E).length≤100:=by rw [List.length_map,List.length_take];omega
   simp+contextual(maxSteps:=1000000)(disch:=omega)only[↓Sd,↓So,↓Sk,↓den,↓denA,Sa,Sb,Sc,Se,O1.d,O2.d,O3.d,cmI,arI,envOf,putN,↓reduceIte,Nat.reduceLT,Nat.reduceSub,Nat.reduceAdd,Int.reduceAdd,Int.reduceEq,Int.reduceLT,Int.reduceLE,arr_pos,arr_neg,hEl (S.getD i []) (by omega)]
   exact map_next hi
  rintro o rfl
  rw [List.take_length]
  simp+contextual(maxSteps:=1000000)(disch:=omega)only[↓Sd,↓So,↓Sk,↓den,↓denA,Sa,Sb,Sc,Se,O1.d,O2.d,O3.d,cmI,arI,envOf,putN,↓reduceIte,Nat.reduceLT,Nat.reduceSub,Nat.reduceAdd,Int.reduceAdd,Int.reduceEq,Int.reduceLT,Int.reduceLE,arr_pos,arr_neg,]
  refine mc.lp_for (List (List Int)) (fun i o=>[⟨L (L T4),F⟩,⟨L T4,l⟩,⟨B,hrB s F l S R⟩,⟨L (L I),R⟩,⟨I,(R.length:Int)⟩,⟨I,(i:Int)⟩,⟨L V3,s.1⟩,⟨L TR,s.2⟩,⟨L (L I),S.map E⟩,⟨L (L I),o⟩]) (fun i o=>o=(R.take i).map E) R.length 0 [] _ rfl (Nat.zero_le _) rfl ?_ ?_
  ·rintro i o hi rfl
   have hx:=hRm _ (getD_mem (d:=[]) hi)
   have hml:((R.take i).map E).length≤100:=by rw [List.length_map,List.length_take];omega
   simp+contextual(maxSteps:=1000000)(disch:=omega)only[↓Sd,↓So,↓Sk,↓den,↓denA,Sa,Sb,Sc,Se,O1.d,O2.d,O3.d,cmI,arI,envOf,putN,↓reduceIte,Nat.reduceLT,Nat.reduceSub,Nat.reduceAdd,Int.reduceAdd,Int.reduceEq,Int.reduceLT,Int.reduceLE,arr_pos,arr_neg,hEl (R.getD i []) (by omega)]
   exact map_next hi
  rintro o rfl
  rw [List.take_length]
  cases hk:hrB s F l S R with
  | false=>simp+contextual(maxSteps:=1000000)(disch:=omega)only[↓Sd,↓So,↓Sk,↓den,↓denA,Sa,Sb,Sc,Se,O1.d,O2.d,O3.d,cmI,arI,envOf,putN,↓reduceIte,Nat.reduceLT,Nat.reduceSub,Nat.reduceAdd,Int.reduceAdd,Int.reduceEq,Int.reduceLT,Int.reduceLE,arr_pos,arr_neg,]
  | true =>
   unfold hrB at hk
   rw [Bool.and_eq_true] at hk
   obtain ⟨k1,k2⟩:=hk
   obtain ⟨g1,g2,g3,g4⟩:=dB_iff.1 k1
   obtain ⟨i1,i2⟩:=las_in hla
   have e1:S.map E=S.map (ltr F):=List.map_congr_left fun x hx=>by rw [←hE];exact if_pos ⟨g1,i1 x hx⟩
   have e2:R.map E=R.map (ltr F):=List.map_congr_left fun x hx=>by rw [←hE];exact if_pos ⟨g1,i2 x hx⟩
   obtain ⟨b1,b2⟩:=las_bds hla
   rw [e1,e2]
   simp+contextual(maxSteps:=1000000)(disch:=omega)only[↓Sd,↓So,↓Sk,↓den,↓denA,Sa,Sb,Sc,Se,O1.d,O2.d,O3.d,cmI,arI,envOf,putN,↓reduceIte,Nat.reduceLT,Nat.reduceSub,Nat.reduceAdd,Int.reduceAdd,Int.reduceEq,Int.reduceLT,Int.reduceLE,arr_pos,arr_neg,C_impl_HoldsOn_b l F.length (S.map (ltr F)) (R.map (ltr F)) hfl hF (by rw [List.length_map];exact hla.2.1) (ltr_b g1.2.2 b1) (ltr_b g1.2.2 b2) (by rw [List.length_map,List.length_map];exact g4) g3,k2]
 ·have hk:hrB s F l S R=false:=by unfold hrB;rw [dB_f fun g=>hla g.2.1];rfl
  simp+contextual(maxSteps:=1000000)(disch:=omega)only[↓Sd,↓So,↓Sk,↓den,↓denA,Sa,Sb,Sc,Se,O1.d,O2.d,O3.d,cmI,arI,envOf,putN,↓reduceIte,Nat.reduceLT,Nat.reduceSub,Nat.reduceAdd,Int.reduceAdd,Int.reduceEq,Int.reduceLT,Int.reduceLE,arr_pos,arr_neg,C_impl_HoldsOnRun s F l S R hs hFS hfl hSR,C_spec_HoldsOnRun s F l S R hs hFS hfl hSR,C_impl_LassoValid s S R hs hSR,C_spec_LassoValid s S R hs hSR,dB_f hla,hk]
end Go.Proofs.YtdgpohclhppodaaGreat
