/- What the trees come to: plain mathematics; no condition. -/
import Derived.Test.YtknlennollmgeaaGreatSmMath0
namespace Go.Proofs.YtknlennollmgeaaGreat
open Go Go.Sm Go.Sm.Q
set_option linter.unusedSimpArgs false
set_option linter.unusedVariables false
theorem upTo_nil {p:Nat→Bool} {n:Nat}:(upTo p n).length=0↔∀k,k<n→p k=false:=by
 constructor
 ·intro h k hk
  cases hp:p k with
  | false=>rfl
  | true =>
   have:=(upTo_mem (p:=p) (n:=n) (x:=k)).2 ⟨k,hk,rfl,hp⟩
   rw [List.eq_nil_of_length_eq_zero h] at this
   cases this
 ·intro h
  cases hl:upTo p n with
  | nil=>rfl
  | cons x l =>
   obtain ⟨k,h1,_,h3⟩:=(upTo_mem (p:=p) (n:=n) (x:=x)).1 (by rw [hl];simp)
   rw [h k h1] at h3
   cases h3
theorem C_impl_listOf (l:List Bool) (hl:l.length≤1048576) (Q:List AV→Prop):mc.C f_impl_listOf [⟨L B,l⟩] Q=Q [⟨L I,upTo (fun k=>l.getD k false) l.length⟩]:=by
 refine Mc.Ends.c (mc.ends F_impl_listOf ?_)
 simp+contextual(maxSteps:=1000000)(disch:=omega)only[↓Sd,↓So,↓Sk,↓den,↓denA,Sa,Sb,Sc,Se,O1.d,O2.d,O3.d,cmI,arI,envOf,putN,↓reduceIte,Nat.reduceLT,Nat.reduceSub,Nat.reduceAdd,Int.reduceAdd,Int.reduceEq,Int.reduceLT,Int.reduceLE,arr_pos,arr_neg,tr_impl_listOf]
 refine mc.lp_for (List Int) (fun i o=>[⟨L B,l⟩,⟨I,(l.length:Int)⟩,⟨I,(i:Int)⟩,⟨L I,o⟩]) (fun i o=>o=upTo (fun k=>l.getD k false) i) l.length 0 [] _ rfl (Nat.zero_le _) rfl ?_ ?_
 ·rintro i o hi rfl
  have h1:=@upTo_len (fun k=>l.getD k false) i
  simp+contextual(maxSteps:=1000000)(disch:=omega)only[↓Sd,↓So,↓Sk,↓den,↓denA,Sa,Sb,Sc,Se,O1.d,O2.d,O3.d,cmI,arI,envOf,putN,↓reduceIte,Nat.reduceLT,Nat.reduceSub,Nat.reduceAdd,Int.reduceAdd,Int.reduceEq,Int.reduceLT,Int.reduceLE,arr_pos,arr_neg,↓wpJoin,]
  exact ⟨fun g=>(upTo_s g).symm,fun g=>(upTo_n g).symm⟩
 ·rintro o rfl
  have h1:=@upTo_len (fun k=>l.getD k false) l.length
  simp+contextual(maxSteps:=1000000)(disch:=omega)only[↓Sd,↓So,↓Sk,↓den,↓denA,Sa,Sb,Sc,Se,O1.d,O2.d,O3.d,cmI,arI,envOf,putN,↓reduceIte,Nat.reduceLT,Nat.reduceSub,Nat.reduceAdd,Int.reduceAdd,Int.reduceEq,Int.reduceLT,Int.reduceLE,arr_pos,arr_neg,C_impl_clone_int (upTo (fun k=>l.getD k false) l.length) (by omega)]
theorem C_impl_listOf_tab (p:Nat→Bool) (n:Nat) (hn:n≤1048576) (Q:List AV→Prop):mc.C f_impl_listOf [⟨L B,tab p n⟩] Q=Q [⟨L I,upTo p n⟩]:=by
 rw [C_impl_listOf _ (by rw [tab_len];exact hn),tab_len,upTo_congr fun k hk=>tab_get hk]
theorem C_impl_setOk (l:List Int) (m:Int) (hm:0≤m∧m≤1048576) (hl:l.length≤1048576) (Q:List AV→Prop):mc.C f_impl_setOk [⟨L I,l⟩,⟨I,m⟩] Q=Q [⟨B,decide (lset l m)⟩]:=by
 refine Mc.Ends.c (mc.ends F_impl_setOk ?_)
 generalize hK:decide (lset l m)=K
 simp+contextual(maxSteps:=1000000)(disch:=omega)only[↓Sd,↓So,↓Sk,↓den,↓denA,Sa,Sb,Sc,Se,O1.d,O2.d,O3.d,cmI,arI,envOf,putN,↓reduceIte,Nat.reduceLT,Nat.reduceSub,Nat.reduceAdd,Int.reduceAdd,Int.reduceEq,Int.reduceLT,Int.reduceLE,arr_pos,arr_neg,tr_impl_setOk]
 refine lp_all (fun i=>[⟨L I,l⟩,⟨I,m⟩,⟨L I,l⟩,⟨I,(l.length:Int)⟩,⟨I,(i:Int)⟩]) (fun i=>(0≤l.getD i 0∧l.getD i 0≤m - 1)∧(0<i→l.getD (i - 1) 0<l.getD i 0)) l.length _ rfl ?_ ?_
 ·intro i hi
  have hno:¬((0≤l.getD i 0∧l.getD i 0≤m - 1)∧(0<i→l.getD (i - 1) 0<l.getD i 0))→false=K:=fun h=>by rw [←hK,decide_eq_false];exact fun h1=>h (h1 i hi)
  simp+contextual(maxSteps:=1000000)(disch:=omega)only[↓Sd,↓So,↓Sk,↓den,↓denA,Sa,Sb,Sc,Se,O1.d,O2.d,O3.d,cmI,arI,envOf,putN,↓reduceIte,Nat.reduceLT,Nat.reduceSub,Nat.reduceAdd,Int.reduceAdd,Int.reduceEq,Int.reduceLT,Int.reduceLE,arr_pos,arr_neg,↓wpJoin,C_impl_in]
  grind
 ·intro h
  simp+contextual(maxSteps:=1000000)(disch:=omega)only[↓Sd,↓So,↓Sk,↓den,↓denA,Sa,Sb,Sc,Se,O1.d,O2.d,O3.d,cmI,arI,envOf,putN,↓reduceIte,Nat.reduceLT,Nat.reduceSub,Nat.reduceAdd,Int.reduceAdd,Int.reduceEq,Int.reduceLT,Int.reduceLE,arr_pos,arr_neg,]
  rw [←hK,decide_eq_true];exact h
def setV (s:Sy) (l:List Int):Prop:=valid s∧lset l (sz s.1)
instance (s : Sy) (l : List Int) : Decidable (setV s l) := by unfold setV; infer_instance
theorem setV.n {s:Sy} {l:List Int} (h:setV s l):lset l (szn s.1):=by rw [(szn_eq h.1).1];exact h.2
theorem setV.len {s:Sy} {l:List Int} (h:setV s l):l.length≤400:=by
 have h1:=lset_len h.n (by omega)
 have h2:=szn_eq h.1
 omega
theorem setV.mem {s:Sy} {l:List Int} (h:setV s l):∀x∈l,0≤x∧x<(szn s.1:Int):=lset_mem h.n
theorem sz_ok {s:Sy} (h:valid s):1≤sz s.1∧sz s.1≤400:=by have:=szn_eq h;omega
theorem C_spec_SetValid (s:Sy) (l:List Int) (hs:FewSy s) (hl:l.length≤1048576) (Q:List AV→Prop):mc.C f_spec_SetValid [⟨L V3,s.1⟩,⟨L TR,s.2⟩,⟨L I,l⟩] Q=Q [⟨B,decide (setV s l)⟩]:=by
 refine Mc.Ends.c (mc.ends F_spec_SetValid ?_)
 generalize hK:decide (setV s l)=K
 simp+contextual(maxSteps:=1000000)(disch:=omega)only[↓Sd,↓So,↓Sk,↓den,↓denA,Sa,Sb,Sc,Se,O1.d,O2.d,O3.d,cmI,arI,envOf,putN,↓reduceIte,Nat.reduceLT,Nat.reduceSub,Nat.reduceAdd,Int.reduceAdd,Int.reduceEq,Int.reduceLT,Int.reduceLE,arr_pos,arr_neg,tr_spec_SetValid,C_spec_SizeOf s hs]
 obtain ⟨m,hm⟩:∃m:Int,(if valid s then sz s.1 else 0)=m:=⟨_,rfl⟩
 have hb:0≤m∧m≤400:=by
  rw [←hm]
  split
  ·rename_i h;have:=sz_ok h;omega
  ·omega
 have hiff:setV s l↔(lset l m∧0<m):=by
  rw [←hm]
  by_cases h:valid s
  ·have:=sz_ok h
   rw [if_pos h];exact ⟨fun g=>⟨g.2,by omega⟩,fun g=>⟨h,g.1⟩⟩
  ·rw [if_neg h];exact ⟨fun g=>absurd g.1 h,fun g=>by omega⟩
 rw [hm]
 refine lp_all (fun i=>[⟨L I,l⟩,⟨I,m⟩,⟨I,(i:Int)⟩]) (fun i=>(0≤l.getD i 0∧l.getD i 0≤m - 1)∧(0<i→l.getD (i - 1) 0<l.getD i 0)) l.length _ rfl ?_ ?_
 ·intro i hi
  have hno:¬((0≤l.getD i 0∧l.getD i 0≤m - 1)∧(0<i→l.getD (i - 1) 0<l.getD i 0))→false=K:=fun h=>by rw [←hK,decide_eq_false];exact fun h1=>h ((hiff.1 h1).1 i hi)
  simp+contextual(maxSteps:=1000000)(disch:=omega)only[↓Sd,↓So,↓Sk,↓den,↓denA,Sa,Sb,Sc,Se,O1.d,O2.d,O3.d,cmI,arI,envOf,putN,↓reduceIte,Nat.reduceLT,Nat.reduceSub,Nat.reduceAdd,Int.reduceAdd,Int.reduceEq,Int.reduceLT,Int.reduceLE,arr_pos,arr_neg,↓wpJoin,C_spec_l1In]
  grind
 ·intro h
  simp+contextual(maxSteps:=1000000)(disch:=omega)only[↓Sd,↓So,↓Sk,↓den,↓denA,Sa,Sb,Sc,Se,O1.d,O2.d,O3.d,cmI,arI,envOf,putN,↓reduceIte,Nat.reduceLT,Nat.reduceSub,Nat.reduceAdd,Int.reduceAdd,Int.reduceEq,Int.reduceLT,Int.reduceLE,arr_pos,arr_neg,]
  rw [←hK]
  exact decide_eq_decide.2 ⟨fun g=>hiff.2 ⟨h,g⟩,fun g=>(hiff.1 g).2⟩
def pastL (T:List (List Int)) (k:Nat):Nat→List Int
 | 0=>[]
 | m+1=>pastL T k m++List.replicate ((T.getD m []).count (k:Int)) (m:Int)
theorem pastL_mem {T:List (List Int)} {k:Nat} {x:Int}:∀{m:Nat},x∈pastL T k m↔∃a,a<m∧x=(a:Int)∧(k:Int)∈T.getD a []
 | 0=>by simp [pastL]
 | m+1=>by
  simp only [pastL,List.mem_append,List.mem_replicate,pastL_mem (m:=m)]
  constructor
  ·rintro (⟨a,h1,h2,h3⟩ | ⟨h1,h2⟩)
   ·exact ⟨a,by omega,h2,h3⟩
   ·exact ⟨m,by omega,h2,List.count_pos_iff.1 (by omega)⟩
  ·rintro ⟨a,h1,h2,h3⟩
   rcases Nat.lt_succ_iff_lt_or_eq.1 h1 with h | rfl
   ·exact .inl ⟨a,h,h2,h3⟩
   ·exact .inr ⟨by have:=List.count_pos_iff.2 h3;omega,h2⟩
theorem pastL_len {T:List (List Int)} {k:Nat} (h:∀r∈T,r.length≤8):∀{m:Nat},(pastL T k m).length≤8 * m
 | 0=>by simp [pastL]
 | m+1=>by
  have ih:=pastL_len (k:=k) h (m:=m)
  have h1:(T.getD m []).count (k:Int)≤(T.getD m []).length:=List.count_le_length
  have h2:(T.getD m []).length≤8:=by
   by_cases hm:m<T.length
   ·exact h _ (getD_mem hm)
   ·rw [List.getD_eq_getElem?_getD,List.getElem?_eq_none (by omega)];simp
  simp only [pastL,List.length_append,List.length_replicate]
  omega
def Tb8 (T:List (List Int)) (n:Nat):Prop:=Tbl T n∧n≤400∧∀r∈T,r.length≤8
theorem steps_tb8 {s:Sy} (h:valid s):Tb8 (steps s) (szn s.1):=by
 refine ⟨steps_tbl h,(szn_eq h).2.2,fun r hr=>?_⟩
 simp only [steps,tab,List.mem_map,List.mem_range] at hr
 obtain ⟨i,hi,rfl⟩:=hr
 simp only [stepR,List.length_map]
 exact nxt_len h
theorem count_next {l:List Int} {j:Nat} {x:Int} (h:j<l.length):(l.take (j+1)).count x=(l.take j).count x+if l.getD j 0=x then 1 else 0:=by
 rw [←take_next (d:=0) h,List.count_append,List.count_singleton]
 by_cases h1:l.getD j 0=x
 ·simp [h1]
 ·simp [h1]
def pasts (T:List (List Int)) (n:Nat):List (List Int):=tab (fun k=>pastL T k n) n
theorem C_impl_pasts (T:List (List Int)) (n:Nat) (ht:Tb8 T n) (Q:List AV→Prop):mc.C f_impl_pasts [⟨L (L I),T⟩] Q=Q [⟨L (L I),pasts T n⟩]:=by
 obtain ⟨ht,hn,h8⟩:=ht
 have hl:=ht.1
 refine Mc.Ends.c (mc.ends F_impl_pasts ?_)
 simp+contextual(maxSteps:=1000000)(disch:=omega)only[↓Sd,↓So,↓Sk,↓den,↓denA,Sa,Sb,Sc,Se,O1.d,O2.d,O3.d,cmI,arI,envOf,putN,↓reduceIte,Nat.reduceLT,Nat.reduceSub,Nat.reduceAdd,Int.reduceAdd,Int.reduceEq,Int.reduceLT,Int.reduceLE,arr_pos,arr_neg,tr_impl_pasts,hl]
 refine mc.lp_for (List (List Int)) (fun i o=>[⟨L (L I),T⟩,⟨I,(n:Int)⟩,⟨I,(i:Int)⟩,⟨L (L I),o⟩]) (fun i o=>o=tab (fun k=>pastL T k i) n) n 0 (List.replicate n []) _ rfl (Nat.zero_le _) ?_ ?_ ?_
 ·rw [rep_tab];rfl
 ·rintro i o hi rfl
  have hrow:=ht.row (i:=i)
  have hrl:(T.getD i []).length≤8:=h8 _ (getD_mem (by omega))
  simp+contextual(maxSteps:=1000000)(disch:=omega)only[↓Sd,↓So,↓Sk,↓den,↓denA,Sa,Sb,Sc,Se,O1.d,O2.d,O3.d,cmI,arI,envOf,putN,↓reduceIte,Nat.reduceLT,Nat.reduceSub,Nat.reduceAdd,Int.reduceAdd,Int.reduceEq,Int.reduceLT,Int.reduceLE,arr_pos,arr_neg,hl]
  refine mc.lp_for (List (List Int)) (fun j o=>[⟨I,(i:Int)⟩,⟨L (L I),T⟩,⟨I,(n:Int)⟩,⟨I,(i:Int)⟩,⟨L I,T.getD i []⟩,⟨I,((T.getD i []).length:Int)⟩,⟨I,(j:Int)⟩,⟨L (L I),o⟩]) (fun j o=>o=tab (fun k=>pastL T k i++List.replicate (((T.getD i []).take j).count (k:Int)) (i:Int)) n) (T.getD i []).length 0 _ _ rfl (Nat.zero_le _) ?_ ?_ ?_
  ·exact tab_congr fun k _=>by simp
  ·rintro j o hj rfl
   have hx:=hrow _ (getD_mem (d:=0) hj)
   obtain ⟨x,hxe⟩:∃x:Nat,(T.getD i []).getD j 0=x:=⟨((T.getD i []).getD j 0).toNat,by omega⟩
   have hxn:x<n:=by omega
   have hpl:=pastL_len (k:=x) h8 (m:=i)
   have hc:((T.getD i []).take j).count (x:Int)≤8:=Nat.le_trans List.count_le_length (by rw [List.length_take];omega)
   have hlen:(pastL T x i).length+(List.replicate (((T.getD i []).take j).count (x:Int)) (i:Int)).length≤4000:=by
    rw [List.length_replicate];omega
   simp+contextual(maxSteps:=1000000)(disch:=omega)only[↓Sd,↓So,↓Sk,↓den,↓denA,Sa,Sb,Sc,Se,O1.d,O2.d,O3.d,cmI,arI,envOf,putN,↓reduceIte,Nat.reduceLT,Nat.reduceSub,Nat.reduceAdd,Int.reduceAdd,Int.reduceEq,Int.reduceLT,Int.reduceLE,arr_pos,arr_neg,hxe,tab_len,tab_get hxn,tab_set']
   refine tab_congr fun k hk=>?_
   rw [count_next hj,hxe]
   by_cases hkx:k=x
   ·subst hkx;rw [if_pos rfl,if_pos rfl,List.replicate_succ',List.append_assoc]
   ·rw [if_neg hkx,if_neg (by omega),Nat.add_zero]
  ·rintro o rfl
   rw [List.take_length]
   simp+contextual(maxSteps:=1000000)(disch:=omega)only[↓Sd,↓So,↓Sk,↓den,↓denA,Sa,Sb,Sc,Se,O1.d,O2.d,O3.d,cmI,arI,envOf,putN,↓reduceIte,Nat.reduceLT,Nat.reduceSub,Nat.reduceAdd,Int.reduceAdd,Int.reduceEq,Int.reduceLT,Int.reduceLE,arr_pos,arr_neg,]
   rfl
 ·rintro o rfl
  simp+contextual(maxSteps:=1000000)(disch:=omega)only[↓Sd,↓So,↓Sk,↓den,↓denA,Sa,Sb,Sc,Se,O1.d,O2.d,O3.d,cmI,arI,envOf,putN,↓reduceIte,Nat.reduceLT,Nat.reduceSub,Nat.reduceAdd,Int.reduceAdd,Int.reduceEq,Int.reduceLT,Int.reduceLE,arr_pos,arr_neg,]
  rfl
theorem pasts_get {T:List (List Int)} {n k:Nat} (h:k<n):(pasts T n).getD k []=pastL T k n:=tab_get h
theorem pasts_tbl {T:List (List Int)} {n:Nat} (h:Tb8 T n):Tbl (pasts T n) n:=by
 refine ⟨tab_len,fun r hr=>?_⟩
 simp only [pasts,tab,List.mem_map,List.mem_range] at hr
 obtain ⟨k,hk,rfl⟩:=hr
 have h1:=pastL_len (k:=k) h.2.2 (m:=n)
 have h2:=h.2.1
 refine ⟨by omega,fun x hx=>?_⟩
 obtain ⟨a,h3,rfl,_⟩:=pastL_mem.1 hx
 omega
def ahead (T:List (List Int)) (p:Nat→Bool) (n:Nat) (k:Nat):Prop:=∃b,b<n∧p b=true∧(b:Int)∈T.getD k []
theorem C_spec_l4Ahead (T:List (List Int)) (p:Nat→Bool) (n:Nat) (hn:n≤1048576) (ht:Tbl T n) (Q:List AV→Prop):mc.C f_spec_l4Ahead [⟨L (L I),T⟩,⟨L B,tab p n⟩] Q=Q [⟨L B,tab (fun k=>dB (ahead T p n k)) n⟩]:=by
 have hT:=ht.1
 refine Mc.Ends.c (mc.ends F_spec_l4Ahead ?_)
 simp+contextual(maxSteps:=1000000)(disch:=omega)only[↓Sd,↓So,↓Sk,↓den,↓denA,Sa,Sb,Sc,Se,O1.d,O2.d,O3.d,cmI,arI,envOf,putN,↓reduceIte,Nat.reduceLT,Nat.reduceSub,Nat.reduceAdd,Int.reduceAdd,Int.reduceEq,Int.reduceLT,Int.reduceLE,arr_pos,arr_neg,tr_spec_l4Ahead,hT]
 refine mc.lp_for (List Bool) (fun i o=>[⟨L (L I),T⟩,⟨L B,tab p n⟩,⟨I,(i:Int)⟩,⟨L B,o⟩]) (fun i o=>o=tab (fun k=>decide (k<i)&&dB (ahead T p n k)) n) n 0 (List.replicate n false) _ rfl (Nat.zero_le _) ?_ ?_ ?_
 ·rw [rep_tab];exact tab_congr fun k _=>by simp
 ·rintro i o hi rfl
  have hrow:=ht.row (i:=i)
  have hrl:(T.getD i []).length≤1048576:=(ht.2 _ (getD_mem (by omega))).1
  simp+contextual(maxSteps:=1000000)(disch:=omega)only[↓Sd,↓So,↓Sk,↓den,↓denA,Sa,Sb,Sc,Se,O1.d,O2.d,O3.d,cmI,arI,envOf,putN,↓reduceIte,Nat.reduceLT,Nat.reduceSub,Nat.reduceAdd,Int.reduceAdd,Int.reduceEq,Int.reduceLT,Int.reduceLE,arr_pos,arr_neg,hT]
  refine mc.lp_for (List Bool) (fun j o=>[⟨L (L I),T⟩,⟨L B,tab p n⟩,⟨I,(i:Int)⟩,⟨I,(j:Int)⟩,⟨L B,o⟩]) (fun j o=>o=tab (fun k=>(decide (k<i)&&dB (ahead T p n k))||decide (k=i)&&dB (∃b,b<n∧p b=true∧(b:Int)∈(T.getD i []).take j)) n) (T.getD i []).length 0 _ _ rfl (Nat.zero_le _) ?_ ?_ ?_
  ·exact tab_congr fun k _=>by rw [dB_f (p:=∃b,b<n∧p b=true∧(b:Int)∈(T.getD i []).take 0) (by simp)];simp
  ·rintro j o hj rfl
   have hy:=hrow _ (getD_mem (d:=0) hj)
   obtain ⟨y,hye⟩:∃y:Nat,(T.getD i []).getD j 0=y:=⟨((T.getD i []).getD j 0).toNat,by omega⟩
   have hyn:y<n:=by omega
   simp+contextual(maxSteps:=1000000)(disch:=omega)only[↓Sd,↓So,↓Sk,↓den,↓denA,Sa,Sb,Sc,Se,O1.d,O2.d,O3.d,cmI,arI,envOf,putN,↓reduceIte,Nat.reduceLT,Nat.reduceSub,Nat.reduceAdd,Int.reduceAdd,Int.reduceEq,Int.reduceLT,Int.reduceLE,arr_pos,arr_neg,↓wpJoin,hT,hye,tab_len,tab_get hyn,tab_set']
   refine ⟨fun g=>tab_congr fun k hk=>?_,fun g=>tab_congr fun k hk=>?_⟩
   ·by_cases hki:k=i
    ·subst hki
     rw [if_pos rfl,dB_t (p:=∃b,b<n∧p b=true∧(b:Int)∈(T.getD k []).take (j+1)) ⟨y,hyn,g,(mem_take_next hj).2 (.inr hye.symm)⟩]
     simp
    ·simp [hki]
   ·congr 2
    refine dB_congr ⟨fun ⟨b,h1,h2,h3⟩=>⟨b,h1,h2,(mem_take_next hj).2 (.inl h3)⟩,fun ⟨b,h1,h2,h3⟩=>⟨b,h1,h2,?_⟩⟩
    rcases (mem_take_next hj).1 h3 with h | h
    ·exact h
    ·have:b=y:=by omega
     subst this;exact absurd h2 g
  ·rintro o rfl
   rw [List.take_length]
   simp+contextual(maxSteps:=1000000)(disch:=omega)only[↓Sd,↓So,↓Sk,↓den,↓denA,Sa,Sb,Sc,Se,O1.d,O2.d,O3.d,cmI,arI,envOf,putN,↓reduceIte,Nat.reduceLT,Nat.reduceSub,Nat.reduceAdd,Int.reduceAdd,Int.reduceEq,Int.reduceLT,Int.reduceLE,arr_pos,arr_neg,hT]
   refine tab_congr fun k hk=>?_
   by_cases hki:k=i
   ·subst hki;simp;rfl
   ·by_cases hlt:k<i
    ·simp [hki,hlt,show k<i+1 by omega]
    ·simp [hki,hlt,show ¬k<i+1 by omega]
 ·rintro o rfl
  simp+contextual(maxSteps:=1000000)(disch:=omega)only[↓Sd,↓So,↓Sk,↓den,↓denA,Sa,Sb,Sc,Se,O1.d,O2.d,O3.d,cmI,arI,envOf,putN,↓reduceIte,Nat.reduceLT,Nat.reduceSub,Nat.reduceAdd,Int.reduceAdd,Int.reduceEq,Int.reduceLT,Int.reduceLE,arr_pos,arr_neg,hT]
  exact tab_congr fun k hk=>by simp [hk]
theorem C_spec_l2Has (l:List Int) (x:Int) (hl:l.length≤1048576) (Q:List AV→Prop):mc.C f_spec_l2Has [⟨L I,l⟩,⟨I,x⟩] Q=Q [⟨B,dB (x∈l)⟩]:=by
 refine Mc.Ends.c (mc.ends F_spec_l2Has ?_)
 generalize hK:dB (x∈l)=K
 simp+contextual(maxSteps:=1000000)(disch:=omega)only[↓Sd,↓So,↓Sk,↓den,↓denA,Sa,Sb,Sc,Se,O1.d,O2.d,O3.d,cmI,arI,envOf,putN,↓reduceIte,Nat.reduceLT,Nat.reduceSub,Nat.reduceAdd,Int.reduceAdd,Int.reduceEq,Int.reduceLT,Int.reduceLE,arr_pos,arr_neg,tr_spec_l2Has]
 refine lp_all (fun i=>[⟨L I,l⟩,⟨I,x⟩,⟨I,(i:Int)⟩]) (fun i=>¬l.getD i 0=x) l.length _ rfl ?_ ?_
 ·intro i hi
  simp+contextual(maxSteps:=1000000)(disch:=omega)only[↓Sd,↓So,↓Sk,↓den,↓denA,Sa,Sb,Sc,Se,O1.d,O2.d,O3.d,cmI,arI,envOf,putN,↓reduceIte,Nat.reduceLT,Nat.reduceSub,Nat.reduceAdd,Int.reduceAdd,Int.reduceEq,Int.reduceLT,Int.reduceLE,arr_pos,arr_neg,]
  intro h
  rw [←hK,dB_t]
  rw [←h];exact getD_mem hi
 ·intro h
  simp+contextual(maxSteps:=1000000)(disch:=omega)only[↓Sd,↓So,↓Sk,↓den,↓denA,Sa,Sb,Sc,Se,O1.d,O2.d,O3.d,cmI,arI,envOf,putN,↓reduceIte,Nat.reduceLT,Nat.reduceSub,Nat.reduceAdd,Int.reduceAdd,Int.reduceEq,Int.reduceLT,Int.reduceLE,arr_pos,arr_neg,]
  rw [←hK,dB_f]
  intro hx
  obtain ⟨i,hi,rfl⟩:=List.getElem_of_mem hx
  exact h i hi (getD_lt hi)
def turned (T:List (List Int)) (n:Nat):List (List Int):=tab (fun k=>upTo (fun m=>(T.getD m []).contains (k:Int)) n) n
theorem turned_tbl {T:List (List Int)} {n:Nat} (hn:n≤1048576):Tbl (turned T n) n:=by
 refine ⟨tab_len,fun r hr=>?_⟩
 simp only [turned,tab,List.mem_map,List.mem_range] at hr
 obtain ⟨k,hk,rfl⟩:=hr
 refine ⟨Nat.le_trans upTo_len hn,fun x hx=>?_⟩
 obtain ⟨a,h3,rfl,_⟩:=upTo_mem.1 hx
 omega
theorem turned_get {T:List (List Int)} {n k a:Nat} (h:k<n):(a:Int)∈(turned T n).getD k []↔a<n∧(k:Int)∈T.getD a []:=by
 rw [turned,tab_get h,upTo_mem]
 constructor
 ·rintro ⟨b,h1,h2,h3⟩
  have:a=b:=by omega
  subst this
  exact ⟨h1,by simpa using h3⟩
 ·rintro ⟨h1,h2⟩
  exact ⟨a,h1,rfl,by simpa using h2⟩
theorem dB_contains {l:List Int} {x:Int}:dB (x∈l)=l.contains x:=by
 by_cases h:x∈l
 ·rw [dB_t h];simp [h]
 ·rw [dB_f h];simp [h]
theorem C_spec_l5Turned (T:List (List Int)) (n:Nat) (hn:n≤1000) (ht:Tbl T n) (Q:List AV→Prop):mc.C f_spec_l5Turned [⟨L (L I),T⟩] Q=Q [⟨L (L I),turned T n⟩]:=by
 have hT:=ht.1
 refine Mc.Ends.c (mc.ends F_spec_l5Turned ?_)
 simp+contextual(maxSteps:=1000000)(disch:=omega)only[↓Sd,↓So,↓Sk,↓den,↓denA,Sa,Sb,Sc,Se,O1.d,O2.d,O3.d,cmI,arI,envOf,putN,↓reduceIte,Nat.reduceLT,Nat.reduceSub,Nat.reduceAdd,Int.reduceAdd,Int.reduceEq,Int.reduceLT,Int.reduceLE,arr_pos,arr_neg,tr_spec_l5Turned]
 refine mc.lp_for (List (List Int)) (fun i o=>[⟨L (L I),T⟩,⟨I,(i:Int)⟩,⟨L (L I),o⟩]) (fun i o=>o=tab (fun k=>upTo (fun m=>(T.getD m []).contains (k:Int)) n) i) n 0 [] _ rfl (Nat.zero_le _) rfl ?_ ?_
 ·rintro i o hi rfl
  simp+contextual(maxSteps:=1000000)(disch:=omega)only[↓Sd,↓So,↓Sk,↓den,↓denA,Sa,Sb,Sc,Se,O1.d,O2.d,O3.d,cmI,arI,envOf,putN,↓reduceIte,Nat.reduceLT,Nat.reduceSub,Nat.reduceAdd,Int.reduceAdd,Int.reduceEq,Int.reduceLT,Int.reduceLE,arr_pos,arr_neg,hT]
  refine mc.lp_for (List Int) (fun j o=>[⟨L (L I),T⟩,⟨I,(i:Int)⟩,⟨I,(j:Int)⟩,⟨L (L I),tab (fun k=>upTo (fun m=>(T.getD m []).contains (k:Int)) n) i⟩,⟨L I,o⟩]) (fun j o=>o=upTo (fun m=>(T.getD m []).contains (i:Int)) j) n 0 [] _ rfl (Nat.zero_le _) rfl ?_ ?_
  ·rintro j o hj rfl
   have h1:=@upTo_len (fun m=>(T.getD m []).contains (i:Int)) j
   have hrl:(T.getD j []).length≤1048576:=(ht.2 _ (getD_mem (by omega))).1
   simp+contextual(maxSteps:=1000000)(disch:=omega)only[↓Sd,↓So,↓Sk,↓den,↓denA,Sa,Sb,Sc,Se,O1.d,O2.d,O3.d,cmI,arI,envOf,putN,↓reduceIte,Nat.reduceLT,Nat.reduceSub,Nat.reduceAdd,Int.reduceAdd,Int.reduceEq,Int.reduceLT,Int.reduceLE,arr_pos,arr_neg,↓wpJoin,hT,C_spec_l2Has _ _ hrl,dB_contains]
   exact ⟨fun g=>(upTo_s g).symm,fun g=>(upTo_n g).symm⟩
  ·rintro o rfl
   simp+contextual(maxSteps:=1000000)(disch:=omega)only[↓Sd,↓So,↓Sk,↓den,↓denA,Sa,Sb,Sc,Se,O1.d,O2.d,O3.d,cmI,arI,envOf,putN,↓reduceIte,Nat.reduceLT,Nat.reduceSub,Nat.reduceAdd,Int.reduceAdd,Int.reduceEq,Int.reduceLT,Int.reduceLE,arr_pos,arr_neg,hT,tab_len]
   exact tab_next
 ·rintro o rfl
  simp+contextual(maxSteps:=1000000)(disch:=omega)only[↓Sd,↓So,↓Sk,↓den,↓denA,Sa,Sb,Sc,Se,O1.d,O2.d,O3.d,cmI,arI,envOf,putN,↓reduceIte,Nat.reduceLT,Nat.reduceSub,Nat.reduceAdd,Int.reduceAdd,Int.reduceEq,Int.reduceLT,Int.reduceLE,arr_pos,arr_neg,hT]
  rfl
theorem upTo_few {p:Nat→Bool} {s:Sy} (h:valid s):(upTo p (szn s.1)).length≤400:=by
 have h1:=@upTo_len p (szn s.1)
 have h2:=szn_eq h
 omega
def vb (n w : Nat) : List Int := tab (fun i => ((n / 2 ^ (w - 1 - i) % 2 : Nat) : Int)) w
def sbN (l:List Vr) (st:List Int):Nat→List Int
 | 0=>[]
 | i+1=>sbN l st i++vb (st.getD i 0 - (l.getD i (0,0,0)).1).toNat (bw l i).toNat
def sb (s:Sy) (st:List Int):List Int:=sbN s.1 st s.1.length
def cHas (c b:List Int):Prop:=∀i,i<c.length→c.getD i 0=2∨c.getD i 0=b.getD i 0
noncomputable def inC (s:Sy) (c:List Int) (n:Nat):Bool:=dB (cHas c (sb s (stN s n)))
def blk (s:Sy) (F c:List Int):Prop:=inC s c (num s.1 (fst0 s.1)).toNat=false∧∀x∈F,inC s c x.toNat=false→∀y∈(steps s).getD x.toNat [],inC s c y.toNat=false
theorem first_n {s:Sy} (h:valid s):∃m:Nat,num s.1 (fst0 s.1)=m∧m<szn s.1:=by
 have h1:=num_bd h.2.2.1 (fst0_in h.2.2.1)
 have h2:=szn_eq h
 exact ⟨(num s.1 (fst0 s.1)).toNat,by omega,by omega⟩
theorem upTo_marks {p:Nat→Bool} {n:Nat}:tab (fun k=>dB ((k:Int)∈upTo p n)) n=tab p n:=tab_congr fun k hk=>by rw [dB_upTo];simp [hk]
theorem upTo_pos {p:Nat→Bool} {n:Nat}:0<(upTo p n).length↔∃k,k<n∧p k=true:=by
 constructor
 ·intro h
  obtain ⟨k,h1,_,h3⟩:=upTo_mem.1 (getD_mem (d:=0) h)
  exact ⟨k,h1,h3⟩
 ·rintro ⟨k,h1,h2⟩
  exact List.length_pos_of_mem (upTo_mem.2 ⟨k,h1,rfl,h2⟩)
theorem wrap_u64 {n:Nat} (h:n<18446744073709551616):IntKind.u64.wrap (n:Int)=n:=by
 unfold IntKind.wrap
 simp only [IntKind.bits,IntKind.signed]
 have:((n:Int) % (2:Int) ^ 64)=n:=by omega
 simpa using this
theorem fd64 {n:Nat} (h:n<4294967296):(n:Int).fdiv (2 ^ min (Int.toNat 32) IntKind.u64.bits)=0:=by
 have:min (Int.toNat 32) IntKind.u64.bits=32:=by decide
 rw [this,Int.fdiv_eq_ediv_of_nonneg _ (by decide)]
 omega
theorem sh64 {n:Nat} (h:n<4294967296):shI false .u64 (n:Int) 32=0:=by
 unfold shI
 simp only [Bool.false_eq_true,if_false]
 exact fd64 h
theorem and64 {n:Nat} (h:n<4294967296):IntKind.u64.wrap ((BitVec.ofInt IntKind.u64.bits (n:Int) &&& BitVec.ofInt IntKind.u64.bits 4294967295).toNat:Int)=n:=by
 have h1:(BitVec.ofInt IntKind.u64.bits (n:Int) &&& BitVec.ofInt IntKind.u64.bits 4294967295).toNat=n:=by
  rw [BitVec.toNat_and]
  have e1:(BitVec.ofInt IntKind.u64.bits (n:Int)).toNat=n:=by
   rw [BitVec.toNat_ofInt]
   show Int.toNat ((n:Int) % (2:Int) ^ 64)=n
   omega
  have e2:(BitVec.ofInt IntKind.u64.bits 4294967295).toNat=2 ^ 32 - 1:=by decide
  rw [e1,e2,Nat.and_two_pow_sub_one_eq_mod,Nat.mod_eq_of_lt h]
 rw [h1]
 exact wrap_u64 (by omega)
theorem C_math_bits_Mul1 (n:Nat) (h:n≤1048576) (Q:List AV→Prop):mc.C f_math_bits_Mul [⟨.int .u64,(1:Int)⟩,⟨.int .u64,(n:Int)⟩] Q=Q [⟨.int .u64,(0:Int)⟩,⟨.int .u64,(n:Int)⟩]:=by
 have e1:mc.C f_math_bits_Mul64 [⟨.int .u64,(1:Int)⟩,⟨.int .u64,(n:Int)⟩]=fun Q=>Q [⟨.int .u64,(0:Int)⟩,⟨.int .u64,(n:Int)⟩]:=by
  funext Q
  refine Mc.Ends.c (mc.ends F_math_bits_Mul64 ?_)
  have s1:shI false .u64 1 32=0:=sh64 (n:=1) (by omega)
  have s0:shI false .u64 0 32=0:=sh64 (n:=0) (by omega)
  have sn:=sh64 (n:=n) (by omega)
  have a1:IntKind.u64.wrap ((BitVec.ofInt IntKind.u64.bits 1 &&& BitVec.ofInt IntKind.u64.bits 4294967295).toNat:Int)=1:=and64 (n:=1) (by omega)
  have a0:IntKind.u64.wrap ((BitVec.ofInt IntKind.u64.bits 0 &&& BitVec.ofInt IntKind.u64.bits 4294967295).toNat:Int)=0:=and64 (n:=0) (by omega)
  have an:=and64 (n:=n) (by omega)
  have w:=wrap_u64 (n:=n) (by omega)
  have w0:IntKind.u64.wrap 0=0:=by decide
  simp+contextual(maxSteps:=1000000)(disch:=omega)only[↓Sd,↓So,↓Sk,↓den,↓denA,Sa,Sb,Sc,Se,O1.d,O2.d,O3.d,cmI,arI,envOf,putN,↓reduceIte,Nat.reduceLT,Nat.reduceSub,Nat.reduceAdd,Int.reduceAdd,Int.reduceEq,Int.reduceLT,Int.reduceLE,arr_pos,arr_neg,tr_math_bits_Mul64,s1,s0,sn,a1,an,a0,w,w0,Int.zero_mul,Int.mul_zero,Int.one_mul,Int.add_zero,Int.zero_add]
 refine Mc.Ends.c (mc.ends F_math_bits_Mul ?_)
 simp+contextual(maxSteps:=1000000)(disch:=omega)only[↓Sd,↓So,↓Sk,↓den,↓denA,Sa,Sb,Sc,Se,O1.d,O2.d,O3.d,cmI,arI,envOf,putN,↓reduceIte,Nat.reduceLT,Nat.reduceSub,Nat.reduceAdd,Int.reduceAdd,Int.reduceEq,Int.reduceLT,Int.reduceLE,arr_pos,arr_neg,tr_math_bits_Mul,e1]
def reps (k n:Nat) (v:Int):List Int:=List.replicate k v++List.replicate (n - k) 0
theorem reps_len {k n:Nat} {v:Int} (h:k≤n):(reps k n v).length=n:=by simp [reps];omega
theorem reps_over0 {n:Nat} {v:Int}:overL (List.replicate n (0:Int)) [v]=reps (min 1 n) n v:=by
 cases n with
 | zero=>simp [overL,reps]
 | succ n =>
  have:min 1 (n+1)=1:=by omega
  rw [this]
  simp [overL,reps,List.replicate_succ]
theorem reps_next {k n:Nat} {v:Int} (h:k≤n):(reps k n v).take k++overL (((reps k n v).take n).drop k) (((reps k n v).take k).drop 0)++(reps k n v).drop n=reps (k+min k (n - k)) n v:=by
 have e1:(reps k n v).take k=List.replicate k v:=by simp [reps]
 have e2:(reps k n v).take n=reps k n v:=List.take_of_length_le (by rw [reps_len h];omega)
 have e3:(reps k n v).drop n=[]:=List.drop_eq_nil_of_le (by rw [reps_len h];omega)
 have e4:(reps k n v).drop k=List.replicate (n - k) 0:=by simp [reps]
 rw [e1,e2,e3,e4,List.drop_zero,List.append_nil]
 unfold overL reps
 rw [List.length_replicate,List.length_replicate,List.take_replicate,List.drop_replicate,←List.append_assoc,List.replicate_append_replicate]
 congr 2
 ·omega
 ·omega
theorem C_slices_Repeat (v:Int) (n:Nat) (h:n≤1048576) (Q:List AV→Prop):mc.C f_slices_Repeat_Sint_int [⟨L I,[v]⟩,⟨I,(n:Int)⟩] Q=Q [⟨L I,List.replicate n v⟩]:=by
 refine Mc.Ends.c (mc.ends F_slices_Repeat_Sint_int ?_)
 have w1:IntKind.u64.wrap 1=1:=by decide
 have w:=wrap_u64 (n:=n) (by omega)
 simp+contextual(maxSteps:=1000000)(disch:=omega)only[↓Sd,↓So,↓Sk,↓den,↓denA,Sa,Sb,Sc,Se,O1.d,O2.d,O3.d,cmI,arI,envOf,putN,↓reduceIte,Nat.reduceLT,Nat.reduceSub,Nat.reduceAdd,Int.reduceAdd,Int.reduceEq,Int.reduceLT,Int.reduceLE,arr_pos,arr_neg,tr_slices_Repeat_Sint_int,w1,w,C_math_bits_Mul1 n h,reps_over0,List.length_replicate]
 refine mc.lp_inv (fun j us=>∃k:Nat,us=[⟨I,(k:Int)⟩,⟨L I,reps k n v⟩]∧k≤n∧(n=0∨1≤k)∧j=n - k) (n - min 1 n) _ ⟨min 1 n,?_,Nat.min_le_right ..,by omega,rfl⟩ ?_
 ·rw [show (if (n:Int)<1 then (n:Int) else 1)=((min 1 n:Nat):Int) by omega]
 rintro j us ⟨k,rfl,i1,i2,rfl⟩
 have hl:=reps_len (v:=v) i1
 have l1:(List.drop k (List.take n (reps k n v))).length=n - k:=by rw [List.length_drop,List.length_take,hl];omega
 have l2:(List.drop 0 (List.take k (reps k n v))).length=k:=by rw [List.length_drop,List.length_take,hl];omega
 simp+contextual(maxSteps:=1000000)(disch:=omega)only[↓Sd,↓So,↓Sk,↓den,↓denA,Sa,Sb,Sc,Se,O1.d,O2.d,O3.d,cmI,arI,envOf,putN,↓reduceIte,Nat.reduceLT,Nat.reduceSub,Nat.reduceAdd,Int.reduceAdd,Int.reduceEq,Int.reduceLT,Int.reduceLE,arr_pos,arr_neg,↓wpJoin,hl,l1,l2,reps_next i1]
 refine ⟨fun g=>?_,fun g=>?_⟩
 ·have hkn:k<n:=Int.ofNat_lt.1 g
  refine ⟨_,?_,k+min k (n - k),⟨?_,rfl⟩,by omega,by omega,rfl⟩
  ·omega
  rw [show (if ((n - k:Nat):Int)<(k:Int) then ((n - k:Nat):Int) else (k:Int))=((min k (n - k):Nat):Int) by omega]
  rw [wrap_id (by omega) (by omega)]
  exact (Int.natCast_add _ _).symm
 ·have hkn:¬k<n:=fun hh=>g (Int.ofNat_lt.2 hh)
  have:k=n:=by omega
  subst this
  simp [reps]
def Lay (T:List (List Int)) (F:List Int):Nat→Nat→Prop
 | 0,k=>(k:Int)∈F
 | d+1,k=>Lay T F d k∨∃a,Lay T F d a∧(k:Int)∈T.getD a []
theorem least {P:Nat→Prop} (h:∃d,P d):∃d,P d∧∀e,e<d→¬P e:=by
 obtain ⟨d,hd⟩:=h
 induction d using Nat.strongRecOn with
 | ind d ih =>
  by_cases g:∃e,e<d∧P e
  ·obtain ⟨e,h1,h2⟩:=g;exact ih e h1 h2
  ·exact ⟨d,hd,fun e he hp=>g ⟨e,he,hp⟩⟩
open Classical in
noncomputable def dst (T:List (List Int)) (F:List Int) (k:Nat):Int:=if h:∃d,Lay T F d k then ((Classical.choose (least h):Nat):Int) else -1
theorem Lay.up {T:List (List Int)} {F:List Int} {d e k:Nat} (h:Lay T F d k) (he:d≤e):Lay T F e k:=by
 induction e with
 | zero => have : d = 0 := by omega
           subst this;exact h
 | succ e ih =>
  by_cases g:d≤e
  ·exact .inl (ih g)
  ·have:d=e+1:=by omega
   subst this;exact h
theorem Lay.rch {T:List (List Int)} {F:List Int}:∀{d k:Nat},Lay T F d k→Rch T F k
 | 0,k,h=>.base h
 | d+1,k,h=>h.elim Lay.rch fun ⟨a,h1,h2⟩=>.step (Lay.rch h1) h2
theorem rch_lay {T:List (List Int)} {F:List Int} {k:Nat} (h:Rch T F k):∃d,Lay T F d k:=by
 induction h with
 | base h=>exact ⟨0,h⟩
 | step _ h ih=>obtain ⟨d,hd⟩:=ih;exact ⟨d+1,.inr ⟨_,hd,h⟩⟩
structure IsDst (T:List (List Int)) (F:List Int) (n:Nat) (f:Nat→Int):Prop where
 ge:∀k,k<n → -1≤f k
 zero:∀k,k<n→(f k=0↔(k:Int)∈F)
 pre:∀k,k<n→0<f k→∃a,a<n∧f a+1=f k∧(k:Int)∈T.getD a []
 nxt:∀a,a<n→0≤f a→∀k:Nat,(k:Int)∈T.getD a []→0≤f k∧f k≤f a+1
theorem IsDst.eq {T:List (List Int)} {F:List Int} {n:Nat} {f:Nat→Int} (ht:Tbl T n) (hF:∀x∈F,0≤x∧x<n) (h:IsDst T F n f):∀k,k<n→f k=dst T F k:=by
 have a1:∀d k,k<n→f k=(d:Nat)→Lay T F d k:=by
  intro d
  induction d with
  | zero=>intro k hk h1;exact (h.zero k hk).1 h1
  | succ d ih =>
   intro k hk h1
   obtain ⟨a,b1,b2,b3⟩:=h.pre k hk (by omega)
   exact .inr ⟨a,ih a b1 (by omega),b3⟩
 have a2:∀d k,Lay T F d k→k<n∧0≤f k∧f k≤(d:Nat):=by
  intro d
  induction d with
  | zero => intro k h1; have := hF _ h1; have hk : k < n := by omega
            have:=(h.zero k hk).2 h1;exact ⟨hk,by omega,by omega⟩
  | succ d ih =>
   intro k h1
   rcases h1 with h1 | ⟨a,h1,h2⟩
   ·have:=ih k h1;exact ⟨this.1,this.2.1,by omega⟩
   ·obtain ⟨b1,b2,b3⟩:=ih a h1
    have:=ht.row _ h2
    have:=h.nxt a b1 b2 k h2
    exact ⟨by omega,this.1,by omega⟩
 intro k hk
 unfold dst
 by_cases g:∃d,Lay T F d k
 ·rw [dif_pos g]
  obtain ⟨b1,b2⟩:=Classical.choose_spec (least g)
  generalize Classical.choose (least g)=d at b1 b2
  obtain ⟨-,c1,c2⟩:=a2 d k b1
  have c3:=a1 (f k).toNat k hk (by omega)
  have:¬(f k).toNat<d:=fun hh=>b2 _ hh c3
  omega
 ·rw [dif_neg g]
  have:=h.ge k hk
  by_cases g2:0≤f k
  ·exact absurd ⟨_,a1 (f k).toNat k hk (by omega)⟩ g
  ·omega
theorem dst_rch {T:List (List Int)} {F:List Int} {k:Nat}:0≤dst T F k↔Rch T F k:=by
 unfold dst
 constructor
 ·intro h
  by_cases g:∃d,Lay T F d k
  ·obtain ⟨d,hd⟩:=g;exact hd.rch
  ·rw [dif_neg g] at h;omega
 ·intro h
  rw [dif_pos (rch_lay h)];omega
structure Bfs (T:List (List Int)) (m n:Nat) (f:Nat→Int) (q:List Nat) (ex:Nat→Prop):Prop where
 ge:∀k,k<n → -1≤f k
 zero:∀k,k<n→(f k=0↔k=m)
 pre:∀k,k<n→0<f k→∃a,a<n∧f a+1=f k∧(k:Int)∈T.getD a []
 inq:∀x∈q,x<n∧0≤f x
 sorted:q.Pairwise fun a b=>f a≤f b
 closed:∀a,a<n→0≤f a→a∉q→¬ex a→∀k:Nat,(k:Int)∈T.getD a []→0≤f k∧f k≤f a+1
 top:∀k,k<n→f k+cntF (fun k=>decide (0≤f k)) n≤n
theorem cntF_congr {p q:Nat→Bool} {n:Nat} (h:∀k,k<n→p k=q k):cntF p n=cntF q n:=by
 unfold cntF
 rw [upTo_congr fun k hk=>by rw [h k hk]]
theorem Bfs.visit {T:List (List Int)} {m n x y:Nat} {f:Nat→Int} {q:List Nat} (h:Bfs T m n f q (·=x)) (hx:x<n) (hfx:0≤f x) (hy:y<n) (hfy:f y<0) (hm:m<n) (hT:(y:Int)∈T.getD x []) (hb:∀k,k<n→f k≤f x+1) :
  Bfs T m n (fun k=>if k=y then f x+1 else f k) (q++[y]) (·=x)∧cntF (fun k=>decide (0≤(if k=y then f x+1 else f k))) n+1=cntF (fun k=>decide (0≤f k)) n:=by
 have hxy:¬x=y:=by rintro rfl;omega
 have hc:cntF (fun k=>decide (0≤(if k=y then f x+1 else f k))) n+1=cntF (fun k=>decide (0≤f k)) n:=by
  have:=cntF_set (p:=fun k=>decide (0≤f k)) (j:=y) (by simp;omega) (n:=n) hy
  rw [←this]
  congr 1
  refine cntF_congr fun k _=>?_
  by_cases g:k=y
  ·simp [g];omega
  ·simp [g]
 refine ⟨⟨fun k hk=>?_,fun k hk=>?_,fun k hk h1=>?_,fun z hz=>?_,?_,fun a ha h1 h2 h3 k hk=>?_,fun k hk=>?_⟩,hc⟩
 ·have:=h.ge k hk;split<;>omega
 ·have:=h.zero k hk
  have:=h.zero m hm
  split
  ·rename_i g;subst g
   constructor
   ·intro h1;omega
   ·intro h1;subst h1;omega
  ·assumption
 ·by_cases g:k=y
  ·subst g
   exact ⟨x,hx,by simp [hxy],hT⟩
  ·simp only [g,if_false] at h1 ⊢
   obtain ⟨a,b1,b2,b3⟩:=h.pre k hk h1
   have:¬a=y:=by rintro rfl;omega
   exact ⟨a,b1,by simp [this,b2],b3⟩
 ·rcases List.mem_append.1 hz with hz | hz
  ·have:=h.inq z hz
   refine ⟨this.1,?_⟩
   split<;>omega
  ·simp only [List.mem_singleton] at hz
   subst hz
   exact ⟨hy,by simp;omega⟩
 ·refine List.pairwise_append.2 ⟨?_,List.pairwise_singleton _ _,?_⟩
  ·refine h.sorted.imp_of_mem ?_
   intro a b ha hb2 hab
   have h1:=(h.inq a ha).2
   have h2:=(h.inq b hb2).2
   have e1:¬a=y:=by rintro rfl;omega
   have e2:¬b=y:=by rintro rfl;omega
   simp only [e1,e2,if_false];exact hab
  ·intro a ha b hb2
   simp only [List.mem_singleton] at hb2
   subst hb2
   have h1:=h.inq a ha
   have e1:¬a=b:=by rintro rfl;omega
   simp only [e1,if_false,if_true]
   exact hb a h1.1
 ·simp only [List.mem_append,List.mem_singleton,not_or] at h2
  have e1:¬a=y:=h2.2
  simp only [e1,if_false] at h1 ⊢
  have:=h.closed a ha h1 h2.1 h3 k hk
  have e2:¬k=y:=by rintro rfl;omega
  simp only [e2,if_false];exact this
 ·have:=h.top k hk
  have:=h.top x hx
  split<;>omega
structure Rnd (T:List (List Int)) (p:Nat→Bool) (n:Nat) (d a0 C:Nat) (ag:Bool) (f:Nat→Int):Prop where
 ge:∀k,k<n → -1≤f k
 zero:∀k,k<n→(f k=0↔p k=true)
 pre:∀k,k<n→0<f k→∃a,a<n∧f a+1=f k∧(k:Int)∈T.getD a []
 le:∀k,k<n→f k≤(d:Int)+1
 closed:∀a,a<n→0≤f a→(f a<d∨f a=d∧a<a0)→∀k:Nat,(k:Int)∈T.getD a []→0≤f k∧f k≤f a+1
 none:ag=false→∀k,k<n→f k≤d
 cnt:cntF (fun k=>decide (0≤f k)) n≤C
 less:ag=true→cntF (fun k=>decide (0≤f k)) n<C
theorem Rnd.visit {T:List (List Int)} {p:Nat→Bool} {n d a0 C y:Nat} {ag:Bool} {f:Nat→Int} (h:Rnd T p n d a0 C ag f) (ha:a0<n) (hfa:f a0=d) (hy:y<n) (hfy:f y<0) (hT:(y:Int)∈T.getD a0 []) :
  Rnd T p n d a0 C true (fun k=>if k=y then (d:Int)+1 else f k):=by
 have hay:¬a0=y:=by rintro rfl;omega
 have hc:cntF (fun k=>decide (0≤(if k=y then (d:Int)+1 else f k))) n+1=cntF (fun k=>decide (0≤f k)) n:=by
  have:=cntF_set (p:=fun k=>decide (0≤f k)) (j:=y) (by simp;omega) (n:=n) hy
  rw [←this]
  congr 1
  refine cntF_congr fun k _=>?_
  by_cases g:k=y
  ·simp [g];omega
  ·simp [g]
 have hcn:=h.cnt
 refine ⟨fun k hk=>?_,fun k hk=>?_,fun k hk h1=>?_,fun k hk=>?_,fun a h1 h2 h3 k hk=>?_,fun g=>(by cases g),by omega,fun _=>by omega⟩
 ·have:=h.ge k hk;split<;>omega
 ·have:=h.zero k hk
  split
  ·rename_i g;subst g
   constructor
   ·intro h1;omega
   ·intro h1;have:=this.2 h1;omega
  ·exact this
 ·by_cases g:k=y
  ·subst g
   exact ⟨a0,ha,by simp [hay,hfa],hT⟩
  ·simp only [g,if_false] at h1 ⊢
   obtain ⟨a,b1,b2,b3⟩:=h.pre k hk h1
   have:¬a=y:=by rintro rfl;omega
   exact ⟨a,b1,by simp [this,b2],b3⟩
 ·have:=h.le k hk;split<;>omega
 ·by_cases e1:a=y
  ·simp only [e1,if_true] at h3;omega
  ·simp only [e1,if_false] at h2 h3 ⊢
   have:=h.closed a h1 h2 h3 k hk
   have e2:¬k=y:=by rintro rfl;omega
   simp only [e2,if_false];exact this
theorem Rnd.skip {T:List (List Int)} {p:Nat→Bool} {n d a0 C:Nat} {ag:Bool} {f:Nat→Int} (h:Rnd T p n d a0 C ag f) (ht:Tbl T n) (hx:f a0=d→∀k:Nat,(k:Int)∈T.getD a0 []→0≤f k):Rnd T p n d (a0+1) C ag f:=by
 refine ⟨h.ge,h.zero,h.pre,h.le,fun a h1 h2 h3 k hk=>?_,h.none,h.cnt,h.less⟩
 by_cases e:a=a0
 ·subst e
  rcases h3 with h3 | h3
  ·exact h.closed a h1 h2 (.inl h3) k hk
  ·have h4:=ht.row _ hk
   have h5:=h.le k (by omega)
   exact ⟨hx h3.1 k hk,by omega⟩
 ·refine h.closed a h1 h2 (h3.imp_right fun h4=>⟨h4.1,?_⟩) k hk
  omega
theorem C_spec_l5Steps (T:List (List Int)) (p:Nat→Bool) (F:List Int) (n:Nat) (hn:n≤1000) (ht:Tbl T n) (hF:∀x∈F,0≤x∧x<n) (hp:∀k,k<n→(p k=true↔(k:Int)∈F)) (Q:List AV→Prop) :
  mc.C f_spec_l5Steps [⟨L (L I),T⟩,⟨L B,tab p n⟩] Q=Q [⟨L I,tab (dst T F) n⟩]:=by
 have hl:=ht.1
 refine Mc.Ends.c (mc.ends F_spec_l5Steps ?_)
 simp+contextual(maxSteps:=1000000)(disch:=omega)only[↓Sd,↓So,↓Sk,↓den,↓denA,Sa,Sb,Sc,Se,O1.d,O2.d,O3.d,cmI,arI,envOf,putN,↓reduceIte,Nat.reduceLT,Nat.reduceSub,Nat.reduceAdd,Int.reduceAdd,Int.reduceEq,Int.reduceLT,Int.reduceLE,arr_pos,arr_neg,tr_spec_l5Steps]
 refine mc.lp_for (List Int) (fun i o=>[⟨L (L I),T⟩,⟨L B,tab p n⟩,⟨I,(i:Int)⟩,⟨L I,o⟩]) (fun i o=>o=tab (fun k=>if p k=true then 0 else -1) i) n 0 [] _ rfl (Nat.zero_le _) rfl ?_ ?_
 ·rintro i o hi rfl
  simp+contextual(maxSteps:=1000000)(disch:=omega)only[↓Sd,↓So,↓Sk,↓den,↓denA,Sa,Sb,Sc,Se,O1.d,O2.d,O3.d,cmI,arI,envOf,putN,↓reduceIte,Nat.reduceLT,Nat.reduceSub,Nat.reduceAdd,Int.reduceAdd,Int.reduceEq,Int.reduceLT,Int.reduceLE,arr_pos,arr_neg,↓wpJoin,hl,tab_len,tab_get hi]
  refine ⟨fun g=>?_,fun g=>?_⟩
  ·rw [←tab_next];simp [g]
  ·rw [←tab_next];simp [g]
 rintro o rfl
 obtain ⟨f0,hf0⟩:∃f0:Nat→Int,(fun k=>if p k=true then (0:Int) else -1)=f0:=⟨_,rfl⟩
 have h0:∀k,(p k=true→f0 k=0)∧(¬p k=true→f0 k = -1):=fun k=>by rw [←hf0];exact ⟨fun g=>by simp [g],fun g=>by simp [g]⟩
 rw [hf0]
 clear hf0
 simp+contextual(maxSteps:=1000000)(disch:=omega)only[↓Sd,↓So,↓Sk,↓den,↓denA,Sa,Sb,Sc,Se,O1.d,O2.d,O3.d,cmI,arI,envOf,putN,↓reduceIte,Nat.reduceLT,Nat.reduceSub,Nat.reduceAdd,Int.reduceAdd,Int.reduceEq,Int.reduceLT,Int.reduceLE,arr_pos,arr_neg,hl]
 refine mc.lp_inv (fun j us=>∃(f:Nat→Int) (ag:Bool) (d:Nat),us=[⟨L (L I),T⟩,⟨B,ag⟩,⟨I,(d:Int)⟩,⟨L I,tab f n⟩]∧(∀k,k<n → -1≤f k)∧(∀k,k<n→(f k=0↔p k=true))∧(∀k,k<n→0<f k→∃a,a<n∧f a+1=f k∧(k:Int)∈T.getD a []) ∧
  (∀a,a<n→0≤f a→f a<d→∀k:Nat,(k:Int)∈T.getD a []→0≤f k∧f k≤f a+1)∧(∀k,k<n→f k≤d)∧(ag=false→∀k,k<n→f k<d)∧(ag=true→d+cntF (fun k=>decide (0≤f k)) n≤n) ∧
  j=if ag=true then cntF (fun k=>decide (0≤f k)) n+1 else 0) _ _ ⟨f0,true,0,rfl,fun k _=>?_,fun k _=>?_,fun k _ h=>?_,fun a _ h1 h2=>(by omega),fun k _=>?_,fun g=>(by cases g),fun _=>?_,rfl⟩ ?_
 ·have:=h0 k
  by_cases g:p k=true
  ·have:=this.1 g;omega
  ·have:=this.2 g;omega
 ·have:=h0 k
  by_cases g:p k=true
  ·simp [g,this.1 g]
  ·simp [g,this.2 g]
 ·have:=h0 k
  by_cases g:p k=true
  ·have:=this.1 g;omega
  ·have:=this.2 g;omega
 ·have:=h0 k
  by_cases g:p k=true
  ·have:=this.1 g;omega
  ·have:=this.2 g;omega
 ·have:cntF (fun k=>decide (0≤f0 k)) n≤n:=cntF_le
  omega
 rintro j us ⟨f,ag,d,rfl,i1,i2,i3,i4,i5,i6,i7,rfl⟩
 cases ag with
 | false =>
  simp+contextual(maxSteps:=1000000)(disch:=omega)only[↓Sd,↓So,↓Sk,↓den,↓denA,Sa,Sb,Sc,Se,O1.d,O2.d,O3.d,cmI,arI,envOf,putN,↓reduceIte,Nat.reduceLT,Nat.reduceSub,Nat.reduceAdd,Int.reduceAdd,Int.reduceEq,Int.reduceLT,Int.reduceLE,arr_pos,arr_neg,]
  exact tab_congr (IsDst.eq ht hF ⟨i1,fun k hk=>by rw [i2 k hk,hp k hk],i3,fun a ha h1 k hk=>i4 a ha h1 (i6 rfl a ha) k hk⟩)
 | true =>
  have i7:=i7 rfl
  simp+contextual(maxSteps:=1000000)(disch:=omega)only[↓Sd,↓So,↓Sk,↓den,↓denA,Sa,Sb,Sc,Se,O1.d,O2.d,O3.d,cmI,arI,envOf,putN,↓reduceIte,Nat.reduceLT,Nat.reduceSub,Nat.reduceAdd,Int.reduceAdd,Int.reduceEq,Int.reduceLT,Int.reduceLE,arr_pos,arr_neg,]
  generalize hC:cntF (fun k=>decide (0≤f k)) n=C at *
  refine mc.lp_for ((Nat→Int)×Bool) (fun a s=>[⟨L (L I),T⟩,⟨B,s.2⟩,⟨I,(d:Int)⟩,⟨I,(a:Int)⟩,⟨L I,tab s.1 n⟩]) (fun a s=>Rnd T p n d a C s.2 s.1) n 0 (f,false) _ rfl (Nat.zero_le _)
   ⟨i1,i2,i3,fun k hk=>Int.le_trans (i5 k hk) (by omega),fun a ha h1 h2 k hk=>i4 a ha h1 (h2.elim id fun h=>by omega) k hk,fun _=>i5,by rw [hC];exact Nat.le_refl _,fun g=>(by cases g)⟩ ?_ ?_
  ·rintro a0 ⟨f1,ag1⟩ ha0 hR
   simp only at hR
   obtain ⟨row,hr⟩:∃row,T.getD a0 []=row:=⟨_,rfl⟩
   have hrow:=ht.row (i:=a0)
   have hrl:(T.getD a0 []).length≤1048576:=(ht.2 _ (getD_mem (by omega))).1
   rw [hr] at hrow hrl
   simp+contextual(maxSteps:=1000000)(disch:=omega)only[↓Sd,↓So,↓Sk,↓den,↓denA,Sa,Sb,Sc,Se,O1.d,O2.d,O3.d,cmI,arI,envOf,putN,↓reduceIte,Nat.reduceLT,Nat.reduceSub,Nat.reduceAdd,Int.reduceAdd,Int.reduceEq,Int.reduceLT,Int.reduceLE,arr_pos,arr_neg,hl]
   refine mc.lp_for ((Nat→Int)×Bool) (fun i s=>[⟨L (L I),T⟩,⟨B,s.2⟩,⟨I,(d:Int)⟩,⟨I,(a0:Int)⟩,⟨I,(i:Int)⟩,⟨L I,tab s.1 n⟩]) (fun i s=>Rnd T p n d a0 C s.2 s.1∧∀k:Nat,(k:Int)∈row.take i→s.1 a0=d→0≤s.1 k) row.length 0 (f1,ag1) _ rfl (Nat.zero_le _) ⟨hR,by simp⟩ ?_ ?_
   ·rintro i ⟨f2,ag2⟩ hi ⟨b1,b2⟩
    simp only at b1 b2
    have hy:=hrow _ (getD_mem (d:=0) hi)
    obtain ⟨y,hy2⟩:∃y:Nat,row.getD i 0=y:=⟨(row.getD i 0).toNat,by omega⟩
    have hyn:y<n:=by omega
    have hwr:IntKind.i64.wrap ((d:Int)+1)=(d:Int)+1:=wrap_id (by omega) (by omega)
    simp+contextual(maxSteps:=1000000)(disch:=omega)only[↓Sd,↓So,↓Sk,↓den,↓denA,Sa,Sb,Sc,Se,O1.d,O2.d,O3.d,cmI,arI,envOf,putN,↓reduceIte,Nat.reduceLT,Nat.reduceSub,Nat.reduceAdd,Int.reduceAdd,Int.reduceEq,Int.reduceLT,Int.reduceLE,arr_pos,arr_neg,↓wpJoin,hl,hr,hy2,tab_len,tab_get hyn,tab_get ha0,Int.toNat_natCast,tab_set',hwr]
    refine ⟨fun g=>⟨fun g2=>?_,fun g2=>?_⟩,fun g=>?_⟩
    ·have hv:=b1.visit ha0 g hyn g2 (by rw [hr,←hy2];exact getD_mem hi)
     refine ⟨(fun k=>if k=y then (d:Int)+1 else f2 k,true),⟨rfl,rfl⟩,hv,fun k hk h3=>?_⟩
     simp only []
     split
     ·omega
     ·rename_i hky
      rcases (mem_take_next hi).1 hk with h | h
      ·exact b2 k h g
      ·exact absurd (by omega) hky
    ·refine ⟨(f2,ag2),⟨rfl,rfl⟩,b1,fun k hk h3=>?_⟩
     rcases (mem_take_next hi).1 hk with h | h
     ·exact b2 k h h3
     ·rw [show k=y by omega];simp only [];omega
    ·exact ⟨(f2,ag2),⟨rfl,rfl⟩,b1.skip ht fun h=>absurd h g⟩
   ·rintro ⟨f2,ag2⟩ ⟨b1,b2⟩
    rw [List.take_length] at b2
    simp only at b1 b2
    simp+contextual(maxSteps:=1000000)(disch:=omega)only[↓Sd,↓So,↓Sk,↓den,↓denA,Sa,Sb,Sc,Se,O1.d,O2.d,O3.d,cmI,arI,envOf,putN,↓reduceIte,Nat.reduceLT,Nat.reduceSub,Nat.reduceAdd,Int.reduceAdd,Int.reduceEq,Int.reduceLT,Int.reduceLE,arr_pos,arr_neg,hl,hr]
    exact ⟨(f2,ag2),⟨rfl,rfl⟩,b1.skip ht fun h k hk=>b2 k (by rw [←hr];exact hk) h⟩
  ·rintro ⟨f1,ag1⟩ hR
   simp only at hR
   have hwr:IntKind.i64.wrap ((d:Int)+1)=(d:Int)+1:=wrap_id (by omega) (by omega)
   simp+contextual(maxSteps:=1000000)(disch:=omega)only[↓Sd,↓So,↓Sk,↓den,↓denA,Sa,Sb,Sc,Se,O1.d,O2.d,O3.d,cmI,arI,envOf,putN,↓reduceIte,Nat.reduceLT,Nat.reduceSub,Nat.reduceAdd,Int.reduceAdd,Int.reduceEq,Int.reduceLT,Int.reduceLE,arr_pos,arr_neg,hl,hwr]
   have hcnt:=hR.cnt
   refine ⟨_,?_,f1,ag1,d+1,⟨rfl,by rw [Int.natCast_add];rfl,rfl⟩,hR.ge,hR.zero,hR.pre,fun a ha h1 h2 k hk=>hR.closed a ha h1 ?_ k hk,fun k hk=>?_,fun g k hk=>?_,fun g=>?_,rfl⟩
   ·cases ag1 with
    | true=>have:=hR.less rfl;simp only [if_true];omega
    | false=>simp
   ·by_cases g:f1 a<d
    ·exact .inl g
    ·exact .inr ⟨by omega,ha⟩
   ·have:=hR.le k hk;omega
   ·have:=hR.none g k hk;omega
   ·have:=hR.less g;omega
theorem Rch.trans {T:List (List Int)} {a b c:Nat} (h:Rch T [(a:Int)] b) (h2:Rch T [(b:Int)] c):Rch T [(a:Int)] c:=by
 induction h2 with
 | base h3=>simp only [List.mem_singleton] at h3;have h3:=Int.ofNat_inj.1 h3;subst h3;exact h
 | step _ h3 ih=>exact .step ih h3
theorem Rch.one {T:List (List Int)} {a:Nat}:Rch T [(a:Int)] a:=.base (by simp)
def Rev (T U:List (List Int)) (n:Nat):Prop:=∀k a:Nat,k<n→((a:Int)∈U.getD k []↔a<n∧(k:Int)∈T.getD a [])
theorem rch_rev {T U:List (List Int)} {n i k:Nat} (hu:Tbl U n) (ht:Tbl T n) (hr:Rev T U n) (hi:i<n) (hk:k<n):Rch U [(i:Int)] k↔Rch T [(k:Int)] i:=by
 constructor
 ·intro h
  have key:∀k,Rch U [(i:Int)] k→k<n∧Rch T [(k:Int)] i:=by
   intro k h
   induction h with
   | base h1=>simp only [List.mem_singleton] at h1;have h1:=Int.ofNat_inj.1 h1;subst h1;exact ⟨hi,.one⟩
   | step _ h1 ih =>
    obtain ⟨h2,h3⟩:=(hr _ _ ih.1).1 h1
    exact ⟨h2,Rch.trans (.step .one h3) ih.2⟩
  exact (key k h).2
 ·intro h
  have key:∀i,Rch T [(k:Int)] i→i<n∧Rch U [(i:Int)] k:=by
   intro i h
   induction h with
   | base h1=>simp only [List.mem_singleton] at h1;have h1:=Int.ofNat_inj.1 h1;subst h1;exact ⟨hk,.one⟩
   | step _ h1 ih =>
    have h2:=ht.row _ h1
    have h3:=(hr _ _ (by omega)).2 ⟨ih.1,h1⟩
    exact ⟨by omega,Rch.trans (.step .one h3) ih.2⟩
  exact (key i h).2
theorem rev_turned {T:List (List Int)} {n:Nat}:Rev T (turned T n) n:=fun k a hk=>turned_get hk
def eqv (T:List (List Int)) (i k:Nat):Prop:=Rch T [(i:Int)] k∧Rch T [(k:Int)] i
noncomputable def cmp (T:List (List Int)):Nat→Nat→Int
 | 0,_ => -1
 | i+1,k=>if 0≤cmp T i k then cmp T i k else if dB (eqv T i k)=true then (i:Int) else -1
theorem cmp_spec {T:List (List Int)}:∀{i k:Nat},(0≤cmp T i k↔∃m,m<i∧eqv T m k) ∧ -1≤cmp T i k
 | 0,k=>⟨⟨fun h=>by simp [cmp] at h,fun ⟨m,h,_⟩=>absurd h (Nat.not_lt_zero _)⟩,by simp [cmp]⟩
 | i+1,k=>by
  have ih:=@cmp_spec T i k
  unfold cmp
  by_cases g:0≤cmp T i k
  ·rw [if_pos g]
   obtain ⟨m,h1,h2⟩:=ih.1.1 g
   exact ⟨⟨fun _=>⟨m,by omega,h2⟩,fun _=>g⟩,by omega⟩
  ·rw [if_neg g]
   by_cases g2:eqv T i k
   ·rw [if_pos (dB_t g2)]
    exact ⟨⟨fun _=>⟨i,by omega,g2⟩,fun _=>by omega⟩,by omega⟩
   ·rw [if_neg (by rw [dB_f g2];simp)]
    refine ⟨⟨fun h=>by omega,fun ⟨m,h1,h2⟩=>?_⟩,by omega⟩
    by_cases e:m=i
    ·subst e;exact absurd h2 g2
    ·exact absurd (ih.1.2 ⟨m,by omega,h2⟩) g
theorem cmp_old {T:List (List Int)} {i k:Nat} (h:0≤cmp T i i):cmp T (i+1) k=cmp T i k:=by
 have h1:=@cmp_spec T i k
 rw [cmp]
 by_cases g:0≤cmp T i k
 ·rw [if_pos g]
 ·rw [if_neg g,if_neg]
  ·have h2:=h1.2
   omega
  ·intro h2
   have h2:=dB_iff.1 h2
   obtain ⟨m,h3,h4⟩:=cmp_spec.1.1 h
   exact g (h1.1.2 ⟨m,h3,h4.1.trans h2.1,h2.2.trans h4.2⟩)
theorem cmp_new {T:List (List Int)} {i k:Nat} (h:¬0≤cmp T i i):cmp T (i+1) k=if dB (eqv T i k)=true then (i:Int) else cmp T i k:=by
 have h1:=@cmp_spec T i k
 rw [cmp]
 by_cases g2:eqv T i k
 ·rw [if_pos (dB_t g2),if_pos (dB_t g2),if_neg]
  intro g
  obtain ⟨m,h3,h4⟩:=h1.1.1 g
  exact h (cmp_spec.1.2 ⟨m,h3,h4.1.trans g2.2,g2.1.trans h4.2⟩)
 ·have e:¬dB (eqv T i k)=true:=by rw [dB_f g2];simp
  rw [if_neg e,if_neg e]
  have h2:=h1.2
  split
  ·rfl
  ·omega
theorem eqv_sym {T:List (List Int)} {i k:Nat} (h:eqv T i k):eqv T k i:=⟨h.2,h.1⟩
theorem cmp_row_y {T:List (List Int)} {n i j:Nat} (h:¬0≤cmp T i i) (g:eqv T i j) :
  tab (fun k=>if k=j then (i:Int) else if k<j then cmp T (i+1) k else cmp T i k) n=tab (fun k=>if k<j+1 then cmp T (i+1) k else cmp T i k) n:=by
 refine tab_congr fun k _=>?_
 by_cases e:k=j
 ·subst e
  rw [if_pos rfl,if_pos (by omega),cmp_new h,if_pos (dB_t g)]
 ·rw [if_neg e]
  by_cases e2:k<j
  ·rw [if_pos e2,if_pos (by omega)]
  ·rw [if_neg e2,if_neg (by omega)]
theorem cmp_row_n {T:List (List Int)} {n i j:Nat} (h:¬0≤cmp T i i) (g:¬eqv T i j) :
  tab (fun k=>if k<j then cmp T (i+1) k else cmp T i k) n=tab (fun k=>if k<j+1 then cmp T (i+1) k else cmp T i k) n:=by
 refine tab_congr fun k _=>?_
 by_cases e:k=j
 ·subst e
  have:¬dB (eqv T i k)=true:=by rw [dB_f g];simp
  rw [if_neg (by omega),if_pos (by omega),cmp_new h,if_neg this]
 ·by_cases e2:k<j
  ·rw [if_pos e2,if_pos (by omega)]
  ·rw [if_neg e2,if_neg (by omega)]
theorem cmp_row_s {T:List (List Int)} {n i:Nat} (h:¬0≤cmp T i i):tab (cmp T i) n=tab (fun k=>if k<i then cmp T (i+1) k else cmp T i k) n:=by
 refine tab_congr fun k _=>?_
 split
 ·rename_i g
  have:¬dB (eqv T i k)=true:=fun g2=>h (cmp_spec.1.2 ⟨k,g,eqv_sym (dB_iff.1 g2)⟩)
  rw [cmp_new h,if_neg this]
 ·rfl
theorem cmp_row_e {T:List (List Int)} {n i:Nat}:tab (fun k=>if k<n then cmp T (i+1) k else cmp T i k) n=tab (cmp T (i+1)) n:=tab_congr fun k hk=>if_pos hk
theorem C_spec_l5Parts (T:List (List Int)) (n:Nat) (ht:Tb8 T n) (Q:List AV→Prop):mc.C f_spec_l5Parts [⟨L (L I),T⟩] Q=Q [⟨L I,tab (cmp T n) n⟩]:=by
 have hl:=ht.1.1
 have hn:=ht.2.1
 have htt:=turned_tbl (T:=T) (n:=n) (by omega)
 refine Mc.Ends.c (mc.ends F_spec_l5Parts ?_)
 simp+contextual(maxSteps:=1000000)(disch:=omega)only[↓Sd,↓So,↓Sk,↓den,↓denA,Sa,Sb,Sc,Se,O1.d,O2.d,O3.d,cmI,arI,envOf,putN,↓reduceIte,Nat.reduceLT,Nat.reduceSub,Nat.reduceAdd,Int.reduceAdd,Int.reduceEq,Int.reduceLT,Int.reduceLE,arr_pos,arr_neg,tr_spec_l5Parts,C_spec_l5Turned T n (by omega) ht.1]
 refine mc.lp_for (List Int) (fun i o=>[⟨L (L I),T⟩,⟨I,(i:Int)⟩,⟨L (L I),turned T n⟩,⟨L I,o⟩]) (fun i o=>o=tab (fun _ => -1) i) n 0 [] _ rfl (Nat.zero_le _) rfl ?_ ?_
 ·rintro i o hi rfl
  simp+contextual(maxSteps:=1000000)(disch:=omega)only[↓Sd,↓So,↓Sk,↓den,↓denA,Sa,Sb,Sc,Se,O1.d,O2.d,O3.d,cmI,arI,envOf,putN,↓reduceIte,Nat.reduceLT,Nat.reduceSub,Nat.reduceAdd,Int.reduceAdd,Int.reduceEq,Int.reduceLT,Int.reduceLE,arr_pos,arr_neg,hl,tab_len]
  exact tab_next
 rintro o rfl
 simp+contextual(maxSteps:=1000000)(disch:=omega)only[↓Sd,↓So,↓Sk,↓den,↓denA,Sa,Sb,Sc,Se,O1.d,O2.d,O3.d,cmI,arI,envOf,putN,↓reduceIte,Nat.reduceLT,Nat.reduceSub,Nat.reduceAdd,Int.reduceAdd,Int.reduceEq,Int.reduceLT,Int.reduceLE,arr_pos,arr_neg,hl]
 refine mc.lp_for (List Int) (fun i o=>[⟨L (L I),T⟩,⟨I,(i:Int)⟩,⟨L (L I),turned T n⟩,⟨L I,o⟩]) (fun i o=>o=tab (cmp T i) n) n 0 (tab (fun _ => -1) n) _ rfl (Nat.zero_le _) rfl ?_ ?_
 ·rintro i o hi rfl
  have hF:∀x∈[(i:Int)],0≤x∧x<n:=by intro x hx;simp only [List.mem_singleton] at hx;omega
  simp+contextual(maxSteps:=1000000)(disch:=omega)only[↓Sd,↓So,↓Sk,↓den,↓denA,Sa,Sb,Sc,Se,O1.d,O2.d,O3.d,cmI,arI,envOf,putN,↓reduceIte,Nat.reduceLT,Nat.reduceSub,Nat.reduceAdd,Int.reduceAdd,Int.reduceEq,Int.reduceLT,Int.reduceLE,arr_pos,arr_neg,↓wpJoin,tab_len,tab_get hi]
  refine ⟨fun g=>?_,fun g=>?_⟩
  ·have g':¬0≤cmp T i i:=fun h=>absurd g (by show ¬cmp T i i<0;omega)
   simp+contextual(maxSteps:=1000000)(disch:=omega)only[↓Sd,↓So,↓Sk,↓den,↓denA,Sa,Sb,Sc,Se,O1.d,O2.d,O3.d,cmI,arI,envOf,putN,↓reduceIte,Nat.reduceLT,Nat.reduceSub,Nat.reduceAdd,Int.reduceAdd,Int.reduceEq,Int.reduceLT,Int.reduceLE,arr_pos,arr_neg,hl,C_spec_l4Marks [(i:Int)] n (by omega) (by simp) hF,C_spec_l5Steps T _ [(i:Int)] n (by omega) ht.1 hF (fun k _=>dB_iff),C_spec_l5Steps (turned T n) _ [(i:Int)] n (by omega) htt hF (fun k _=>dB_iff)]
   refine mc.lp_for (List Int) (fun j o=>[⟨L (L I),T⟩,⟨I,(i:Int)⟩,⟨I,(j:Int)⟩,⟨L (L I),turned T n⟩,⟨L I,o⟩,⟨L I,tab (dst T [(i:Int)]) n⟩,⟨L I,tab (dst (turned T n) [(i:Int)]) n⟩])
    (fun j o=>o=tab (fun k=>if k<j then cmp T (i+1) k else cmp T i k) n) n i (tab (cmp T i) n) _ rfl (by omega) (cmp_row_s g') ?_ ?_
   ·rintro j o hj rfl
    have e1:0≤dst (turned T n) [(i:Int)] j↔Rch T [(j:Int)] i:=dst_rch.trans (rch_rev htt ht.1 rev_turned hi hj)
    have e2:0≤dst T [(i:Int)] j↔Rch T [(i:Int)] j:=dst_rch
    simp+contextual(maxSteps:=1000000)(disch:=omega)only[↓Sd,↓So,↓Sk,↓den,↓denA,Sa,Sb,Sc,Se,O1.d,O2.d,O3.d,cmI,arI,envOf,putN,↓reduceIte,Nat.reduceLT,Nat.reduceSub,Nat.reduceAdd,Int.reduceAdd,Int.reduceEq,Int.reduceLT,Int.reduceLE,arr_pos,arr_neg,↓wpJoin,tab_len,hl,tab_get hj,tab_set']
    exact ⟨fun g1=>⟨fun g2=>cmp_row_y g' ⟨e2.1 g1,e1.1 g2⟩,fun g2=>cmp_row_n g' fun h=>g2 (e1.2 h.2)⟩,fun g1=>cmp_row_n g' fun h=>g1 (e2.2 h.1)⟩
   ·rintro o rfl
    rw [cmp_row_e]
    simp+contextual(maxSteps:=1000000)(disch:=omega)only[↓Sd,↓So,↓Sk,↓den,↓denA,Sa,Sb,Sc,Se,O1.d,O2.d,O3.d,cmI,arI,envOf,putN,↓reduceIte,Nat.reduceLT,Nat.reduceSub,Nat.reduceAdd,Int.reduceAdd,Int.reduceEq,Int.reduceLT,Int.reduceLE,arr_pos,arr_neg,hl]
  ·have g':0≤cmp T i i:=Int.not_lt.1 g
   exact tab_congr fun k _=>(cmp_old (k:=k) g').symm
 ·rintro o rfl
  simp+contextual(maxSteps:=1000000)(disch:=omega)only[↓Sd,↓So,↓Sk,↓den,↓denA,Sa,Sb,Sc,Se,O1.d,O2.d,O3.d,cmI,arI,envOf,putN,↓reduceIte,Nat.reduceLT,Nat.reduceSub,Nat.reduceAdd,Int.reduceAdd,Int.reduceEq,Int.reduceLT,Int.reduceLE,arr_pos,arr_neg,hl]
def IsTop (l:List Int) (M:Int):Prop:=M∈l∧∀x∈l,x≤M
theorem IsTop.eq {l:List Int} {M N:Int} (h:IsTop l M) (h2:IsTop l N):M=N:=Int.le_antisymm (h2.2 _ h.1) (h.2 _ h2.1)
noncomputable def layB (T:List (List Int)) (F:List Int) (d k:Nat):Bool:=dB (Lay T F d k)
theorem dst_le {T:List (List Int)} {F:List Int} {d k:Nat}:Lay T F d k↔0≤dst T F k∧dst T F k≤d:=by
 unfold dst
 constructor
 ·intro h
  have hh:∃d,Lay T F d k:=⟨d,h⟩
  rw [dif_pos hh]
  obtain ⟨b1,b2⟩:=Classical.choose_spec (least hh)
  generalize Classical.choose (least hh)=e at b1 b2
  have:¬d<e:=fun g=>b2 d g h
  omega
 ·rintro ⟨h1,h2⟩
  by_cases g:∃d,Lay T F d k
  ·rw [dif_pos g] at h1 h2
   obtain ⟨b1,-⟩:=Classical.choose_spec (least g)
   generalize Classical.choose (least g)=e at b1 h1 h2
   exact b1.up (by omega)
  ·rw [dif_neg g] at h1;omega
theorem upTo_more {p q:Nat→Bool} {n:Nat} (h:(upTo p n).length<(upTo q n).length):∃k,k<n∧q k=true∧¬p k=true:=by
 by_cases g:∃k,k<n∧q k=true∧¬p k=true
 ·exact g
 ·have:=(upTo_mono (p:=q) (q:=p) (n:=n) fun k hk hq=>by
   by_cases e:p k=true
   ·exact e
   ·exact absurd ⟨k,hk,hq,e⟩ g).1
  omega
def SmRu (r:Ru):Prop:=r.1.length≤100∧r.2.1.length≤100∧r.2.2.length≤100∧∀x∈r.2.2,x.length≤100
def SmSy (s:Sy):Prop:=s.1.length≤3∧s.2.length≤9∧∀r∈s.2,SmRu r
theorem SmSy.few {s:Sy} (h:SmSy s):FewSy s:=by
 refine ⟨by have:=h.1;unfold Few;omega,by have:=h.2.1;unfold Few;omega,fun r hr=>?_⟩
 have h1:=h.2.2 r hr
 exact ⟨by have:=h1.1;unfold Few;omega,by have:=h1.2.1;unfold Few;omega,by have:=h1.2.2.1;unfold Few;omega,fun x hx=>by have:=h1.2.2.2 x hx;unfold Few;omega⟩
def hw1 (s:Sy) (l:List Tm) (X:List Int) (x:Int):Prop:=holdsN s l x.toNat=true→∀y∈(steps s).getD x.toNat [],y∈X→holdsN s l y.toNat=true
def hw (s:Sy) (l:List Tm) (X:List Int):Prop:=∀x∈X,hw1 s l X x
theorem C_impl_goodIn (s:Sy) (l:List Tm) (hs:FewSy s) (hf:Few l) (h:valid s∧kf l s.1.length=2) (Q:List AV→Prop):mc.C f_impl_goodIn [⟨L V3,s.1⟩,⟨L TR,s.2⟩,⟨L T4,l⟩] Q=Q [⟨L B,tab (holdsN s l) (szn s.1)⟩,⟨B,true⟩]:=by
 refine Mc.Ends.c (mc.ends F_impl_goodIn ?_)
 simp+contextual(maxSteps:=1000000)(disch:=omega)only[↓Sd,↓So,↓Sk,↓den,↓denA,Sa,Sb,Sc,Se,O1.d,O2.d,O3.d,cmI,arI,envOf,putN,↓reduceIte,Nat.reduceLT,Nat.reduceSub,Nat.reduceAdd,Int.reduceAdd,Int.reduceEq,Int.reduceLT,Int.reduceLE,arr_pos,arr_neg,tr_impl_goodIn,C_impl_truthOf s l hs hf,h.1,h.2,C_impl_where s l h.1 (by omega:kf l s.1.length≠0)]
theorem C_impl_goodIn_no (s:Sy) (l:List Tm) (hs:FewSy s) (hf:Few l) (h:¬(valid s∧kf l s.1.length=2)) (Q:List AV→Prop):mc.C f_impl_goodIn [⟨L V3,s.1⟩,⟨L TR,s.2⟩,⟨L T4,l⟩] Q=Q [⟨L B,[]⟩,⟨B,false⟩]:=by
 refine Mc.Ends.c (mc.ends F_impl_goodIn ?_)
 simp+contextual(maxSteps:=1000000)(disch:=omega)only[↓Sd,↓So,↓Sk,↓den,↓denA,Sa,Sb,Sc,Se,O1.d,O2.d,O3.d,cmI,arI,envOf,putN,↓reduceIte,Nat.reduceLT,Nat.reduceSub,Nat.reduceAdd,Int.reduceAdd,Int.reduceEq,Int.reduceLT,Int.reduceLE,arr_pos,arr_neg,tr_impl_goodIn,C_impl_truthOf s l hs hf,h]
def fst1 (p:Nat→Bool):Nat→Int
 | 0 => -1
 | n+1=>if 0≤fst1 p n then fst1 p n else if p n=true then (n:Int) else -1
def rbt (s:Sy) (a b:List Int):Int:=fst1 (fun r=>decide (useM s.1 (s.2.getD r ([],[],[])) a≠[]∧useM s.1 (s.2.getD r ([],[],[])) a=b)) s.2.length
def IsPrd (T:List (List Int)) (f:Nat→Int) (n k a:Nat):Prop:=a<n∧f a+1=f k∧(k:Int)∈T.getD a []∧∀b,b<a→¬(f b+1=f k∧(k:Int)∈T.getD b [])
theorem prd_ex {T:List (List Int)} {F:List Int} {n k:Nat} (ht:Tbl T n) (hF:∀x∈F,x<n) (h:0<dst T F k):∃a,IsPrd T (dst T F) n k a:=by
 have key:∃a,dst T F a+1=dst T F k∧(k:Int)∈T.getD a []:=by
  obtain ⟨d,hd⟩:∃d:Nat,dst T F k=((d+1:Nat):Int):=⟨(dst T F k).toNat - 1,by omega⟩
  have h1:Lay T F (d+1) k:=dst_le.2 ⟨by omega,by omega⟩
  have h2:¬Lay T F d k:=fun g=>by have:=dst_le.1 g;omega
  rcases h1 with h1 | ⟨a,h1,h3⟩
  ·exact absurd h1 h2
  ·have h4:=dst_le.1 h1
   refine ⟨a,?_,h3⟩
   have h5:Lay T F ((dst T F a).toNat+1) k:=.inr ⟨a,dst_le.2 ⟨h4.1,by omega⟩,h3⟩
   have h6:=dst_le.1 h5
   omega
 obtain ⟨a,h1,h2⟩:=least key
 refine ⟨a,?_,h1.1,h1.2,h2⟩
 have:Rch T F a:=dst_rch.1 (by omega)
 exact this.lt ht hF
def Chain (T:List (List Int)) (f:Nat→Int) (n k D:Nat) (ch:Nat→Nat):Prop:=ch D=k∧(∀e,e<D→IsPrd T f n (ch (e+1)) (ch e))∧∀e,e≤D→ch e<n∧f (ch e)=e
theorem chain_ex {T:List (List Int)} {F:List Int} {n:Nat} (ht:Tbl T n) (hF:∀x∈F,x<n):∀{D k:Nat},k<n→dst T F k=D→∃ch,Chain T (dst T F) n k D ch
 | 0,k,hk,h=>⟨fun _=>k,rfl,fun e he=>absurd he (Nat.not_lt_zero _),fun e he=>⟨hk,by rw [h,show e=0 by omega]⟩⟩
 | D+1,k,hk,h=>by
  obtain ⟨a,ha⟩:=prd_ex ht hF (show 0<dst T F k by omega)
  obtain ⟨ch,h1,h2,h3⟩:=chain_ex ht hF (D:=D) ha.1 (by have:=ha.2.1;omega)
  refine ⟨fun e=>if e≤D then ch e else k,if_neg (by omega),fun e he=>?_,fun e he=>?_⟩
  ·show IsPrd T (dst T F) n (if e+1≤D then ch (e+1) else k) (if e≤D then ch e else k)
   by_cases g:e<D
   ·rw [if_pos (show e≤D by omega),if_pos (show e+1≤D by omega)];exact h2 e g
   ·have:e=D:=by omega
    subst this
    rw [if_pos (Nat.le_refl _),if_neg (by omega),h1];exact ha
  ·show (if e≤D then ch e else k)<n∧dst T F (if e≤D then ch e else k)=e
   by_cases g:e≤D
   ·rw [if_pos g];exact h3 e g
   ·have:e=D+1:=by omega
    subst this
    rw [if_neg (by omega)];exact ⟨hk,h⟩
theorem Chain.few {T:List (List Int)} {f:Nat→Int} {n k D:Nat} {ch:Nat→Nat} (h:Chain T f n k D ch):D<n:=by
 have key:∀e,e≤D→e<(upTo (fun k=>decide (0≤f k∧f k≤(e:Int))) n).length:=by
  intro e
  induction e with
  | zero =>
   intro _
   have h1:=h.2.2 0 (by omega)
   exact upTo_pos.2 ⟨ch 0,h1.1,decide_eq_true (by omega)⟩
  | succ e ih =>
   intro he
   have h1:=ih (by omega)
   have h2:=h.2.2 (e+1) he
   have h3:=upTo_mono (p:=fun k=>decide (0≤f k∧f k≤(e:Int))) (q:=fun k=>decide (0≤f k∧f k≤((e+1:Nat):Int))) (n:=n) fun k _ hk=>decide_eq_true (by have:=of_decide_eq_true hk;omega)
   by_cases g:(upTo (fun k=>decide (0≤f k∧f k≤((e+1:Nat):Int))) n).length≤(upTo (fun k=>decide (0≤f k∧f k≤(e:Int))) n).length
   ·have h4:=h3.2 g (ch (e+1)) h2.1 (decide_eq_true (by omega))
    have h5:=of_decide_eq_true h4
    omega
   ·omega
 have h1:=key D (Nat.le_refl _)
 have h2:=@upTo_len (fun k=>decide (0≤f k∧f k≤(D:Int))) n
 omega
theorem dst_bd {T:List (List Int)} {F:List Int} {n k:Nat} (ht:Tbl T n) (hF:∀x∈F,x<n) (hk:k<n) : -1≤dst T F k∧dst T F k<n:=by
 have h1 : -1≤dst T F k:=by unfold dst;split<;>omega
 refine ⟨h1,?_⟩
 by_cases g:0≤dst T F k
 ·obtain ⟨ch,hc⟩:=chain_ex ht hF (D:=(dst T F k).toNat) hk (by omega)
  have:=hc.few
  omega
 ·omega
structure IsRun (s:Sy) (D:Nat) (f:Nat→List Int):Prop where
 few:D<500
 first:f 0=fst0 s.1
 inr:∀e,e≤D→inR s.1 (f e)
 rule:∀e,e<D→0≤rbt s (f e) (f (e+1))
def rules (s:Sy) (f:Nat→List Int) (D:Nat):List Int:=tab (fun e=>rbt s (f e) (f (e+1))) D
theorem IsRun.len {s:Sy} {D:Nat} {f:Nat→List Int} (hv:valid s) (h:IsRun s D f) {e:Nat} (he:e≤D):(f e).length≤1048576:=by
 have:=(h.inr e he).1
 have:=hv.1.2
 omega
def SmSS (l:List (List Int)):Prop:=l.length≤4000∧∀x∈l,x.length≤4000
theorem SmSS.row {l:List (List Int)} (h:SmSS l) (i:Nat):(l.getD i []).length≤4000:=by
 by_cases hi:i<l.length
 ·exact h.2 _ (getD_mem hi)
 ·rw [List.getD_eq_getElem?_getD,List.getElem?_eq_none (by omega)];simp
def FewSS (F:List (List Tm)):Prop:=Few F∧∀x∈F,Few x
theorem FewSS.row {F:List (List Tm)} (h:FewSS F) (i:Nat):Few (F.getD i []):=by
 by_cases hi:i<F.length
 ·exact h.2 _ (getD_mem hi)
 ·rw [List.getD_eq_getElem?_getD,List.getElem?_eq_none (by omega)];simp [Few]
theorem SmSS.few {l:List (List Int)} (h:SmSS l):l.length≤1048576∧∀x∈l,x.length≤1048576:=⟨by have:=h.1;omega,fun x hx=>by have:=h.2 x hx;omega⟩
abbrev zT:Tm:=(0,0,0,0)
def tO (t:Tm) (i n:Int):Prop :=
 (t.1=0∧t.2.1=0∧t.2.2.1=0∧t.2.2.2=0)∨(t.1=1∧(0≤t.2.1∧t.2.1≤n - 1)∧t.2.2.1=0∧t.2.2.2=0) ∨
 ((2≤t.1∧t.1≤7)∧t.2.1=0∧(0≤t.2.2.1∧t.2.2.1≤i - 1)∧(0≤t.2.2.2∧t.2.2.2≤i - 1)∧((t.1=2∨t.1=5)→t.2.2.2=t.2.2.1))
instance (t : Tm) (i n : Int) : Decidable (tO t i n) := by unfold tO; infer_instance
def tV (l:List Tm) (n:Int):Prop:=(0≤n∧n≤4)∧(1≤l.length∧l.length≤24)∧∀i,i<l.length→tO (l.getD i zT) i n
instance (l : List Tm) (n : Int) : Decidable (tV l n) := by unfold tV; infer_instance
def gB (l:List Tm) (i:Nat):Bool:=decide ((l.getD i zT).1≥5)
def gS (l:List Tm):List Int:=upTo (gB l) l.length
def asked (l:List Tm) (n:Int):Prop:=tV l n∧n+(gS l).length≤7
instance (l : List Tm) (n : Int) : Decidable (asked l n) := by unfold asked; infer_instance
theorem upTo_filter {p q:Nat→Bool}:∀{n:Nat},(upTo p n).filter (fun x=>q x.toNat)=upTo (fun k=>p k&&q k) n
 | 0=>rfl
 | n+1=>by
  by_cases g:p n=true
  ·rw [upTo_s g,List.filter_append,upTo_filter]
   by_cases g2:q n=true
   ·rw [upTo_s (p:=fun k=>p k&&q k) (by simp [g,g2])]
    simp [g2]
   ·rw [upTo_n (p:=fun k=>p k&&q k) (by simp [g,g2])]
    simp [g2]
  ·rw [upTo_n g,upTo_n (p:=fun k=>p k&&q k) (by simp [g]),upTo_filter]
theorem C_spec_l14Range (n:Nat) (hn:n≤1048576) (Q:List AV→Prop):mc.C f_spec_l14Range [⟨I,0⟩,⟨I,(n:Int)⟩] Q=Q [⟨L I,upTo (fun _=>true) n⟩]:=by
 refine Mc.Ends.c (mc.ends F_spec_l14Range ?_)
 simp+contextual(maxSteps:=1000000)(disch:=omega)only[↓Sd,↓So,↓Sk,↓den,↓denA,Sa,Sb,Sc,Se,O1.d,O2.d,O3.d,cmI,arI,envOf,putN,↓reduceIte,Nat.reduceLT,Nat.reduceSub,Nat.reduceAdd,Int.reduceAdd,Int.reduceEq,Int.reduceLT,Int.reduceLE,arr_pos,arr_neg,tr_spec_l14Range]
 refine mc.lp_for (List Int) (fun i o=>[⟨I,0⟩,⟨I,(n:Int)⟩,⟨I,(i:Int)⟩,⟨L I,o⟩]) (fun i o=>o=upTo (fun _=>true) i) n 0 [] _ rfl (Nat.zero_le _) rfl ?_ ?_
 ·rintro i o hi rfl
  have h1:=@upTo_len (fun _=>true) i
  simp+contextual(maxSteps:=1000000)(disch:=omega)only[↓Sd,↓So,↓Sk,↓den,↓denA,Sa,Sb,Sc,Se,O1.d,O2.d,O3.d,cmI,arI,envOf,putN,↓reduceIte,Nat.reduceLT,Nat.reduceSub,Nat.reduceAdd,Int.reduceAdd,Int.reduceEq,Int.reduceLT,Int.reduceLE,arr_pos,arr_neg,]
  rw [Int.zero_add]
  exact (upTo_s (p:=fun _=>true) rfl).symm
 ·rintro o rfl
  simp+contextual(maxSteps:=1000000)(disch:=omega)only[↓Sd,↓So,↓Sk,↓den,↓denA,Sa,Sb,Sc,Se,O1.d,O2.d,O3.d,cmI,arI,envOf,putN,↓reduceIte,Nat.reduceLT,Nat.reduceSub,Nat.reduceAdd,Int.reduceAdd,Int.reduceEq,Int.reduceLT,Int.reduceLE,arr_pos,arr_neg,]
theorem C_slices_Contains_int (l:List Int) (x:Int) (hl:l.length≤1048576) (Q:List AV→Prop):mc.C f_slices_Contains_Sint_int [⟨L I,l⟩,⟨I,x⟩] Q=Q [⟨B,dB (x∈l)⟩]:=by
 have hI:∀{Q:List AV→Prop},(∀j:Int,(0≤j↔x∈l)→Q [⟨I,j⟩])→mc.C f_slices_Index_Sint_int [⟨L I,l⟩,⟨I,x⟩] Q:=by
  intro Q hQ
  refine mc.c_of F_slices_Index_Sint_int ?_
  simp+contextual(maxSteps:=1000000)(disch:=omega)only[↓Sd,↓So,↓Sk,↓den,↓denA,Sa,Sb,Sc,Se,O1.d,O2.d,O3.d,cmI,arI,envOf,putN,↓reduceIte,Nat.reduceLT,Nat.reduceSub,Nat.reduceAdd,Int.reduceAdd,Int.reduceEq,Int.reduceLT,Int.reduceLE,arr_pos,arr_neg,tr_slices_Index_Sint_int]
  refine lp_all (fun i=>[⟨L I,l⟩,⟨I,x⟩,⟨I,(l.length:Int)⟩,⟨I,(i:Int)⟩]) (fun i=>¬x=l.getD i 0) l.length _ rfl ?_ ?_
  ·intro i hi
   simp+contextual(maxSteps:=1000000)(disch:=omega)only[↓Sd,↓So,↓Sk,↓den,↓denA,Sa,Sb,Sc,Se,O1.d,O2.d,O3.d,cmI,arI,envOf,putN,↓reduceIte,Nat.reduceLT,Nat.reduceSub,Nat.reduceAdd,Int.reduceAdd,Int.reduceEq,Int.reduceLT,Int.reduceLE,arr_pos,arr_neg,]
   intro h
   refine hQ _ ⟨fun _=>?_,fun _=>by omega⟩
   rw [h];exact getD_mem hi
  ·intro h
   simp+contextual(maxSteps:=1000000)(disch:=omega)only[↓Sd,↓So,↓Sk,↓den,↓denA,Sa,Sb,Sc,Se,O1.d,O2.d,O3.d,cmI,arI,envOf,putN,↓reduceIte,Nat.reduceLT,Nat.reduceSub,Nat.reduceAdd,Int.reduceAdd,Int.reduceEq,Int.reduceLT,Int.reduceLE,arr_pos,arr_neg,]
   refine hQ _ ⟨fun h=>by omega,fun hx=>?_⟩
   obtain ⟨i,hi,rfl⟩:=List.getElem_of_mem hx
   exact absurd (getD_lt hi).symm (h i hi)
 refine Mc.Ends.c (mc.ends F_slices_Contains_Sint_int ?_)
 simp+contextual(maxSteps:=1000000)(disch:=omega)only[↓Sd,↓So,↓Sk,↓den,↓denA,Sa,Sb,Sc,Se,O1.d,O2.d,O3.d,cmI,arI,envOf,putN,↓reduceIte,Nat.reduceLT,Nat.reduceSub,Nat.reduceAdd,Int.reduceAdd,Int.reduceEq,Int.reduceLT,Int.reduceLE,arr_pos,arr_neg,tr_slices_Contains_Sint_int]
 refine hI fun j hj=>?_
 simp+contextual(maxSteps:=1000000)(disch:=omega)only[↓Sd,↓So,↓Sk,↓den,↓denA,Sa,Sb,Sc,Se,O1.d,O2.d,O3.d,cmI,arI,envOf,putN,↓reduceIte,Nat.reduceLT,Nat.reduceSub,Nat.reduceAdd,Int.reduceAdd,Int.reduceEq,Int.reduceLT,Int.reduceLE,arr_pos,arr_neg,]
 rw [←dB_eq]
 exact dB_congr hj
def tAt (l:List Tm) (i:Nat):Tm:=l.getD i (0,0,0,0)
structure TmsOk (l:List Tm) (vars:Int):Prop where
 vb:0≤vars∧vars≤5
 len:1≤l.length∧l.length≤40
 at':∀i,i<l.length→(tAt l i).1=0∨((tAt l i).1=1∧0≤(tAt l i).2.1∧(tAt l i).2.1<vars)∨(2≤(tAt l i).1∧(0≤(tAt l i).2.2.1∧(tAt l i).2.2.1<i)∧0≤(tAt l i).2.2.2∧(tAt l i).2.2.2<i)
inductive Nd (l:List Tm):Nat→Prop
 | top:Nd l (l.length - 1)
 | arg {m j:Nat}:Nd l m→m<l.length→2≤(tAt l m).1→(j=(tAt l m).2.2.1.toNat∨j=(tAt l m).2.2.2.toNat)→Nd l j
def NdI (l:List Tm) (i:Nat) (p:Nat→Bool):Prop:=∀j,j<l.length→(p j=true↔(j=l.length - 1∨∃m,i≤m∧m<l.length∧Nd l m∧2≤(tAt l m).1∧(j=(tAt l m).2.2.1.toNat∨j=(tAt l m).2.2.2.toNat)))
theorem NdI.at' {l:List Tm} {vars:Int} (ho:TmsOk l vars) {m:Nat} {p:Nat→Bool} (h:NdI l (m+1) p) (hm:m<l.length):p m=true↔Nd l m:=by
 rw [h m hm]
 constructor
 ·rintro (h1 | ⟨a,h1,h2,h3,h4,h5⟩)
  ·rw [h1];exact .top
  ·exact .arg h3 h2 h4 h5
 ·intro h1
  cases h1 with
  | top=>exact .inl rfl
  | @arg a _ h2 h3 h4 h5 =>
   refine .inr ⟨a,?_,h3,h2,h4,h5⟩
   rcases ho.at' a h3 with h6 | h6 | h6
   ·omega
   ·omega
   ·omega
theorem NdI.step {l:List Tm} {vars:Int} (ho:TmsOk l vars) {m:Nat} {p:Nat→Bool} (h:NdI l (m+1) p) (hm:m<l.length) (hp:p m=true) (h2:2≤(tAt l m).1) {q:Nat→Bool} (hq:∀j,q j=true↔(j=(tAt l m).2.2.2.toNat∨j=(tAt l m).2.2.1.toNat∨p j=true)):NdI l m q:=by
 intro j hj
 rw [hq,h j hj]
 have hN:=(h.at' ho hm).1 hp
 constructor
 ·rintro (h1 | h1 | h1 | ⟨a,h1,h3⟩)
  ·exact .inr ⟨m,Nat.le_refl _,hm,hN,h2,.inr h1⟩
  ·exact .inr ⟨m,Nat.le_refl _,hm,hN,h2,.inl h1⟩
  ·exact .inl h1
  ·exact .inr ⟨a,by omega,h3⟩
 ·rintro (h1 | ⟨a,h1,h3,h4,h5,h6⟩)
  ·exact .inr (.inr (.inl h1))
  ·by_cases e:a=m
   ·subst e
    rcases h6 with h6 | h6
    ·exact .inr (.inl h6)
    ·exact .inl h6
   ·exact .inr (.inr (.inr ⟨a,by omega,h3,h4,h5,h6⟩))
def rl (s:Sy) (i:Nat):Ru:=s.2.getD i ([],[],[])
inductive Rc (E:Nat→Nat→Bool) (n r:Nat):Nat→Prop
 | base:Rc E n r r
 | step {a m:Nat}:Rc E n r a→m<n→E a m=true→Rc E n r m
theorem Rc.lt {E:Nat→Nat→Bool} {n r:Nat} (hr:r<n) {k:Nat} (hk:Rc E n r k):k<n:=by
 cases hk with
 | base=>exact hr
 | step _ h _=>exact h
def inS (s:Sy) (st:List Int):Prop:=valid s∧inR s.1 st
theorem cmp_least {T:List (List Int)} {m k:Nat}:∀{i:Nat},m<i→eqv T m k→(∀y,y<m→¬eqv T y k)→cmp T i k=(m:Int)
 | 0,hm,_,_=>absurd hm (Nat.not_lt_zero _)
 | i+1,hm,he,hl=>by
  unfold cmp
  by_cases h:m<i
  ·rw [cmp_least h he hl,if_pos (Int.natCast_nonneg m)]
  ·obtain rfl:m=i:=by omega
   rw [if_neg fun h=>by obtain ⟨y,h1,h2⟩:=cmp_spec.1.1 h;exact hl y h1 h2,if_pos (dB_t he)]
structure Tj where
 c:Nat
 o:Nat→Nat
 lw:Nat→Nat
 st:List Nat
 out:Nat→Int
end Go.Proofs.YtknlennollmgeaaGreat
namespace Go.Proofs.YtknlennollmgeaaGreat
open Go Go.Sm Go.Sm.Q
set_option linter.unusedSimpArgs false
set_option linter.unusedVariables false
structure TInv (U:List (List Int)) (n:Nat) (p:Nat→Bool) (s:Tj) (G:List Nat):Prop where
 lt:∀k,s.o k≠0→k<n∧p k=true
 cnt:∀k,s.o k≤s.c
 stv:∀k,k∈s.st↔s.o k≠0∧s.out k<0
 ord:s.st.Pairwise (fun a b=>s.o a<s.o b)
 outs:∀k,s.out k<0→s.out k = -1
 outv:∀k,0≤s.out k→s.o k≠0
 clsd:∀k y:Nat,0≤s.out k→(y:Int)∈U.getD k []→0≤s.out y
 outc:∀k,0≤s.out k→s.out k=cmp U n k
 blk:∀k y:Nat,s.o k≠0→k∉G→(y:Int)∈U.getD k []→s.o y≠0
 gst:∀g∈G,g∈s.st
 low:∀y∈s.st,∃g∈G,s.o g≤s.o y∧Rch U [(y:Int)] g
 acc:∀g∈G,∀y∈s.st,s.o g≤s.o y→Rch U [(g:Int)] y
 cc:s.c+cntF (fun k=>decide (s.o k≠0)) n≤n
 len:s.st.length≤s.c
structure TExt (s s':Tj):Prop where
 c:s.c≤s'.c
 old:∀k,s.o k≠0→s'.o k=s.o k∧s'.lw k=s.lw k∧s'.out k=s.out k
 new:∀k,s.o k=0→s'.o k≠0→s.c<s'.o k
structure TPost (U:List (List Int)) (n:Nat) (p:Nat→Bool) (s:Tj) (G:List Nat) (v:Nat) (s':Tj) (X:List Nat):Prop where
 inv:TInv U n p s' G
 ext:TExt s s'
 st:s'.st=s.st++X
 vis:s'.o v≠0
 low:(X=[]∧s'.lw v=s'.o v)∨∃y∈s.st,s.o y=s'.lw v∧Rch U [(v:Int)] y
 edge:∀x∈X,∀y∈s.st,(y:Int)∈U.getD x []→s'.lw v≤s.o y
structure TLoop (U:List (List Int)) (n:Nat) (p:Nat→Bool) (s:Tj) (G:List Nat) (v:Nat) (s':Tj) (X:List Nat) (dn:List Nat):Prop where
 hs:TInv U n p s G
 o0:s.o v=0
 inv:TInv U n p s' (v::G)
 ext:TExt s s'
 st:s'.st=s.st++v::X
 ov:s'.o v=s.c+1
 le:s'.lw v≤s'.o v
 low:∃y∈s'.st,s'.o y=s'.lw v∧Rch U [(v:Int)] y
 edge:∀x∈X,∀y∈s.st,(y:Int)∈U.getD x []→s'.lw v≤s.o y
 dn:∀y∈dn,s'.o y≠0∧(y∈s.st→s'.lw v≤s.o y)
theorem TInv.closed {U:List (List Int)} {n:Nat} {p:Nat→Bool} {s:Tj} {G:List Nat} (h:TInv U n p s G) {k y:Nat} (hk:0≤s.out k) (hr:Rch U [(k:Int)] y):0≤s.out y:=by
 induction hr with
 | base h1=>simp only [List.mem_singleton] at h1;have h1:=Int.ofNat_inj.1 h1;subst h1;exact hk
 | step _ h1 ih=>exact h.clsd _ _ ih h1
theorem TExt.trans  {a b c:Tj} (h:TExt a b) (h2:TExt b c):TExt a c:=by
 refine ⟨Nat.le_trans h.c h2.c,fun k hk=>?_,fun k hk hc=>?_⟩
 ·obtain ⟨e1,e2,e3⟩:=h.old k hk
  obtain ⟨f1,f2,f3⟩:=h2.old k (by rw [e1];exact hk)
  exact ⟨f1.trans e1,f2.trans e2,f3.trans e3⟩
 ·by_cases hb:b.o k=0
  ·exact Nat.lt_of_le_of_lt h.c (h2.new k hb hc)
  ·rw [(h2.old k hb).1];exact h.new k hk hb
def Tj.push (s:Tj) (v:Nat):Tj:=⟨s.c+1,fun k=>if k=v then s.c+1 else s.o k,fun k=>if k=v then s.c+1 else s.lw k,s.st++[v],s.out⟩
theorem TLoop.init {U:List (List Int)} {n:Nat} {p:Nat→Bool} {s:Tj} {G:List Nat} {v:Nat} (h:TInv U n p s G) (hv:s.o v=0) (hn:v<n) (hp:p v=true) (ha:∀g∈G,Rch U [(g:Int)] v):TLoop U n p s G v (s.push v) [] []:=by
 have ne:∀{k},s.o k≠0→k≠v:=fun hk he=>hk (he▸hv)
 have on:∀{k},k≠v→(s.push v).o k=s.o k:=fun hk=>if_neg hk
 have ov:(s.push v).o v=s.c+1:=if_pos rfl
 have hvs:v∉s.st:=fun hm=>((h.stv v).1 hm).1 hv
 have hvo:s.out v<0:=by
  rcases Int.lt_or_le (s.out v) 0 with h1 | h1
  ·exact h1
  ·exact absurd hv (h.outv v h1)
 have stn:∀{y},y∈s.st→y≠v:=fun hy he=>hvs (he▸hy)
 refine ⟨h,hv,⟨?_,?_,?_,?_,h.outs,?_,h.clsd,h.outc,?_,?_,?_,?_,?_,?_⟩,⟨Nat.le_succ _,fun k hk=>?_,fun k hk hc=>?_⟩,rfl,ov,Nat.le_of_eq ((if_pos rfl).trans ov.symm),⟨v,by simp [Tj.push],ov.trans (if_pos rfl).symm,Rch.one⟩,fun x hx=>by simp at hx,fun y hy=>by simp at hy⟩
 ·intro k hk
  by_cases he:k=v
  ·subst he;exact ⟨hn,hp⟩
  ·rw [on he] at hk;exact h.lt k hk
 ·intro k
  by_cases he:k=v
  ·subst he;rw [ov];exact Nat.le_refl _
  ·rw [on he];exact Nat.le_succ_of_le (h.cnt k)
 ·intro k
  simp only [Tj.push,List.mem_append,List.mem_singleton]
  by_cases he:k=v
  ·subst he;simp [hvo]
  ·simp only [he,or_false,if_false];exact h.stv k
 ·refine List.pairwise_append.2 ⟨?_,List.pairwise_singleton _ _,fun a ha b hb=>?_⟩
  ·refine h.ord.imp_of_mem fun ha hb hab=>?_
   rw [on (stn ha),on (stn hb)];exact hab
  ·rw [List.mem_singleton.1 hb,ov,on (stn ha)];exact Nat.lt_succ_of_le (h.cnt a)
 ·intro k hk
  have:=h.outv k hk
  rw [on (ne this)];exact this
 ·intro k y hk hkG hy
  simp only [List.mem_cons,not_or] at hkG
  rw [on hkG.1] at hk
  have:=h.blk k y hk hkG.2 hy
  rw [on (ne this)];exact this
 ·intro g hg
  rcases List.mem_cons.1 hg with rfl | hg
  ·simp [Tj.push]
  ·exact List.mem_append_left _ (h.gst g hg)
 ·intro y hy
  rcases List.mem_append.1 hy with hy | hy
  ·obtain ⟨g,g1,g2,g3⟩:=h.low y hy
   exact ⟨g,List.mem_cons_of_mem _ g1,by rw [on (stn (h.gst g g1)),on (stn hy)];exact g2,g3⟩
  ·rw [List.mem_singleton.1 hy]
   exact ⟨v,List.mem_cons_self ..,Nat.le_refl _,Rch.one⟩
 ·intro g hg y hy hle
  rcases List.mem_append.1 hy with hy1 | hy1
  ·rcases List.mem_cons.1 hg with hg1 | hg1
   ·rw [hg1,ov,on (stn hy1)] at hle
    have:=h.cnt y;omega
   ·rw [on (stn (h.gst g hg1)),on (stn hy1)] at hle
    exact h.acc g hg1 y hy1 hle
  ·rw [List.mem_singleton.1 hy1]
   rcases List.mem_cons.1 hg with hg1 | hg1
   ·rw [hg1];exact Rch.one
   ·exact ha g hg1
 ·have h1:=cntF_set (p:=fun k=>decide (s.o k≠0)) (j:=v) (by simp [hv]) hn
  have h2:cntF (fun k=>decide ((s.push v).o k≠0)) n=cntF (fun k=>if k=v then true else decide (s.o k≠0)) n:=cntF_congr fun k _=>by
   by_cases he:k=v
   ·subst he;rw [ov];simp
   ·rw [on he,if_neg he]
  have h3:=h.cc
  show s.c+1+_≤n
  rw [h2];omega
 ·have:=h.len
  simp only [Tj.push,List.length_append,List.length_singleton];omega
 ·exact ⟨on (ne hk),if_neg (ne hk),rfl⟩
 ·by_cases he:k=v
  ·subst he;rw [ov];exact Nat.lt_succ_self _
  ·rw [on he] at hc;exact absurd hk hc
def Tj.setL (s:Tj) (v x:Nat):Tj:=⟨s.c,s.o,fun k=>if k=v then x else s.lw k,s.st,s.out⟩
theorem TInv.setL {U:List (List Int)} {n:Nat} {p:Nat→Bool} {s:Tj} {G:List Nat} {v:Nat} (h:TInv U n p s G) {x:Nat}:TInv U n p (s.setL v x) G:=⟨h.lt,h.cnt,h.stv,h.ord,h.outs,h.outv,h.clsd,h.outc,h.blk,h.gst,h.low,h.acc,h.cc,h.len⟩
theorem TExt.setL {s:Tj} {s':Tj} {v:Nat} (h:TExt s s') (hv:s.o v=0) {x:Nat}:TExt s (s'.setL v x) :=
 ⟨h.c,fun k hk=>by obtain ⟨a,b,c⟩:=h.old k hk;exact ⟨a,(if_neg (fun he:k=v=>hk (he▸hv))).trans b,c⟩,h.new⟩
theorem edge_rch {U:List (List Int)} {a b:Nat} (h:(b:Int)∈U.getD a []):Rch U [(a:Int)] b:=.step .one h
theorem TLoop.closed {U:List (List Int)} {n:Nat} {p:Nat→Bool} {s:Tj} {s':Tj} {G:List Nat} {ext:List Nat} {dn:List Nat} {v:Nat} {m:Nat} (h:TLoop U n p s G v s' ext dn) (hm:0≤s'.out m):TLoop U n p s G v s' ext (m::dn):=by
 refine { h with dn:=fun y hy=>?_ }
 rcases List.mem_cons.1 hy with rfl | hy
 ·refine ⟨h.inv.outv _ hm,fun hs=>?_⟩
  have:=((h.inv.stv y).1 (by rw [h.st];exact List.mem_append_left _ hs)).2
  omega
 ·exact h.dn y hy
theorem TLoop.back {U:List (List Int)} {n:Nat} {p:Nat→Bool} {s:Tj} {s':Tj} {G:List Nat} {ext:List Nat} {dn:List Nat} {v:Nat} {m:Nat} (h:TLoop U n p s G v s' ext dn) (ho:s'.o m≠0) (hm:s'.out m<0) (he:(m:Int)∈U.getD v []):TLoop U n p s G v (s'.setL v (min (s'.lw v) (s'.o m))) ext (m::dn):=by
 have hl:(s'.setL v (min (s'.lw v) (s'.o m))).lw v=min (s'.lw v) (s'.o m):=if_pos rfl
 refine ⟨h.hs,h.o0,h.inv.setL,h.ext.setL h.o0,h.st,h.ov,?_,?_,fun x hx y hy hxy=>?_,fun y hy=>?_⟩
 ·rw [hl];exact Nat.le_trans (Nat.min_le_left _ _) h.le
 ·rw [hl]
  rcases Nat.le_total (s'.lw v) (s'.o m) with hc | hc
  ·rw [Nat.min_eq_left hc];exact h.low
  ·rw [Nat.min_eq_right hc];exact ⟨m,(h.inv.stv m).2 ⟨ho,hm⟩,rfl,edge_rch he⟩
 ·rw [hl];exact Nat.le_trans (Nat.min_le_left _ _) (h.edge x hx y hy hxy)
 ·rw [hl]
  rcases List.mem_cons.1 hy with rfl | hy
  ·refine ⟨ho,fun hs=>?_⟩
   rw [←(h.ext.old y ((h.hs.stv y).1 hs).1).1]
   exact Nat.min_le_right _ _
  ·exact ⟨(h.dn y hy).1,fun hs=>Nat.le_trans (Nat.min_le_left _ _) ((h.dn y hy).2 hs)⟩
theorem TLoop.child {U:List (List Int)} {n:Nat} {p:Nat→Bool} {s:Tj} {s':Tj} {s2:Tj} {G:List Nat} {ext:List Nat} {ext2:List Nat} {dn:List Nat} {v m:Nat} (h:TLoop U n p s G v s' ext dn) (ho:s'.o m=0) (hP:TPost U n p s' (v::G) m s2 ext2) (he:(m:Int)∈U.getD v []) :
  TLoop U n p s G v (s2.setL v (min (s2.lw v) (s2.lw m))) (ext++ext2) (m::dn):=by
 have hov:s'.o v≠0:=by rw [h.ov];omega
 obtain ⟨v1,v2,-⟩:=hP.ext.old v hov
 have hl:(s2.setL v (min (s2.lw v) (s2.lw m))).lw v=min (s'.lw v) (s2.lw m):=by rw [←v2];exact if_pos rfl
 have inS:∀{y},y∈s.st→y∈s'.st:=fun hy=>by rw [h.st];exact List.mem_append_left _ hy
 have oS:∀{y},y∈s.st→s'.o y=s.o y:=fun hy=>(h.ext.old _ ((h.hs.stv _).1 hy).1).1
 refine ⟨h.hs,h.o0,hP.inv.setL,(h.ext.trans hP.ext).setL h.o0,?_,v1.trans h.ov,?_,?_,fun x hx y hy hxy=>?_,fun y hy=>?_⟩
 ·show s2.st=_
  rw [hP.st,h.st];simp
 ·rw [hl];exact Nat.le_trans (Nat.min_le_left _ _) (by show _≤s2.o v;rw [v1];exact h.le)
 ·rw [hl]
  have first:s'.lw v≤s2.lw m→∃y∈s2.st,s2.o y=min (s'.lw v) (s2.lw m)∧Rch U [(v:Int)] y:=by
   intro hc
   rw [Nat.min_eq_left hc]
   obtain ⟨y,y1,y2,y3⟩:=h.low
   exact ⟨y,by rw [hP.st];exact List.mem_append_left _ y1,by rw [(hP.ext.old y ((h.inv.stv y).1 y1).1).1];exact y2,y3⟩
  rcases hP.low with ⟨-,hq⟩ | ⟨y,y1,y2,y3⟩
  ·refine first ?_
   have h1:=hP.ext.new m ho hP.vis
   have h2:=h.inv.cnt v
   have h3:=h.le
   rw [hq];omega
  ·rcases Nat.le_total (s'.lw v) (s2.lw m) with hc | hc
   ·exact first hc
   ·rw [Nat.min_eq_right hc]
    exact ⟨y,by show y∈s2.st;rw [hP.st];exact List.mem_append_left _ y1,by show s2.o y=_;rw [(hP.ext.old y ((h.inv.stv y).1 y1).1).1];exact y2,(edge_rch he).trans y3⟩
 ·rw [hl]
  rcases List.mem_append.1 hx with hx | hx
  ·exact Nat.le_trans (Nat.min_le_left _ _) (h.edge x hx y hy hxy)
  ·exact Nat.le_trans (Nat.min_le_right _ _) (by rw [←oS hy];exact hP.edge x hx y (inS hy) hxy)
 ·rw [hl]
  rcases List.mem_cons.1 hy with rfl | hy
  ·refine ⟨hP.vis,fun hs=>?_⟩
   exact absurd ho ((h.inv.stv y).1 (inS hs)).1
  ·obtain ⟨d1,d2⟩:=h.dn y hy
   exact ⟨by show s2.o y≠0;rw [(hP.ext.old y d1).1];exact d1,fun hs=>Nat.le_trans (Nat.min_le_left _ _) (d2 hs)⟩
theorem TLoop.ge {U:List (List Int)} {n:Nat} {p:Nat→Bool} {s:Tj} {s':Tj} {G:List Nat} {ext:List Nat} {dn:List Nat} {v:Nat} (h:TLoop U n p s G v s' ext dn) {x:Nat} (hx:x∈v::ext):s'.o v≤s'.o x:=by
 have h6:=h.inv.ord
 rw [h.st,List.pairwise_append] at h6
 rcases List.mem_cons.1 hx with rfl | hx
 ·exact Nat.le_refl _
 ·exact Nat.le_of_lt ((List.pairwise_cons.1 h6.2.1).1 x hx)
theorem TLoop.lt {U:List (List Int)} {n:Nat} {p:Nat→Bool} {s:Tj} {s':Tj} {G:List Nat} {ext:List Nat} {dn:List Nat} {v:Nat} (h:TLoop U n p s G v s' ext dn) {y:Nat} (hy:y∈s.st):s'.o y<s'.o v:=by
 rw [(h.ext.old y ((h.hs.stv y).1 hy).1).1,h.ov]
 exact Nat.lt_succ_of_le (h.hs.cnt y)
theorem TLoop.inA {U:List (List Int)} {n:Nat} {p:Nat→Bool} {s:Tj} {s':Tj} {G:List Nat} {ext:List Nat} {dn:List Nat} {v:Nat} (h:TLoop U n p s G v s' ext dn) {x:Nat} (hx:x∈v::ext):x∈s'.st:=by
 rw [h.st];exact List.mem_append_right _ hx
theorem TLoop.nG {U:List (List Int)} {n:Nat} {p:Nat→Bool} {s:Tj} {s':Tj} {G:List Nat} {ext:List Nat} {dn:List Nat} {v:Nat} (h:TLoop U n p s G v s' ext dn) {x:Nat} (hx:x∈v::ext):x∉s.st:=fun hs=>by
 have:=h.ge hx;have:=h.lt hs;omega
theorem TLoop.keep {U:List (List Int)} {n:Nat} {p:Nat→Bool} {s:Tj} {s':Tj} {G:List Nat} {ext:List Nat} {dn:List Nat} {v:Nat} (h:TLoop U n p s G v s' ext dn) (hne:s'.lw v≠s'.o v) (hd:∀y:Nat,(y:Int)∈U.getD v []→y∈dn):TPost U n p s G v s' (v::ext):=by
 obtain ⟨y0,z1,z2,z3⟩:=h.low
 have hlt:s'.lw v<s'.o v:=Nat.lt_of_le_of_ne h.le hne
 refine ⟨{ h.inv with blk:=fun k y hk hG hy=>?_,gst:=fun g hg=>h.inv.gst g (List.mem_cons_of_mem _ hg),low:=fun y hy=>?_,acc:=fun g hg=>h.inv.acc g (List.mem_cons_of_mem _ hg) },h.ext,h.st,by rw [h.ov];omega,.inr ⟨y0,?_,?_,z3⟩,fun x hx y hy hxy=>?_⟩
 ·by_cases he:k=v
  ·subst he;exact (h.dn y (hd y hy)).1
  ·exact h.inv.blk k y hk (by simp [he,hG]) hy
 ·obtain ⟨g,g1,g2,g3⟩:=h.inv.low y hy
  rcases List.mem_cons.1 g1 with rfl | g1
  ·obtain ⟨g0,f1,f2,f3⟩:=h.inv.low y0 z1
   rcases List.mem_cons.1 f1 with rfl | f1
   ·omega
   ·exact ⟨g0,f1,by omega,g3.trans (z3.trans f3)⟩
  ·exact ⟨g,g1,g2,g3⟩
 ·have:=z1
  rw [h.st] at this
  rcases List.mem_append.1 this with h1 | h1
  ·exact h1
  ·have:=h.ge h1;omega
 ·have h1:y0∈s.st:=by
   have:=z1
   rw [h.st] at this
   rcases List.mem_append.1 this with h1 | h1
   ·exact h1
   ·have:=h.ge h1;omega
  rw [←(h.ext.old y0 ((h.hs.stv y0).1 h1).1).1];exact z2
 ·rcases List.mem_cons.1 hx with rfl | hx
  ·exact (h.dn y (hd y hxy)).2 hy
  ·exact h.edge x hx y hy hxy
def Tj.pop (s':Tj) (st A:List Nat) (mu:Nat):Tj:=⟨s'.c,s'.o,s'.lw,st,fun k=>if k∈A then (mu:Int) else s'.out k⟩
theorem TLoop.pop {U:List (List Int)} {n:Nat} {p:Nat→Bool} {s:Tj} {s':Tj} {G:List Nat} {ext:List Nat} {dn:List Nat} {v:Nat} (h:TLoop U n p s G v s' ext dn) (he:s'.lw v=s'.o v) (hd:∀y:Nat,(y:Int)∈U.getD v []→y∈dn) {mu:Nat} (hm:mu∈v::ext) (hl:∀x∈v::ext,mu≤x) :
  TPost U n p s G v (s'.pop s.st (v::ext) mu) []:=by
 have hout:∀{x},x∈v::ext→s'.o x≠0∧s'.out x<0:=fun hx=>(h.inv.stv _).1 (h.inA hx)
 have hvA:v∈v::ext:=List.mem_cons_self ..
 have F1:∀{x},x∈v::ext→Rch U [(v:Int)] x∧Rch U [(x:Int)] v:=by
  intro x hx
  refine ⟨h.inv.acc v (List.mem_cons_self ..) x (h.inA hx) (h.ge hx),?_⟩
  obtain ⟨g,g1,g2,g3⟩:=h.inv.low x (h.inA hx)
  rcases List.mem_cons.1 g1 with rfl | g4
  ·exact g3
  ·exact g3.trans (h.inv.acc g g1 v (h.inA hvA) (Nat.le_of_lt (h.lt (h.hs.gst g g4))))
 have F2:∀{x:Nat},x∈v::ext→∀y:Nat,(y:Int)∈U.getD x []→y∈v::ext∨0≤s'.out y:=by
  intro x hx y hy
  have hvis:s'.o y≠0:=by
   rcases List.mem_cons.1 hx with rfl | hx'
   ·exact (h.dn y (hd y hy)).1
   ·by_cases hxv:x=v
    ·subst hxv;exact (h.dn y (hd y hy)).1
    ·refine h.inv.blk x y (hout hx).1 (fun hG=>?_) hy
     rcases List.mem_cons.1 hG with hG | hG
     ·exact hxv hG
     ·exact h.nG hx (h.hs.gst x hG)
  rcases Int.lt_or_le (s'.out y) 0 with h1 | h1
  ·left
   have h2:=(h.inv.stv y).2 ⟨hvis,h1⟩
   rw [h.st] at h2
   rcases List.mem_append.1 h2 with h6 | h6
   ·exfalso
    have h3:s'.lw v≤s.o y:=by
     rcases List.mem_cons.1 hx with hx' | hx'
     ·rw [hx'] at hy;exact (h.dn y (hd y hy)).2 h6
     ·exact h.edge x hx' y h6 hy
    have h4:=h.hs.cnt y
    have h5:=h.ov
    omega
   ·exact h6
  ·exact .inr h1
 have F3:∀{z},Rch U [(v:Int)] z→Rch U [(z:Int)] v→z∈v::ext:=by
  intro z hz
  induction hz with
  | base h1=>intro _;simp only [List.mem_singleton] at h1;have h1:=Int.ofNat_inj.1 h1;subst h1;exact hvA
  | step _ h1 ih =>
   intro h2
   rcases F2 (ih ((edge_rch h1).trans h2)) _ h1 with h3 | h3
   ·exact h3
   ·have:=h.inv.closed h3 h2
    have:=(hout hvA).2
    omega
 have F4:∀{x},x∈v::ext→cmp U n x=(mu:Int):=by
  intro x hx
  refine cmp_least (h.inv.lt mu (hout hm).1).1 ⟨(F1 hm).2.trans (F1 hx).1,(F1 hx).2.trans (F1 hm).1⟩ fun y hy hyx=>?_
  have:=hl y (F3 ((F1 hx).1.trans hyx.2) (hyx.1.trans (F1 hx).2))
  omega
 have outA:∀{k},k∈v::ext→(s'.pop s.st (v::ext) mu).out k=mu:=fun hk=>if_pos hk
 have outN:∀{k},k∉v::ext→(s'.pop s.st (v::ext) mu).out k=s'.out k:=fun hk=>if_neg hk
 have inS:∀{y},y∈s.st→y∈s'.st:=fun hy=>by rw [h.st];exact List.mem_append_left _ hy
 refine ⟨⟨h.inv.lt,h.inv.cnt,fun k=>?_,?_,fun k hk=>?_,fun k hk=>?_,fun k y hk hy=>?_,fun k hk=>?_,fun k y hk hG hy=>?_,h.hs.gst,fun y hy=>?_,fun g hg y hy=>h.inv.acc g (List.mem_cons_of_mem _ hg) y (inS hy),h.inv.cc,Nat.le_trans h.hs.len h.ext.c⟩,⟨h.ext.c,fun k hk=>?_,h.ext.new⟩,by simp [Tj.pop],(hout hvA).1,.inl ⟨rfl,he⟩,fun x hx=>by simp at hx⟩
 ·constructor
  ·intro hk
   have h1:=(h.inv.stv k).1 (inS hk)
   exact ⟨h1.1,by rw [outN fun hA=>h.nG hA hk];exact h1.2⟩
  ·rintro ⟨h1,h2⟩
   by_cases hA:k∈v::ext
   ·rw [outA hA] at h2;omega
   ·rw [outN hA] at h2
    have h3:=(h.inv.stv k).2 ⟨h1,h2⟩
    rw [h.st] at h3
    rcases List.mem_append.1 h3 with h3 | h3
    ·exact h3
    ·exact absurd h3 hA
 ·have h6:=h.inv.ord
  rw [h.st,List.pairwise_append] at h6
  exact h6.1
 ·by_cases hA:k∈v::ext
  ·rw [outA hA] at hk;omega
  ·rw [outN hA] at hk ⊢;exact h.inv.outs k hk
 ·by_cases hA:k∈v::ext
  ·exact (hout hA).1
  ·rw [outN hA] at hk;exact h.inv.outv k hk
 ·have fin:y∈v::ext∨0≤s'.out y→0≤(s'.pop s.st (v::ext) mu).out y:=by
   intro hy
   by_cases hA:y∈v::ext
   ·rw [outA hA];exact Int.natCast_nonneg _
   ·rw [outN hA];exact hy.resolve_left hA
  by_cases hA:k∈v::ext
  ·exact fin (F2 hA y hy)
  ·rw [outN hA] at hk;exact fin (.inr (h.inv.clsd k y hk hy))
 ·by_cases hA:k∈v::ext
  ·rw [outA hA,F4 hA]
  ·rw [outN hA] at hk ⊢;exact h.inv.outc k hk
 ·by_cases hkv:k=v
  ·subst hkv;exact (h.dn y (hd y hy)).1
  ·exact h.inv.blk k y hk (by simp [hkv,hG]) hy
 ·obtain ⟨g,g1,g2,g3⟩:=h.inv.low y (inS hy)
  rcases List.mem_cons.1 g1 with rfl | g1
  ·have:=h.lt hy
   have:s'.o g≤s'.o y:=g2
   omega
  ·exact ⟨g,g1,g2,g3⟩
 ·obtain ⟨a1,a2,a3⟩:=h.ext.old k hk
  refine ⟨a1,a2,?_⟩
  rw [outN fun hA=>?_];exact a3
  have h1:=h.ge hA
  have h2:=h.hs.cnt k
  have h3:=h.ov
  omega
def tj0:Tj:=⟨0,fun _=>0,fun _=>0,[],fun _ => -1⟩
theorem TInv.zero {U:List (List Int)} {n:Nat} {p:Nat→Bool}:TInv U n p tj0 [] :=
 ⟨fun k hk=>absurd rfl hk,fun k=>Nat.le_refl _,fun k=>by simp [tj0],List.Pairwise.nil,fun _ _=>rfl,fun k hk=>by simp [tj0] at hk,fun k y hk=>by simp [tj0] at hk,fun k hk=>by simp [tj0] at hk,fun k y hk=>absurd rfl hk,fun g hg=>by simp at hg,fun y hy=>by simp [tj0] at hy,fun g hg=>by simp at hg,by simpa [tj0] using @cntF_le _ n,Nat.le_refl _⟩
theorem TInv.empty {U:List (List Int)} {n:Nat} {p:Nat→Bool} {s:Tj} (h:TInv U n p s []):s.st=[]:=by
 cases hs:s.st with
 | nil=>rfl
 | cons y l =>
  obtain ⟨g,hg,_⟩:=h.low y (by rw [hs];exact List.mem_cons_self ..)
  simp at hg
theorem TInv.done {U:List (List Int)} {n:Nat} {p:Nat→Bool} {s:Tj} (h:TInv U n p s []) (ha:∀k,k<n→p k=true→s.o k≠0) {k:Nat} (hk:k<n):s.out k=if p k=true then cmp U n k else -1:=by
 by_cases hp:p k=true
 ·rw [if_pos hp]
  refine h.outc k ?_
  rcases Int.lt_or_le (s.out k) 0 with h1 | h1
  ·have h2:=(h.stv k).2 ⟨ha k hk hp,h1⟩
   rw [h.empty] at h2;simp at h2
  ·exact h1
 ·rw [if_neg hp]
  refine h.outs k ?_
  rcases Int.lt_or_le (s.out k) 0 with h1 | h1
  ·exact h1
  ·exact absurd (h.lt k (h.outv k h1)).2 hp
def IsBot (l:List Int) (M:Int):Prop:=M∈l∧∀x∈l,M≤x
theorem IsBot.eq {l:List Int} {M N:Int} (h:IsBot l M) (h2:IsBot l N):M=N:=Int.le_antisymm (h.2 _ h2.1) (h2.2 _ h.1)
theorem C_slices_Min (l:List Int) (M:Int) (h:IsBot l M) (hl:l.length≤1048576) (Q:List AV→Prop):mc.C f_slices_Min_Sint_int [⟨L I,l⟩] Q=Q [⟨I,M⟩]:=by
 have hp:0<l.length:=List.length_pos_of_mem h.1
 refine Mc.Ends.c (mc.ends F_slices_Min_Sint_int ?_)
 simp+contextual(maxSteps:=1000000)(disch:=omega)only[↓Sd,↓So,↓Sk,↓den,↓denA,Sa,Sb,Sc,Se,O1.d,O2.d,O3.d,cmI,arI,envOf,putN,↓reduceIte,Nat.reduceLT,Nat.reduceSub,Nat.reduceAdd,Int.reduceAdd,Int.reduceEq,Int.reduceLT,Int.reduceLE,arr_pos,arr_neg,tr_slices_Min_Sint_int]
 refine mc.lp_for Int (fun i m=>[⟨L I,l⟩,⟨I,m⟩,⟨I,(i:Int)⟩]) (fun i m=>1≤i∧IsBot (l.take i) m) l.length 1 (l.getD 0 0) _ (by simp) (by omega) ⟨Nat.le_refl _,?_⟩ ?_ ?_
 ·cases l with
  | nil=>simp at hp
  | cons x l=>exact ⟨by simp,by simp⟩
 ·rintro i m hi ⟨h0,h1⟩
  simp+contextual(maxSteps:=1000000)(disch:=omega)only[↓Sd,↓So,↓Sk,↓den,↓denA,Sa,Sb,Sc,Se,O1.d,O2.d,O3.d,cmI,arI,envOf,putN,↓reduceIte,Nat.reduceLT,Nat.reduceSub,Nat.reduceAdd,Int.reduceAdd,Int.reduceEq,Int.reduceLT,Int.reduceLE,arr_pos,arr_neg,]
  refine ⟨by omega,?_,fun x hx=>?_⟩
  ·split
   ·exact (mem_take_next hi).2 (.inr rfl)
   ·exact (mem_take_next hi).2 (.inl h1.1)
  ·rcases (mem_take_next hi).1 hx with h2 | h2
   ·have:=h1.2 x h2
    split
    ·rename_i g;exact Int.le_trans (Int.le_of_lt g) this
    ·exact this
   ·rw [h2]
    split
    ·exact Int.le_refl _
    ·rename_i g;exact Int.not_lt.1 g
 ·rintro m ⟨h0,h1⟩
  rw [List.take_length] at h1
  have:=h1.eq h
  subst this
  simp+contextual(maxSteps:=1000000)(disch:=omega)only[↓Sd,↓So,↓Sk,↓den,↓denA,Sa,Sb,Sc,Se,O1.d,O2.d,O3.d,cmI,arI,envOf,putN,↓reduceIte,Nat.reduceLT,Nat.reduceSub,Nat.reduceAdd,Int.reduceAdd,Int.reduceEq,Int.reduceLT,Int.reduceLE,arr_pos,arr_neg,]
theorem C_slices_Index (a b:List Int) (x:Int) (ha:x∉a) (hl:(a++x::b).length≤1048576) (Q:List AV→Prop):mc.C f_slices_Index_Sint_int [⟨L I,a++x::b⟩,⟨I,x⟩] Q=Q [⟨I,(a.length:Int)⟩]:=by
 refine Mc.Ends.c (mc.ends F_slices_Index_Sint_int ?_)
 have hlen:(a++x::b).length=a.length+(b.length+1):=by simp
 simp+contextual(maxSteps:=1000000)(disch:=omega)only[↓Sd,↓So,↓Sk,↓den,↓denA,Sa,Sb,Sc,Se,O1.d,O2.d,O3.d,cmI,arI,envOf,putN,↓reduceIte,Nat.reduceLT,Nat.reduceSub,Nat.reduceAdd,Int.reduceAdd,Int.reduceEq,Int.reduceLT,Int.reduceLE,arr_pos,arr_neg,tr_slices_Index_Sint_int]
 refine mc.lp_inv (fun j us=>∃i,i≤a.length∧us=[⟨L I,a++x::b⟩,⟨I,x⟩,⟨I,(a.length:Int)+((b.length:Int)+1)⟩,⟨I,(i:Int)⟩]∧j=a.length - i) _ _ ⟨0,Nat.zero_le _,rfl,rfl⟩ ?_
 rintro j us ⟨i,hi,rfl,rfl⟩
 by_cases h:i=a.length
 ·subst h
  have h1:(a++x::b).getD a.length 0=x:=by simp
  simp+contextual(maxSteps:=1000000)(disch:=omega)only[↓Sd,↓So,↓Sk,↓den,↓denA,Sa,Sb,Sc,Se,O1.d,O2.d,O3.d,cmI,arI,envOf,putN,↓reduceIte,Nat.reduceLT,Nat.reduceSub,Nat.reduceAdd,Int.reduceAdd,Int.reduceEq,Int.reduceLT,Int.reduceLE,arr_pos,arr_neg,hlen,h1]
 ·have h1:(a++x::b).getD i 0=a.getD i 0:=by
   rw [List.getD_eq_getElem?_getD,List.getD_eq_getElem?_getD,List.getElem?_append_left (by omega)]
  have h2:¬x=a.getD i 0:=fun he=>ha (by rw [he];exact getD_mem (by omega))
  simp+contextual(maxSteps:=1000000)(disch:=omega)only[↓Sd,↓So,↓Sk,↓den,↓denA,Sa,Sb,Sc,Se,O1.d,O2.d,O3.d,cmI,arI,envOf,putN,↓reduceIte,Nat.reduceLT,Nat.reduceSub,Nat.reduceAdd,Int.reduceAdd,Int.reduceEq,Int.reduceLT,Int.reduceLE,arr_pos,arr_neg,hlen,h1,h2]
  refine ⟨a.length - (i+1),by omega,i+1,by omega,rfl,rfl⟩
def insT (T:List (List Int)) (p:Nat→Bool) (n:Nat):List (List Int):=tab (fun k=>if p k=true then (T.getD k []).filter (fun x=>p x.toNat) else []) n
theorem insT_get {T:List (List Int)} {p:Nat→Bool} {n k:Nat} (hk:k<n):(insT T p n).getD k []=if p k=true then (T.getD k []).filter (fun x=>p x.toNat) else []:=tab_get hk
theorem insT_mem {T:List (List Int)} {p:Nat→Bool} {n k:Nat} (hk:k<n) {y:Nat}:(y:Int)∈(insT T p n).getD k []↔p k=true∧(y:Int)∈T.getD k []∧p y=true:=by
 rw [insT_get hk]
 by_cases h:p k=true
 ·rw [if_pos h,List.mem_filter];simp [h]
 ·rw [if_neg h];simp [h]
theorem insT_tb8 {T:List (List Int)} {p:Nat→Bool} {n:Nat} (h:Tb8 T n):Tb8 (insT T p n) n:=by
 have hrow:∀r∈insT T p n,r.length≤8∧∀x∈r,0≤x∧x<n:=by
  intro r hr
  simp only [insT,tab,List.mem_map,List.mem_range] at hr
  obtain ⟨k,hk,rfl⟩:=hr
  split
  ·have h1:=h.2.2 _ (getD_mem (l:=T) (d:=[]) (by rw [h.1.1];exact hk))
   have h2:=h.1.row (i:=k)
   exact ⟨Nat.le_trans (List.length_filter_le ..) h1,fun x hx=>h2 x (List.mem_filter.1 hx).1⟩
  ·simp
 exact ⟨⟨tab_len,fun r hr=>⟨by have:=(hrow r hr).1;omega,(hrow r hr).2⟩⟩,h.2.1,fun r hr=>(hrow r hr).1⟩
def Tj.av (n:Nat) (T:List (List Int)) (p:Nat→Bool) (s:Tj):List AV:=[⟨I,(s.c:Int)⟩,⟨L I,tab (fun k=>(s.o k:Int)) n⟩,⟨L I,tab (fun k=>(s.lw k:Int)) n⟩,⟨L I,s.st.map fun k:Nat=>(k:Int)⟩,⟨L (L I),T⟩,⟨L B,tab p n⟩,⟨B,true⟩,⟨L I,tab s.out n⟩]
theorem TInv.few {U:List (List Int)} {n:Nat} {p:Nat→Bool} {s:Tj} {G:List Nat} (h:TInv U n p s G):s.c≤n∧s.st.length≤n:=by
 have h1:=h.cc
 have h2:=h.len
 omega
theorem map_int_mem {l:List Nat} {x:Nat}:(x:Int)∈l.map (fun k:Nat=>(k:Int))↔x∈l:=by
 constructor
 ·intro h
  obtain ⟨y,h1,h2⟩:=List.mem_map.1 h
  rw [←Int.ofNat_inj.1 h2];exact h1
 ·intro h;exact List.mem_map.2 ⟨x,h,rfl⟩
theorem exists_bot:∀(l:List Nat),l≠[]→∃m∈l,∀x∈l,m≤x
 | [],h=>absurd rfl h
 | [a],_=>⟨a,List.mem_cons_self ..,fun x hx=>by rw [List.mem_singleton.1 hx];exact Nat.le_refl _⟩
 | a::b::l,_=>by
  obtain ⟨m,h1,h2⟩:=exists_bot (b::l) (by simp)
  by_cases h:a≤m
  ·exact ⟨a,List.mem_cons_self ..,fun x hx=>by
    rcases List.mem_cons.1 hx with rfl | hx
    ·exact Nat.le_refl _
    ·exact Nat.le_trans h (h2 x hx)⟩
  ·exact ⟨m,List.mem_cons_of_mem _ h1,fun x hx=>by
    rcases List.mem_cons.1 hx with rfl | hx
    ·omega
    ·exact h2 x hx⟩
theorem C_impl_tarjan_1 (T:List (List Int)) (p:Nat→Bool) (n:Nat) (ht:Tbl T n) (hn:n≤1000):∀(k:Nat) (s:Tj) (G:List Nat) (v:Nat),TInv (insT T p n) n p s G→s.o v=0→v<n→p v=true→(∀g∈G,Rch (insT T p n) [(g:Int)] v)→n - s.c≤k →
  ∀(Q:List AV→Prop),(∀s' X,TPost (insT T p n) n p s G v s' X→Q (s'.av n T p))→mc.C f_impl_tarjan_1 (⟨I,(v:Int)⟩::s.av n T p) Q:=by
 intro k
 induction k with
 | zero =>
  intro s G v h ho hv hp ha hk
  have h1:=(TLoop.init h ho hv hp ha).inv.few.1
  have:(s.push v).c=s.c+1:=rfl
  omega
 | succ k ih =>
  intro s G v h ho hv hp ha hk Q hQ
  have hL:=TLoop.init h ho hv hp ha
  have hTl:=ht.1
  have hf:=h.few
  have hrl:(T.getD v []).length≤1048576:=(ht.2 _ (getD_mem (by omega))).1
  obtain ⟨row,hrow⟩:∃row,T.getD v []=row:=⟨_,rfl⟩
  have hri:=fun i (hi:i<row.length)=>ht.row (i:=v) _ (by rw [hrow];exact getD_mem (d:=0) hi)
  rw [hrow] at hrl
  have hedge:∀y:Nat,(y:Int)∈(insT T p n).getD v []↔(y:Int)∈row∧p y=true:=fun y=>by rw [insT_mem hv,hrow];simp [hp]
  refine mc.c_of F_impl_tarjan_1 ?_
  simp only [Tj.av]
  simp+contextual(maxSteps:=1000000)(disch:=omega)only[↓Sd,↓So,↓Sk,↓den,↓denA,Sa,Sb,Sc,Se,O1.d,O2.d,O3.d,cmI,arI,envOf,putN,↓reduceIte,Nat.reduceLT,Nat.reduceSub,Nat.reduceAdd,Int.reduceAdd,Int.reduceEq,Int.reduceLT,Int.reduceLE,arr_pos,arr_neg,↓wpJoin,tr_impl_tarjan_1,tab_len,tab_set',List.length_map,hTl,hrow]
  have epo:∀s:Tj,(fun k=>if k=v then (s.c:Int)+1 else (s.o k:Int))=fun k=>(((s.push v).o k:Nat):Int):=fun s=>funext fun k=>by
   simp only [Tj.push];split<;>simp
  have epl:∀s:Tj,(fun k=>if k=v then (s.c:Int)+1 else (s.lw k:Int))=fun k=>(((s.push v).lw k:Nat):Int):=fun s=>funext fun k=>by
   simp only [Tj.push];split<;>simp
  have esl:∀(s':Tj) (x:Nat),(fun k=>if k=v then (if (x:Int)<(s'.lw v:Int) then (x:Int) else (s'.lw v:Int)) else (s'.lw k:Int))=fun k=>(((s'.setL v (min (s'.lw v) x)).lw k:Nat):Int):=fun s' x=>funext fun k=>by
   simp only [Tj.setL]
   split
   ·split<;>omega
   ·rfl
  refine mc.lp_for (Tj×List Nat) (fun j z=>[⟨I,(v:Int)⟩,⟨L I,row⟩,⟨I,(row.length:Int)⟩,⟨I,(j:Int)⟩,⟨I,(z.1.c:Int)⟩,⟨L (L I),T⟩,⟨L B,tab p n⟩,⟨L I,tab (fun k=>(z.1.o k:Int)) n⟩,⟨L I,tab (fun k=>(z.1.lw k:Int)) n⟩,⟨L I,z.1.st.map fun k:Nat=>(k:Int)⟩,⟨L I,tab z.1.out n⟩])
   (fun j z=>∃dn,TLoop (insT T p n) n p s G v z.1 z.2 dn∧∀y:Nat,(y:Int)∈row.take j→p y=true→y∈dn) row.length 0 (s.push v,[]) _ ?_ (Nat.zero_le _) ⟨[],hL,by simp⟩ ?_ ?_
  ·rw [epo s,epl s]
   simp [Tj.push]
  ·rintro j ⟨s',X⟩ hj ⟨dn,hl,hdn⟩
   dsimp only at hl
   have hmr:=hri j hj
   obtain ⟨m,hm⟩:∃m:Nat,row.getD j 0=(m:Int):=⟨_,(Int.toNat_of_nonneg hmr.1).symm⟩
   rw [hm] at hmr
   have hmn:m<n:=Int.ofNat_lt.1 hmr.2
   have hnext:∀y:Nat,(y:Int)∈row.take (j+1)→(y:Int)∈row.take j∨y=m:=fun y hy=>by
    rcases (mem_take_next hj).1 hy with h1 | h1
    ·exact .inl h1
    ·rw [hm] at h1;exact .inr (Int.ofNat_inj.1 h1)
   have hvo:s'.o v≠0:=by rw [hl.ov];omega
   by_cases hpm:p m=true
   ·have hem:(m:Int)∈(insT T p n).getD v []:=(hedge m).2 ⟨by rw [←hm];exact getD_mem hj,hpm⟩
    by_cases hom:s'.o m=0
    ·simp+contextual(maxSteps:=1000000)(disch:=omega)only[↓Sd,↓So,↓Sk,↓den,↓denA,Sa,Sb,Sc,Se,O1.d,O2.d,O3.d,cmI,arI,envOf,putN,↓reduceIte,Nat.reduceLT,Nat.reduceSub,Nat.reduceAdd,Int.reduceAdd,Int.reduceEq,Int.reduceLT,Int.reduceLE,arr_pos,arr_neg,↓wpJoin,hm,tab_len,tab_get hmn,hpm,hom]
     refine ih s' (v::G) m hl.inv hom hmn hpm ?_ ?_ _ fun s2 X2 hP=>?_
     ·intro g hg
      rcases List.mem_cons.1 hg with rfl | hg
      ·exact edge_rch hem
      ·exact (ha g hg).trans (edge_rch hem)
     ·have h1:=hl.inv.cnt v
      have h2:=hl.ov
      have h3:=hl.inv.few.1
      omega
     ·simp only [Tj.av]
      simp+contextual(maxSteps:=1000000)(disch:=omega)only[↓Sd,↓So,↓Sk,↓den,↓denA,Sa,Sb,Sc,Se,O1.d,O2.d,O3.d,cmI,arI,envOf,putN,↓reduceIte,Nat.reduceLT,Nat.reduceSub,Nat.reduceAdd,Int.reduceAdd,Int.reduceEq,Int.reduceLT,Int.reduceLE,arr_pos,arr_neg,tab_len,tab_get hmn,tab_get hv,tab_set',hm]
      refine ⟨(s2.setL v (min (s2.lw v) (s2.lw m)),X++X2),⟨rfl,rfl,congrArg (tab · n) (esl s2 (s2.lw m)),rfl,rfl⟩,m::dn,hl.child hom hP hem,fun y hy hpy=>?_⟩
      rcases hnext y hy with h1 | h1
      ·exact List.mem_cons_of_mem _ (hdn y h1 hpy)
      ·rw [h1];exact List.mem_cons_self ..
    ·by_cases hout:s'.out m<0
     ·simp+contextual(maxSteps:=1000000)(disch:=omega)only[↓Sd,↓So,↓Sk,↓den,↓denA,Sa,Sb,Sc,Se,O1.d,O2.d,O3.d,cmI,arI,envOf,putN,↓reduceIte,Nat.reduceLT,Nat.reduceSub,Nat.reduceAdd,Int.reduceAdd,Int.reduceEq,Int.reduceLT,Int.reduceLE,arr_pos,arr_neg,↓wpJoin,hm,tab_len,tab_get hmn,tab_get hv,tab_set',hpm,hom,hout]
      refine ⟨(s'.setL v (min (s'.lw v) (s'.o m)),X),⟨rfl,rfl,congrArg (tab · n) (esl s' (s'.o m)),rfl,rfl⟩,m::dn,hl.back hom hout hem,fun y hy hpy=>?_⟩
      rcases hnext y hy with h1 | h1
      ·exact List.mem_cons_of_mem _ (hdn y h1 hpy)
      ·rw [h1];exact List.mem_cons_self ..
     ·simp+contextual(maxSteps:=1000000)(disch:=omega)only[↓Sd,↓So,↓Sk,↓den,↓denA,Sa,Sb,Sc,Se,O1.d,O2.d,O3.d,cmI,arI,envOf,putN,↓reduceIte,Nat.reduceLT,Nat.reduceSub,Nat.reduceAdd,Int.reduceAdd,Int.reduceEq,Int.reduceLT,Int.reduceLE,arr_pos,arr_neg,↓wpJoin,hm,tab_len,tab_get hmn,hpm,hom,hout]
      refine ⟨(s',X),⟨rfl,rfl,rfl,rfl,rfl⟩,m::dn,hl.closed (Int.not_lt.1 hout),fun y hy hpy=>?_⟩
      rcases hnext y hy with h1 | h1
      ·exact List.mem_cons_of_mem _ (hdn y h1 hpy)
      ·rw [h1];exact List.mem_cons_self ..
   ·simp+contextual(maxSteps:=1000000)(disch:=omega)only[↓Sd,↓So,↓Sk,↓den,↓denA,Sa,Sb,Sc,Se,O1.d,O2.d,O3.d,cmI,arI,envOf,putN,↓reduceIte,Nat.reduceLT,Nat.reduceSub,Nat.reduceAdd,Int.reduceAdd,Int.reduceEq,Int.reduceLT,Int.reduceLE,arr_pos,arr_neg,↓wpJoin,hm,tab_len,tab_get hmn,hpm]
    refine ⟨(s',X),⟨rfl,rfl,rfl,rfl,rfl⟩,dn,hl,fun y hy hpy=>?_⟩
    rcases hnext y hy with h1 | h1
    ·exact hdn y h1 hpy
    ·rw [h1] at hpy;exact absurd hpy hpm
  ·rintro ⟨s',X⟩ ⟨dn,hl,hdn⟩
   dsimp only at hl
   rw [List.take_length] at hdn
   have hd:∀y:Nat,(y:Int)∈(insT T p n).getD v []→y∈dn:=fun y hy=>hdn y ((hedge y).1 hy).1 ((hedge y).1 hy).2
   have hf':=hl.inv.few
   by_cases he:s'.lw v=s'.o v
   ·obtain ⟨mu,hmu,hml⟩:=exists_bot (v::X) (by simp)
    have hst:s'.st.map (fun k:Nat=>(k:Int))=s.st.map (fun k:Nat=>(k:Int))++(v:Int)::X.map (fun k:Nat=>(k:Int)):=by rw [hl.st];simp
    have hnot:(v:Int)∉s.st.map (fun k:Nat=>(k:Int)):=fun h=>hl.nG (List.mem_cons_self ..) (map_int_mem.1 h)
    have hlen:(s.st.map (fun k:Nat=>(k:Int))++(v:Int)::X.map (fun k:Nat=>(k:Int))).length=s.st.length+(X.length+1):=by simp
    have hlen2:s'.st.length=s.st.length+(X.length+1):=by rw [hl.st];simp
    have hbot:IsBot ((v:Int)::X.map (fun k:Nat=>(k:Int))) (mu:Int):=by
     rw [show (v:Int)::X.map (fun k:Nat=>(k:Int))=(v::X).map (fun k:Nat=>(k:Int)) from rfl]
     refine ⟨map_int_mem.2 hmu,fun x hx=>?_⟩
     obtain ⟨y,h1,rfl⟩:=List.mem_map.1 hx
     exact Int.ofNat_le.2 (hml y h1)
    have hidx:=C_slices_Index (s.st.map (fun k:Nat=>(k:Int))) (X.map (fun k:Nat=>(k:Int))) (v:Int) hnot (by omega)
    obtain ⟨A,hA⟩:∃A,s.st.map (fun k:Nat=>(k:Int))=A:=⟨_,rfl⟩
    obtain ⟨Z,hB⟩:∃Z,(v:Int)::X.map (fun k:Nat=>(k:Int))=Z:=⟨_,rfl⟩
    have hAl:A.length=s.st.length:=by rw [←hA];simp
    have hBl:Z.length=X.length+1:=by rw [←hB];simp
    have hBx:Z=(v::X).map (fun k:Nat=>(k:Int)):=by rw [←hB];rfl
    rw [←hAl] at hlen2
    have hlen3:(A++Z).length=A.length+(X.length+1):=by rw [List.length_append,hBl]
    have hcut:List.drop A.length (List.take ((A.length:Int)+((X.length:Int)+1)).toNat (A++Z))=Z:=by
     rw [show ((A.length:Int)+((X.length:Int)+1)).toNat=(A++Z).length by rw [hlen3];omega,List.take_length,List.drop_left]
    have htake:List.take A.length (A++Z)=A:=List.take_left ..
    have hget:∀i,i<X.length+1→(A++Z).getD (A.length+i) 0=(((v::X).getD i 0:Nat):Int):=by
     intro i hi
     rw [List.getD_eq_getElem?_getD,List.getElem?_append_right (Nat.le_add_right _ _),Nat.add_sub_cancel_left,hBx,List.getElem?_map,List.getD_eq_getElem?_getD,List.getElem?_eq_getElem (by simpa using hi)]
     rfl
    have hgn:∀i,i<X.length+1→(v::X).getD i 0<n:=fun i hi=>(hl.inv.lt _ ((hl.inv.stv _).1 (hl.inA (getD_mem (by simpa using hi)))).1).1
    rw [hst]
    rw [hA,hB] at hidx hlen ⊢
    rw [hB] at hbot
    have hmin:=C_slices_Min Z mu hbot (by omega)
    simp+contextual(maxSteps:=1000000)(disch:=omega)only[↓Sd,↓So,↓Sk,↓den,↓denA,Sa,Sb,Sc,Se,O1.d,O2.d,O3.d,cmI,arI,envOf,putN,↓reduceIte,Nat.reduceLT,Nat.reduceSub,Nat.reduceAdd,Int.reduceAdd,Int.reduceEq,Int.reduceLT,Int.reduceLE,arr_pos,arr_neg,tab_len,tab_get hv,he,hidx,hlen3,hcut,hmin,hBl]
    refine mc.lp_for (Nat→Int) (fun j f=>[⟨I,(A.length:Int)⟩,⟨I,(mu:Int)⟩,⟨I,(A.length:Int)⟩,⟨I,(A.length:Int)+((X.length:Int)+1)⟩,⟨I,(X.length:Int)+1⟩,⟨I,(j:Int)⟩,⟨I,(s'.c:Int)⟩,⟨L (L I),T⟩,⟨L Sm.Q.B,tab p n⟩,⟨L I,tab (fun k=>(s'.o k:Int)) n⟩,⟨L I,tab (fun k=>(s'.lw k:Int)) n⟩,⟨L I,A++Z⟩,⟨L I,tab f n⟩])
     (fun j f=>∀k,f k=if k∈(v::X).take j then (mu:Int) else s'.out k) (X.length+1) 0 s'.out _ rfl (Nat.zero_le _) (fun k=>by simp) ?_ ?_
    ·intro j f hj hf
     have e1:((A.length:Int)+(j:Int)).toNat=A.length+j:=by omega
     have e2:=hget j hj
     have e3:=hgn j hj
     have e4:(v::X).take (j+1)=(v::X).take j++[(v::X).getD j 0]:=by
      rw [List.take_succ_eq_append_getElem (by simpa using hj),List.getD_eq_getElem?_getD,List.getElem?_eq_getElem (by simpa using hj)]
      rfl
     generalize (v::X).getD j 0=y at e2 e3 e4
     simp+contextual(maxSteps:=1000000)(disch:=omega)only[↓Sd,↓So,↓Sk,↓den,↓denA,Sa,Sb,Sc,Se,O1.d,O2.d,O3.d,cmI,arI,envOf,putN,↓reduceIte,Nat.reduceLT,Nat.reduceSub,Nat.reduceAdd,Int.reduceAdd,Int.reduceEq,Int.reduceLT,Int.reduceLE,arr_pos,arr_neg,hlen3,hcut,hBl,e1,e2,tab_len,tab_set']
     refine ⟨_,rfl,fun k=>?_⟩
     rw [e4,hf k]
     by_cases hk:k=y
     ·subst hk;simp
     ·simp [hk]
    ·intro f hf
     simp+contextual(maxSteps:=1000000)(disch:=omega)only[↓Sd,↓So,↓Sk,↓den,↓denA,Sa,Sb,Sc,Se,O1.d,O2.d,O3.d,cmI,arI,envOf,putN,↓reduceIte,Nat.reduceLT,Nat.reduceSub,Nat.reduceAdd,Int.reduceAdd,Int.reduceEq,Int.reduceLT,Int.reduceLE,arr_pos,arr_neg,hlen3,htake]
     have h1:=hQ _ _ (hl.pop he hd hmu hml)
     have h2:f=(s'.pop s.st (v::X) mu).out:=funext fun k=>by
      rw [hf k,List.take_of_length_le (by simp)]
      rfl
     rw [h2,←hA]
     exact h1
   ·have he':¬((s'.lw v:Int)=(s'.o v:Int)):=fun h=>he (Int.ofNat_inj.1 h)
    simp+contextual(maxSteps:=1000000)(disch:=omega)only[↓Sd,↓So,↓Sk,↓den,↓denA,Sa,Sb,Sc,Se,O1.d,O2.d,O3.d,cmI,arI,envOf,putN,↓reduceIte,Nat.reduceLT,Nat.reduceSub,Nat.reduceAdd,Int.reduceAdd,Int.reduceEq,Int.reduceLT,Int.reduceLE,arr_pos,arr_neg,tab_len,tab_get hv,he']
    exact hQ s' (v::X) (hl.keep he hd)
theorem C_impl_tarjan (T:List (List Int)) (p:Nat→Bool) (n:Nat) (ht:Tb8 T n) (Q:List AV→Prop) :
  mc.C f_impl_tarjan [⟨L (L I),T⟩,⟨L B,tab p n⟩] Q=Q [⟨L I,tab (fun k=>if p k=true then cmp (insT T p n) n k else -1) n⟩]:=by
 refine Mc.Ends.c (mc.ends F_impl_tarjan ?_)
 have hTl:=ht.1.1
 have hn:=ht.2.1
 have hrep:∀c:Int,List.replicate n c=tab (fun _=>c) n:=fun c=>by simp [tab,List.map_const']
 simp+contextual(maxSteps:=1000000)(disch:=omega)only[↓Sd,↓So,↓Sk,↓den,↓denA,Sa,Sb,Sc,Se,O1.d,O2.d,O3.d,cmI,arI,envOf,putN,↓reduceIte,Nat.reduceLT,Nat.reduceSub,Nat.reduceAdd,Int.reduceAdd,Int.reduceEq,Int.reduceLT,Int.reduceLE,arr_pos,arr_neg,↓wpJoin,tr_impl_tarjan,hTl,C_slices_Repeat (-1) n (by omega)]
 refine mc.lp_for Tj (fun j z=>[⟨I,(n:Int)⟩,⟨I,(j:Int)⟩,⟨L B,tab p n⟩,⟨L I,tab (fun k=>(z.o k:Int)) n⟩,⟨L I,tab z.out n⟩,⟨L I,z.st.map fun k:Nat=>(k:Int)⟩,⟨I,(z.c:Int)⟩,⟨L I,tab (fun k=>(z.lw k:Int)) n⟩,⟨L (L I),T⟩])
  (fun j z=>TInv (insT T p n) n p z []∧∀k,k<j→p k=true→z.o k≠0) n 0 tj0 _ ?_ (Nat.zero_le _) ⟨.zero,fun k hk=>absurd hk (Nat.not_lt_zero _)⟩ ?_ ?_
 ·rw [hrep,hrep];rfl
 ·rintro j z hj ⟨h1,h2⟩
  have hnext:∀z':Tj,(∀k,z.o k≠0→z'.o k≠0)→(p j=true→z'.o j≠0)→∀k,k<j+1→p k=true→z'.o k≠0:=fun z' g1 g2 k hk hp=>by
   by_cases he:k=j
   ·subst he;exact g2 hp
   ·exact g1 k (h2 k (by omega) hp)
  by_cases hp:p j=true
  ·by_cases ho:z.o j=0
   ·simp+contextual(maxSteps:=1000000)(disch:=omega)only[↓Sd,↓So,↓Sk,↓den,↓denA,Sa,Sb,Sc,Se,O1.d,O2.d,O3.d,cmI,arI,envOf,putN,↓reduceIte,Nat.reduceLT,Nat.reduceSub,Nat.reduceAdd,Int.reduceAdd,Int.reduceEq,Int.reduceLT,Int.reduceLE,arr_pos,arr_neg,↓wpJoin,tab_len,tab_get hj,hp,ho]
    refine C_impl_tarjan_1 T p n ht.1 (by omega) _ z [] j h1 ho hj hp (fun g hg=>by simp at hg) (Nat.le_refl _) _ fun z' X hP=>?_
    simp only [Tj.av]
    simp+contextual(maxSteps:=1000000)(disch:=omega)only[↓Sd,↓So,↓Sk,↓den,↓denA,Sa,Sb,Sc,Se,O1.d,O2.d,O3.d,cmI,arI,envOf,putN,↓reduceIte,Nat.reduceLT,Nat.reduceSub,Nat.reduceAdd,Int.reduceAdd,Int.reduceEq,Int.reduceLT,Int.reduceLE,arr_pos,arr_neg,]
    refine ⟨z',by simp,hP.inv,hnext z' (fun k hk=>?_) fun _=>hP.vis⟩
    rw [(hP.ext.old k hk).1];exact hk
   ·simp+contextual(maxSteps:=1000000)(disch:=omega)only[↓Sd,↓So,↓Sk,↓den,↓denA,Sa,Sb,Sc,Se,O1.d,O2.d,O3.d,cmI,arI,envOf,putN,↓reduceIte,Nat.reduceLT,Nat.reduceSub,Nat.reduceAdd,Int.reduceAdd,Int.reduceEq,Int.reduceLT,Int.reduceLE,arr_pos,arr_neg,↓wpJoin,tab_len,tab_get hj,hp,ho]
    refine ⟨z,?_,h1,hnext z (fun k hk=>hk) fun _=>ho⟩
    simp
  ·simp+contextual(maxSteps:=1000000)(disch:=omega)only[↓Sd,↓So,↓Sk,↓den,↓denA,Sa,Sb,Sc,Se,O1.d,O2.d,O3.d,cmI,arI,envOf,putN,↓reduceIte,Nat.reduceLT,Nat.reduceSub,Nat.reduceAdd,Int.reduceAdd,Int.reduceEq,Int.reduceLT,Int.reduceLE,arr_pos,arr_neg,↓wpJoin,tab_len,tab_get hj,hp]
   refine ⟨z,?_,h1,hnext z (fun k hk=>hk) fun h=>absurd h hp⟩
   simp
 ·rintro z ⟨h1,h2⟩
  simp+contextual(maxSteps:=1000000)(disch:=omega)only[↓Sd,↓So,↓Sk,↓den,↓denA,Sa,Sb,Sc,Se,O1.d,O2.d,O3.d,cmI,arI,envOf,putN,↓reduceIte,Nat.reduceLT,Nat.reduceSub,Nat.reduceAdd,Int.reduceAdd,Int.reduceEq,Int.reduceLT,Int.reduceLE,arr_pos,arr_neg,]
  rw [tab_congr fun k hk=>h1.done h2 hk]
abbrev FBox:Ty:=P (P (L V3) (L TR)) (P (L (L I)) (P (L I) (P (L I) (L (L I)))))
def ruM (s:Sy) (k a:Nat):List Int:=useM s.1 (s.2.getD k ([],[],[])) (stN s a)
def rub (s:Sy) (k a:Nat):Bool:=decide (ruM s k a≠[])
def rtg (s:Sy) (k a:Nat):Int:=if ruM s k a=[] then -1 else num s.1 (ruM s k a)
theorem rtg_bd {s:Sy} (h:valid s) {k a:Nat}:rtg s k a = -1∨0≤rtg s k a∧rtg s k a<(szn s.1:Int):=by
 unfold rtg
 split
 ·exact .inl rfl
 ·rename_i h1
  have h2:=num_bd h.2.2.1 (useM_in h1)
  have h3:=szn_eq h
  exact .inr ⟨h2.1,by rw [h3.1];exact h2.2⟩
theorem rtg_nn {s:Sy} (h:valid s) {k a:Nat}:0≤rtg s k a↔rub s k a=true:=by
 unfold rtg rub
 split
 ·rename_i h1;simp [h1]
 ·rename_i h1
  have h2:=num_bd h.2.2.1 (useM_in h1)
  simp only [ne_eq,h1,not_false_eq_true,decide_true,iff_true]
  exact h2.1
theorem rtg_nat {s:Sy} (h:valid s) {k a:Nat} (hu:rub s k a=true):∃b,b<szn s.1∧rtg s k a=(b:Int):=by
 have h1:=(rtg_nn h).2 hu
 have h2:=rtg_bd h (k:=k) (a:=a)
 exact ⟨(rtg s k a).toNat,by omega,(Int.toNat_of_nonneg h1).symm⟩
theorem rtg_no {s:Sy} (h:valid s) {k a:Nat} (hu:¬rub s k a=true):rtg s k a = -1:=by
 rcases rtg_bd h (k:=k) (a:=a) with h1 | h1
 ·exact h1
 ·exact absurd ((rtg_nn h).1 h1.1) hu
def toT (s:Sy):List (List Int):=tab (fun k=>tab (rtg s k) (szn s.1)) s.2.length
abbrev fbx (s:Sy) (weak strong:List Int):FBox.D:=((s.1,s.2),(steps s,(weak,(strong,toT s))))
noncomputable def leadB (s:Sy) (k:Nat) (p:Nat→Bool):Bool:=dB (∃a,a<szn s.1∧p a=true∧∃b:Nat,rtg s k a=(b:Int)∧p b=true)
theorem C_impl_fairnessOf (s:Sy) (h:valid s) (weak strong:List Int) (Q:List AV→Prop):mc.C f_impl_fairnessOf [⟨L V3,s.1⟩,⟨L TR,s.2⟩,⟨L I,weak⟩,⟨L I,strong⟩] Q=Q [⟨FBox,fbx s weak strong⟩]:=by
 have hz:=szn_eq h
 have h5:=h.1.2
 have hv:=h.2.2.1
 have hTl:=(steps_tbl h).1
 have hR:=h.2.1
 refine Mc.Ends.c (mc.ends F_impl_fairnessOf ?_)
 simp+contextual(maxSteps:=1000000)(disch:=omega)only[↓Sd,↓So,↓Sk,↓den,↓denA,Sa,Sb,Sc,Se,O1.d,O2.d,O3.d,cmI,arI,envOf,putN,↓reduceIte,Nat.reduceLT,Nat.reduceSub,Nat.reduceAdd,Int.reduceAdd,Int.reduceEq,Int.reduceLT,Int.reduceLE,arr_pos,arr_neg,tr_impl_fairnessOf,C_impl_nexts s h]
 refine mc.lp_for (List (List Int)) (fun i o=>[⟨I,(s.2.length:Int)⟩,⟨I,(i:Int)⟩,⟨L V3,s.1⟩,⟨L TR,s.2⟩,⟨L V3,s.1⟩,⟨L TR,s.2⟩,⟨L I,weak⟩,⟨L I,strong⟩,⟨L (L I),steps s⟩,⟨L (L I),o⟩])
  (fun i o=>o=tab (fun k=>tab (rtg s k) (szn s.1)) i) s.2.length 0 [] _ rfl (Nat.zero_le _) rfl ?_ ?_
 ·rintro i o hi rfl
  simp+contextual(maxSteps:=1000000)(disch:=omega)only[↓Sd,↓So,↓Sk,↓den,↓denA,Sa,Sb,Sc,Se,O1.d,O2.d,O3.d,cmI,arI,envOf,putN,↓reduceIte,Nat.reduceLT,Nat.reduceSub,Nat.reduceAdd,Int.reduceAdd,Int.reduceEq,Int.reduceLT,Int.reduceLE,arr_pos,arr_neg,hTl,C_slices_Repeat (-1) (szn s.1) (by omega),List.length_replicate]
  refine mc.lp_for (List Int) (fun j o=>[⟨I,(i:Int)⟩,⟨I,(s.2.length:Int)⟩,⟨I,(i:Int)⟩,⟨I,(szn s.1:Int)⟩,⟨I,(j:Int)⟩,⟨L V3,s.1⟩,⟨L TR,s.2⟩,⟨L V3,s.1⟩,⟨L TR,s.2⟩,⟨L I,weak⟩,⟨L I,strong⟩,⟨L (L I),steps s⟩,⟨L (L I),tab (fun k=>tab (rtg s k) (szn s.1)) i⟩,⟨L I,o⟩])
   (fun j o=>o=tab (rtg s i) j++List.replicate (szn s.1 - j) (-1)) (szn s.1) 0 (List.replicate (szn s.1) (-1)) _ rfl (Nat.zero_le _) (by simp [tab]) ?_ ?_
  ·rintro j o hj rfl
   have hin:=stN_in h hj
   have hst:stAt s.1 (j:Int)=stN s j:=rfl
   have hus:useM s.1 (s.2.getD i ([],[],[])) (stN s j)=ruM s i j:=rfl
   by_cases hu:ruM s i j=[]
   ·have ht:rtg s i j = -1:=if_pos hu
    simp+contextual(maxSteps:=1000000)(disch:=omega)only[↓Sd,↓So,↓Sk,↓den,↓denA,Sa,Sb,Sc,Se,O1.d,O2.d,O3.d,cmI,arI,envOf,putN,↓reduceIte,Nat.reduceLT,Nat.reduceSub,Nat.reduceAdd,Int.reduceAdd,Int.reduceEq,Int.reduceLT,Int.reduceLE,arr_pos,arr_neg,↓wpJoin,C_impl_stateAt s j h5 hv (by omega),hst,C_impl_use s (stN s j) i h hin hi,hus,hu,ne_eq,not_true_eq_false,decide_false]
    rw [sub_split hj,List.replicate_succ,←tab_next,ht]
    simp
   ·have ht:rtg s i j=num s.1 (ruM s i j):=if_neg hu
    have hl:(tab (rtg s i) j++List.replicate (szn s.1 - j) (-1)).length=szn s.1:=by simp [tab_len];omega
    simp+contextual(maxSteps:=1000000)(disch:=omega)only[↓Sd,↓So,↓Sk,↓den,↓denA,Sa,Sb,Sc,Se,O1.d,O2.d,O3.d,cmI,arI,envOf,putN,↓reduceIte,Nat.reduceLT,Nat.reduceSub,Nat.reduceAdd,Int.reduceAdd,Int.reduceEq,Int.reduceLT,Int.reduceLE,arr_pos,arr_neg,↓wpJoin,C_impl_stateAt s j h5 hv (by omega),hst,C_impl_use s (stN s j) i h hin hi,hus,ne_eq,hu,not_false_eq_true,decide_true,C_impl_number s (ruM s i j) h5 hv (useM_in hu),hl]
    exact tab_set hj ht.symm
  ·rintro o rfl
   have htl:(tab (fun k=>tab (rtg s k) (szn s.1)) i).length=i:=tab_len
   rw [Nat.sub_self,List.replicate_zero,List.append_nil]
   simp+contextual(maxSteps:=1000000)(disch:=omega)only[↓Sd,↓So,↓Sk,↓den,↓denA,Sa,Sb,Sc,Se,O1.d,O2.d,O3.d,cmI,arI,envOf,putN,↓reduceIte,Nat.reduceLT,Nat.reduceSub,Nat.reduceAdd,Int.reduceAdd,Int.reduceEq,Int.reduceLT,Int.reduceLE,arr_pos,arr_neg,htl]
   exact tab_next
 ·rintro o rfl
  simp+contextual(maxSteps:=1000000)(disch:=omega)only[↓Sd,↓So,↓Sk,↓den,↓denA,Sa,Sb,Sc,Se,O1.d,O2.d,O3.d,cmI,arI,envOf,putN,↓reduceIte,Nat.reduceLT,Nat.reduceSub,Nat.reduceAdd,Int.reduceAdd,Int.reduceEq,Int.reduceLT,Int.reduceLE,arr_pos,arr_neg,]
  rfl
theorem C_impl_leads (s:Sy) (h:valid s) (weak strong:List Int) (k:Nat) (hk:k<s.2.length) (p:Nat→Bool) (Q:List AV→Prop) :
  mc.C f_impl_fairness_leads [⟨FBox,fbx s weak strong⟩,⟨I,(k:Int)⟩,⟨L B,tab p (szn s.1)⟩] Q=Q [⟨B,leadB s k p⟩,⟨FBox,fbx s weak strong⟩]:=by
 have hz:=szn_eq h
 have hg:(toT s).getD k []=tab (rtg s k) (szn s.1):=tab_get hk
 have hl:(toT s).length=s.2.length:=tab_len
 refine Mc.Ends.c (mc.ends F_impl_fairness_leads ?_)
 simp+contextual(maxSteps:=1000000)(disch:=omega)only[↓Sd,↓So,↓Sk,↓den,↓denA,Sa,Sb,Sc,Se,O1.d,O2.d,O3.d,cmI,arI,envOf,putN,↓reduceIte,Nat.reduceLT,Nat.reduceSub,Nat.reduceAdd,Int.reduceAdd,Int.reduceEq,Int.reduceLT,Int.reduceLE,arr_pos,arr_neg,tr_impl_fairness_leads,fbx,tab_len]
 refine mc.lp_for Unit (fun j _=>[⟨I,(k:Int)⟩,⟨L B,tab p (szn s.1)⟩,⟨L B,tab p (szn s.1)⟩,⟨I,(szn s.1:Int)⟩,⟨I,(j:Int)⟩,⟨L V3,s.1⟩,⟨L TR,s.2⟩,⟨L (L I),steps s⟩,⟨L I,weak⟩,⟨L I,strong⟩,⟨L (L I),toT s⟩])
  (fun j _=>∀a,a<j→p a=true→∀b:Nat,rtg s k a=(b:Int)→¬p b=true) (szn s.1) 0 () _ rfl (Nat.zero_le _) (fun a ha=>absurd ha (Nat.not_lt_zero _)) ?_ ?_
 ·rintro j _ hj hI
  have hnext:(p j=true→∀b:Nat,rtg s k j=(b:Int)→¬p b=true)→∀a,a<j+1→p a=true→∀b:Nat,rtg s k a=(b:Int)→¬p b=true:=fun h1 a ha=>by
   by_cases he:a=j
   ·subst he;exact h1
   ·exact hI a (by omega)
  by_cases hp:p j=true
  ·by_cases hu:rub s k j=true
   ·obtain ⟨b,hb,ht⟩:=rtg_nat h hu
    by_cases hpb:p b=true
    ·have hT:leadB s k p=true:=dB_t ⟨j,hj,hp,b,ht,hpb⟩
     simp+contextual(maxSteps:=1000000)(disch:=omega)only[↓Sd,↓So,↓Sk,↓den,↓denA,Sa,Sb,Sc,Se,O1.d,O2.d,O3.d,cmI,arI,envOf,putN,↓reduceIte,Nat.reduceLT,Nat.reduceSub,Nat.reduceAdd,Int.reduceAdd,Int.reduceEq,Int.reduceLT,Int.reduceLE,arr_pos,arr_neg,↓wpJoin,tab_len,tab_get hj,hp,hl,hg,ht,tab_get hb,hpb,hT]
    ·simp+contextual(maxSteps:=1000000)(disch:=omega)only[↓Sd,↓So,↓Sk,↓den,↓denA,Sa,Sb,Sc,Se,O1.d,O2.d,O3.d,cmI,arI,envOf,putN,↓reduceIte,Nat.reduceLT,Nat.reduceSub,Nat.reduceAdd,Int.reduceAdd,Int.reduceEq,Int.reduceLT,Int.reduceLE,arr_pos,arr_neg,↓wpJoin,tab_len,tab_get hj,hp,hl,hg,ht,tab_get hb,hpb]
     exact hnext fun _ b' hb'=>by rw [ht] at hb';rw [←Int.ofNat_inj.1 hb'];exact hpb
   ·have ht:=rtg_no h hu
    simp+contextual(maxSteps:=1000000)(disch:=omega)only[↓Sd,↓So,↓Sk,↓den,↓denA,Sa,Sb,Sc,Se,O1.d,O2.d,O3.d,cmI,arI,envOf,putN,↓reduceIte,Nat.reduceLT,Nat.reduceSub,Nat.reduceAdd,Int.reduceAdd,Int.reduceEq,Int.reduceLT,Int.reduceLE,arr_pos,arr_neg,↓wpJoin,tab_len,tab_get hj,hp,hl,hg,ht]
    exact hnext fun _ b' hb'=>by rw [ht] at hb';omega
  ·simp+contextual(maxSteps:=1000000)(disch:=omega)only[↓Sd,↓So,↓Sk,↓den,↓denA,Sa,Sb,Sc,Se,O1.d,O2.d,O3.d,cmI,arI,envOf,putN,↓reduceIte,Nat.reduceLT,Nat.reduceSub,Nat.reduceAdd,Int.reduceAdd,Int.reduceEq,Int.reduceLT,Int.reduceLE,arr_pos,arr_neg,↓wpJoin,tab_len,tab_get hj,hp]
   exact hnext fun h=>absurd h hp
 ·rintro _ hI
  have hF:leadB s k p=false:=dB_f fun ⟨a,h1,h2,b,h3,h4⟩=>hI a h1 h2 b h3 h4
  simp+contextual(maxSteps:=1000000)(disch:=omega)only[↓Sd,↓So,↓Sk,↓den,↓denA,Sa,Sb,Sc,Se,O1.d,O2.d,O3.d,cmI,arI,envOf,putN,↓reduceIte,Nat.reduceLT,Nat.reduceSub,Nat.reduceAdd,Int.reduceAdd,Int.reduceEq,Int.reduceLT,Int.reduceLE,arr_pos,arr_neg,hF]
theorem C_spec_l23Usable (s:Sy) (hs:FewSy s) (h:valid s) (Q:List AV→Prop):mc.C f_spec_l23Usable [⟨L V3,s.1⟩,⟨L TR,s.2⟩] Q=Q [⟨L (L B),tab (fun k=>tab (rub s k) (szn s.1)) s.2.length⟩]:=by
 have hz:=szn_eq h
 have hR:=h.2.1
 refine Mc.Ends.c (mc.ends F_spec_l23Usable ?_)
 simp+contextual(maxSteps:=1000000)(disch:=omega)only[↓Sd,↓So,↓Sk,↓den,↓denA,Sa,Sb,Sc,Se,O1.d,O2.d,O3.d,cmI,arI,envOf,putN,↓reduceIte,Nat.reduceLT,Nat.reduceSub,Nat.reduceAdd,Int.reduceAdd,Int.reduceEq,Int.reduceLT,Int.reduceLE,arr_pos,arr_neg,tr_spec_l23Usable]
 refine mc.lp_for (List (List Bool)) (fun i o=>[⟨I,(i:Int)⟩,⟨L V3,s.1⟩,⟨L TR,s.2⟩,⟨L (L B),o⟩]) (fun i o=>o=tab (fun k=>tab (rub s k) (szn s.1)) i) s.2.length 0 [] _ rfl (Nat.zero_le _) rfl ?_ ?_
 ·rintro i o hi rfl
  simp+contextual(maxSteps:=1000000)(disch:=omega)only[↓Sd,↓So,↓Sk,↓den,↓denA,Sa,Sb,Sc,Se,O1.d,O2.d,O3.d,cmI,arI,envOf,putN,↓reduceIte,Nat.reduceLT,Nat.reduceSub,Nat.reduceAdd,Int.reduceAdd,Int.reduceEq,Int.reduceLT,Int.reduceLE,arr_pos,arr_neg,C_spec_SizeOf s hs,h,←hz.1,List.length_replicate]
  refine mc.lp_for (List Bool) (fun j o=>[⟨I,(i:Int)⟩,⟨I,(j:Int)⟩,⟨L V3,s.1⟩,⟨L TR,s.2⟩,⟨L (L B),tab (fun k=>tab (rub s k) (szn s.1)) i⟩,⟨L B,o⟩])
   (fun j o=>o=tab (rub s i) j++List.replicate (szn s.1 - j) false) (szn s.1) 0 (List.replicate (szn s.1) false) _ rfl (Nat.zero_le _) (by simp [tab]) ?_ ?_
  ·rintro j o hj rfl
   have hin:=stN_in h hj
   have hst:stAt s.1 (j:Int)=stN s j:=rfl
   have hus:useM s.1 (s.2.getD i ([],[],[])) (stN s j)=ruM s i j:=rfl
   have hl:(tab (rub s i) j++List.replicate (szn s.1 - j) false).length=szn s.1:=by simp [tab_len];omega
   have hd:decide ((0:Int)<((ruM s i j).length:Int))=rub s i j:=by
    unfold rub
    rw [decide_eq_decide]
    cases ruM s i j with
    | nil=>simp
    | cons x l=>simp
   simp+contextual(maxSteps:=1000000)(disch:=omega)only[↓Sd,↓So,↓Sk,↓den,↓denA,Sa,Sb,Sc,Se,O1.d,O2.d,O3.d,cmI,arI,envOf,putN,↓reduceIte,Nat.reduceLT,Nat.reduceSub,Nat.reduceAdd,Int.reduceAdd,Int.reduceEq,Int.reduceLT,Int.reduceLE,arr_pos,arr_neg,C_spec_l4State s j hs h (by omega),hst,C_spec_l2Use s (stN s j) i h hin hi,hus,hl]
   exact tab_set hj (by rw [←hd])
  ·rintro o rfl
   have hl:(tab (rub s i) (szn s.1)++List.replicate (szn s.1 - szn s.1) false).length=szn s.1:=by simp [tab_len]
   have htl:(tab (fun k=>tab (rub s k) (szn s.1)) i).length=i:=tab_len
   simp+contextual(maxSteps:=1000000)(disch:=omega)only[↓Sd,↓So,↓Sk,↓den,↓denA,Sa,Sb,Sc,Se,O1.d,O2.d,O3.d,cmI,arI,envOf,putN,↓reduceIte,Nat.reduceLT,Nat.reduceSub,Nat.reduceAdd,Int.reduceAdd,Int.reduceEq,Int.reduceLT,Int.reduceLE,arr_pos,arr_neg,hl,htl]
   rw [Nat.sub_self,List.replicate_zero,List.append_nil]
   exact tab_next
 ·rintro o rfl
  simp+contextual(maxSteps:=1000000)(disch:=omega)only[↓Sd,↓So,↓Sk,↓den,↓denA,Sa,Sb,Sc,Se,O1.d,O2.d,O3.d,cmI,arI,envOf,putN,↓reduceIte,Nat.reduceLT,Nat.reduceSub,Nat.reduceAdd,Int.reduceAdd,Int.reduceEq,Int.reduceLT,Int.reduceLE,arr_pos,arr_neg,]
theorem C_spec_l23Target (s:Sy) (hs:FewSy s) (h:valid s) (a k:Nat) (ha:a<szn s.1) (hk:k<s.2.length) (Q:List AV→Prop):mc.C f_spec_l23Target [⟨L V3,s.1⟩,⟨L TR,s.2⟩,⟨I,(a:Int)⟩,⟨I,(k:Int)⟩] Q=Q [⟨I,rtg s k a⟩]:=by
 have hz:=szn_eq h
 have hin:=stN_in h ha
 have hst:stAt s.1 (a:Int)=stN s a:=rfl
 have hus:useM s.1 (s.2.getD k ([],[],[])) (stN s a)=ruM s k a:=rfl
 refine Mc.Ends.c (mc.ends F_spec_l23Target ?_)
 by_cases hu:ruM s k a=[]
 ·have ht:rtg s k a = -1:=if_pos hu
  simp+contextual(maxSteps:=1000000)(disch:=omega)only[↓Sd,↓So,↓Sk,↓den,↓denA,Sa,Sb,Sc,Se,O1.d,O2.d,O3.d,cmI,arI,envOf,putN,↓reduceIte,Nat.reduceLT,Nat.reduceSub,Nat.reduceAdd,Int.reduceAdd,Int.reduceEq,Int.reduceLT,Int.reduceLE,arr_pos,arr_neg,tr_spec_l23Target,C_spec_l4State s a hs h (by omega),hst,C_spec_l2Use s (stN s a) k h hin hk,hus,hu,ht,List.length_nil]
 ·have ht:rtg s k a=num s.1 (ruM s k a):=if_neg hu
  have hl:=List.length_pos_iff.2 hu
  simp+contextual(maxSteps:=1000000)(disch:=omega)only[↓Sd,↓So,↓Sk,↓den,↓denA,Sa,Sb,Sc,Se,O1.d,O2.d,O3.d,cmI,arI,envOf,putN,↓reduceIte,Nat.reduceLT,Nat.reduceSub,Nat.reduceAdd,Int.reduceAdd,Int.reduceEq,Int.reduceLT,Int.reduceLE,arr_pos,arr_neg,tr_spec_l23Target,C_spec_l4State s a hs h (by omega),hst,C_spec_l2Use s (stN s a) k h hin hk,hus,ht,C_spec_l4Number s (ruM s k a) h.1.2 h.2.2.1 (useM_in hu)]
theorem C_spec_l23Inner (s:Sy) (hs:FewSy s) (h:valid s) (p:Nat→Bool) (k:Nat) (hk:k<s.2.length) {Q:List AV→Prop} (hQ:∀x:Int,(0≤x↔leadB s k p=true)→Q [⟨I,x⟩]) :
  mc.C f_spec_l23Inner [⟨L V3,s.1⟩,⟨L TR,s.2⟩,⟨L I,upTo p (szn s.1)⟩,⟨I,(k:Int)⟩] Q:=by
 have hz:=szn_eq h
 have hl:(upTo p (szn s.1)).length≤szn s.1:=upTo_len
 refine mc.c_of F_spec_l23Inner ?_
 simp+contextual(maxSteps:=1000000)(disch:=omega)only[↓Sd,↓So,↓Sk,↓den,↓denA,Sa,Sb,Sc,Se,O1.d,O2.d,O3.d,cmI,arI,envOf,putN,↓reduceIte,Nat.reduceLT,Nat.reduceSub,Nat.reduceAdd,Int.reduceAdd,Int.reduceEq,Int.reduceLT,Int.reduceLE,arr_pos,arr_neg,tr_spec_l23Inner]
 have hmem:∀x:Int,x∈upTo p (szn s.1)↔∃a,a<szn s.1∧x=(a:Int)∧p a=true:=fun x=>upTo_mem
 generalize hset:upTo p (szn s.1)=l at hl hmem
 refine mc.lp_for Unit (fun j _=>[⟨L I,l⟩,⟨I,(k:Int)⟩,⟨I,(j:Int)⟩,⟨L V3,s.1⟩,⟨L TR,s.2⟩]) (fun j _=>∀x∈l.take j,¬rtg s k x.toNat∈l) l.length 0 () _ rfl (Nat.zero_le _) (fun x hx=>by simp at hx) ?_ ?_
 ·rintro j _ hj hI
  obtain ⟨a,h1,h2,h3⟩:=(hmem _).1 (getD_mem (d:=0) hj)
  by_cases ht:rtg s k a∈l
  ·simp+contextual(maxSteps:=1000000)(disch:=omega)only[↓Sd,↓So,↓Sk,↓den,↓denA,Sa,Sb,Sc,Se,O1.d,O2.d,O3.d,cmI,arI,envOf,putN,↓reduceIte,Nat.reduceLT,Nat.reduceSub,Nat.reduceAdd,Int.reduceAdd,Int.reduceEq,Int.reduceLT,Int.reduceLE,arr_pos,arr_neg,h2,C_spec_l23Target s hs h a k h1 hk,C_spec_l2Has l _ (by omega),dB_t ht]
   refine hQ _ ⟨fun _=>?_,fun _=>Int.natCast_nonneg _⟩
   obtain ⟨b,g1,g2,g3⟩:=(hmem _).1 ht
   exact dB_t ⟨a,h1,h3,b,g2,g3⟩
  ·simp+contextual(maxSteps:=1000000)(disch:=omega)only[↓Sd,↓So,↓Sk,↓den,↓denA,Sa,Sb,Sc,Se,O1.d,O2.d,O3.d,cmI,arI,envOf,putN,↓reduceIte,Nat.reduceLT,Nat.reduceSub,Nat.reduceAdd,Int.reduceAdd,Int.reduceEq,Int.reduceLT,Int.reduceLE,arr_pos,arr_neg,h2,C_spec_l23Target s hs h a k h1 hk,C_spec_l2Has l _ (by omega),dB_f ht]
   intro x hx
   rcases (mem_take_next hj).1 hx with h4 | h4
   ·exact hI x h4
   ·rw [h4,h2];exact ht
 ·rintro _ hI
  rw [List.take_length] at hI
  simp+contextual(maxSteps:=1000000)(disch:=omega)only[↓Sd,↓So,↓Sk,↓den,↓denA,Sa,Sb,Sc,Se,O1.d,O2.d,O3.d,cmI,arI,envOf,putN,↓reduceIte,Nat.reduceLT,Nat.reduceSub,Nat.reduceAdd,Int.reduceAdd,Int.reduceEq,Int.reduceLT,Int.reduceLE,arr_pos,arr_neg,]
  refine hQ _ ⟨fun h=>absurd h (by omega),fun h=>?_⟩
  obtain ⟨a,h1,h2,b,h3,h4⟩:=dB_iff.1 h
  have hb:=rtg_bd ‹valid s› (k:=k) (a:=a)
  exact absurd ((hmem _).2 ⟨b,by omega,h3,h4⟩) (hI (a:Int) ((hmem _).2 ⟨a,h1,rfl,h2⟩))
noncomputable def insS (s:Sy) (p:Nat→Bool):List (List Int):=insT (steps s) p (szn s.1)
noncomputable def isP (s:Sy) (p:Nat→Bool) (m a:Nat):Bool:=p a&&dB (cmp (insS s p) (szn s.1) a=(m:Int))
noncomputable def isR (s:Sy) (p:Nat→Bool) (m:Nat):Bool:=dB (cmp (insS s p) (szn s.1) m=(m:Int)∧(1<(upTo (isP s p m) (szn s.1)).length∨(m:Int)∈(steps s).getD m []∨(steps s).getD m []=[]))
noncomputable def prts (s:Sy) (p:Nat→Bool) (l:List Int):List (List Int):=(l.filter fun x=>isR s p x.toNat).map fun x=>upTo (isP s p x.toNat) (szn s.1)
noncomputable def wdead (s:Sy) (weak:List Int) (q:Nat→Bool):Bool:=dB (∃k:Nat,(k:Int)∈weak∧(∀a,a<szn s.1→q a=true→rub s k a=true)∧leadB s k q=false)
noncomputable def sleft (s:Sy) (strong:List Int) (q:Nat→Bool) (a:Nat):Bool:=q a&&!dB (∃k:Nat,(k:Int)∈strong∧leadB s k q=false∧rub s k a=true)
theorem filter_next {l:List Int} {i:Nat} (h:i<l.length) (f:Int→Bool):(l.take (i+1)).filter f=(l.take i).filter f++if f (l.getD i 0)=true then [l.getD i 0] else []:=by
 rw [←take_next (d:=0) h,List.filter_append]
 congr 1
 simp [List.filter_cons]
def rlist (s:Sy) (l:List Int):Prop:=∀x∈l,0≤x∧x<(s.2.length:Int)
theorem C_spec_l23Parts (s:Sy) (h:valid s) (p:Nat→Bool) (Q:List AV→Prop):mc.C f_spec_l23Parts [⟨L V3,s.1⟩,⟨L TR,s.2⟩,⟨L (L I),steps s⟩,⟨L I,upTo p (szn s.1)⟩] Q=Q [⟨L (L I),prts s p (upTo p (szn s.1))⟩]:=by
 have hz:=szn_eq h
 have ht:=steps_tb8 h
 have hTl:=ht.1.1
 have hn:=ht.2.1
 have hrow:=ht.2.2
 obtain ⟨n,hnz⟩:∃n,szn s.1=n:=⟨_,rfl⟩
 obtain ⟨T,hT⟩:∃T,steps s=T:=⟨_,rfl⟩
 have hU:insS s p=insT T p n:=by unfold insS;rw [hT,hnz]
 have hP:∀m,isP s p m=fun a=>p a&&dB (cmp (insT T p n) n a=(m:Int)):=fun m=>by funext a;unfold isP;rw [hU,hnz]
 have hR:∀m,isR s p m=dB (cmp (insT T p n) n m=(m:Int)∧(1<(upTo (isP s p m) n).length∨(m:Int)∈T.getD m []∨T.getD m []=[])):=fun m=>by unfold isR;rw [hU,hnz,hT]
 have hpr:∀l,prts s p l=(l.filter fun x=>isR s p x.toNat).map fun x=>upTo (isP s p x.toNat) n:=fun l=>by unfold prts;rw [hnz]
 rw [hnz] at hz
 rw [hpr,hnz,hT]
 rw [hT] at hTl hrow ht
 rw [hnz] at ht hTl hn
 have hu8:=insT_tb8 (p:=p) ht
 have hsl:(upTo p n).length≤n:=upTo_len
 have hsm:∀i,i<(upTo p n).length→∃a,a<n∧(upTo p n).getD i 0=(a:Int)∧p a=true:=fun i hi=>upTo_mem.1 (getD_mem (d:=0) hi)
 refine Mc.Ends.c (mc.ends F_spec_l23Parts ?_)
 simp+contextual(maxSteps:=1000000)(disch:=omega)only[↓Sd,↓So,↓Sk,↓den,↓denA,Sa,Sb,Sc,Se,O1.d,O2.d,O3.d,cmI,arI,envOf,putN,↓reduceIte,Nat.reduceLT,Nat.reduceSub,Nat.reduceAdd,Int.reduceAdd,Int.reduceEq,Int.reduceLT,Int.reduceLE,arr_pos,arr_neg,tr_spec_l23Parts,hTl,C_spec_l4Marks (upTo p n) n (by omega) (by omega) (fun x hx=>by obtain ⟨a,h1,rfl,_⟩:=upTo_mem.1 hx;omega),upTo_marks]
 generalize hset:upTo p n=l at hsl hsm
 refine mc.lp_for (List (List Int)) (fun i o=>[⟨L (L I),T⟩,⟨L I,l⟩,⟨I,(i:Int)⟩,⟨L (L I),o⟩,⟨L B,tab p n⟩]) (fun i o=>o=tab (fun k=>if p k=true then (T.getD k []).filter (fun x=>p x.toNat) else []) i) n 0 [] _ rfl (Nat.zero_le _) rfl ?_ ?_
 ·rintro i o hi rfl
  have hol:(tab (fun k=>if p k=true then (T.getD k []).filter (fun x=>p x.toNat) else []) i).length=i:=tab_len
  obtain ⟨row,hr⟩:∃row,T.getD i []=row:=⟨_,rfl⟩
  have hrl:row.length≤8:=by rw [←hr];exact hrow _ (getD_mem (by omega))
  have hri:=fun j (hj:j<row.length)=>ht.1.row (i:=i) _ (by rw [hr];exact getD_mem (d:=0) hj)
  generalize hoo:tab (fun k=>if p k=true then (T.getD k []).filter (fun x=>p x.toNat) else []) i=oo at hol
  by_cases hp:p i=true
  ·have hnew:oo++[row.filter fun x=>p x.toNat]=tab (fun k=>if p k=true then (T.getD k []).filter (fun x=>p x.toNat) else []) (i+1):=by
    rw [←tab_next,hoo,if_pos hp,hr]
   simp+contextual(maxSteps:=1000000)(disch:=omega)only[↓Sd,↓So,↓Sk,↓den,↓denA,Sa,Sb,Sc,Se,O1.d,O2.d,O3.d,cmI,arI,envOf,putN,↓reduceIte,Nat.reduceLT,Nat.reduceSub,Nat.reduceAdd,Int.reduceAdd,Int.reduceEq,Int.reduceLT,Int.reduceLE,arr_pos,arr_neg,↓wpJoin,hTl]
   refine mc.lp_for (List Int) (fun j o=>[⟨L (L I),T⟩,⟨L I,l⟩,⟨I,(i:Int)⟩,⟨I,(j:Int)⟩,⟨L (L I),oo⟩,⟨L B,tab p n⟩,⟨L I,o⟩]) (fun j o=>o=(row.take j).filter fun x=>p x.toNat) row.length 0 [] _ rfl (Nat.zero_le _) rfl ?_ ?_
   ·rintro j o hj rfl
    have hm:=hri j hj
    obtain ⟨m,hm2⟩:∃m:Nat,row.getD j 0=(m:Int):=⟨_,(Int.toNat_of_nonneg hm.1).symm⟩
    rw [hm2] at hm
    have hmn:m<n:=Int.ofNat_lt.1 hm.2
    have hfl:((row.take j).filter fun x=>p x.toNat).length≤8:=Nat.le_trans (List.length_filter_le ..) (by rw [List.length_take];omega)
    have hnx:=filter_next hj (fun x=>p x.toNat)
    rw [hm2] at hnx
    by_cases hpm:p m=true
    ·simp+contextual(maxSteps:=1000000)(disch:=omega)only[↓Sd,↓So,↓Sk,↓den,↓denA,Sa,Sb,Sc,Se,O1.d,O2.d,O3.d,cmI,arI,envOf,putN,↓reduceIte,Nat.reduceLT,Nat.reduceSub,Nat.reduceAdd,Int.reduceAdd,Int.reduceEq,Int.reduceLT,Int.reduceLE,arr_pos,arr_neg,↓wpJoin,hTl,hr,tab_len,tab_get hi,hp,hm2,tab_get hmn,hpm]
     rw [hnx];simp [hpm]
    ·simp+contextual(maxSteps:=1000000)(disch:=omega)only[↓Sd,↓So,↓Sk,↓den,↓denA,Sa,Sb,Sc,Se,O1.d,O2.d,O3.d,cmI,arI,envOf,putN,↓reduceIte,Nat.reduceLT,Nat.reduceSub,Nat.reduceAdd,Int.reduceAdd,Int.reduceEq,Int.reduceLT,Int.reduceLE,arr_pos,arr_neg,↓wpJoin,hTl,hr,tab_len,tab_get hi,hp,hm2,tab_get hmn,hpm]
     rw [hnx];simp [hpm]
   ·rintro o rfl
    rw [List.take_length]
    have hfl:(row.filter fun x=>p x.toNat).length≤8:=Nat.le_trans (List.length_filter_le ..) hrl
    simp+contextual(maxSteps:=1000000)(disch:=omega)only[↓Sd,↓So,↓Sk,↓den,↓denA,Sa,Sb,Sc,Se,O1.d,O2.d,O3.d,cmI,arI,envOf,putN,↓reduceIte,Nat.reduceLT,Nat.reduceSub,Nat.reduceAdd,Int.reduceAdd,Int.reduceEq,Int.reduceLT,Int.reduceLE,arr_pos,arr_neg,↓wpJoin,hTl,hr,hol]
    exact hnew
  ·have hnew:oo++[[]]=tab (fun k=>if p k=true then (T.getD k []).filter (fun x=>p x.toNat) else []) (i+1):=by
    rw [←tab_next,hoo,if_neg hp]
   simp+contextual(maxSteps:=1000000)(disch:=omega)only[↓Sd,↓So,↓Sk,↓den,↓denA,Sa,Sb,Sc,Se,O1.d,O2.d,O3.d,cmI,arI,envOf,putN,↓reduceIte,Nat.reduceLT,Nat.reduceSub,Nat.reduceAdd,Int.reduceAdd,Int.reduceEq,Int.reduceLT,Int.reduceLE,arr_pos,arr_neg,↓wpJoin,hTl]
   refine mc.lp_step ?_
   simp+contextual(maxSteps:=1000000)(disch:=omega)only[↓Sd,↓So,↓Sk,↓den,↓denA,Sa,Sb,Sc,Se,O1.d,O2.d,O3.d,cmI,arI,envOf,putN,↓reduceIte,Nat.reduceLT,Nat.reduceSub,Nat.reduceAdd,Int.reduceAdd,Int.reduceEq,Int.reduceLT,Int.reduceLE,arr_pos,arr_neg,↓wpJoin,hTl,hr,tab_len,tab_get hi,hp,hol]
   exact ⟨fun _=>hnew,fun _=>hnew⟩
 ·rintro o rfl
  have hins:tab (fun k=>if p k=true then (T.getD k []).filter (fun x=>p x.toNat) else []) n=insT T p n:=rfl
  simp+contextual(maxSteps:=1000000)(disch:=omega)only[↓Sd,↓So,↓Sk,↓den,↓denA,Sa,Sb,Sc,Se,O1.d,O2.d,O3.d,cmI,arI,envOf,putN,↓reduceIte,Nat.reduceLT,Nat.reduceSub,Nat.reduceAdd,Int.reduceAdd,Int.reduceEq,Int.reduceLT,Int.reduceLE,arr_pos,arr_neg,hTl,hins,C_spec_l5Parts (insT T p n) n hu8]
  refine mc.lp_for (List (List Int)) (fun i o=>[⟨L (L I),T⟩,⟨L I,l⟩,⟨I,(i:Int)⟩,⟨L (L I),insT T p n⟩,⟨L I,tab (cmp (insT T p n) n) n⟩,⟨L (L I),o⟩])
   (fun i o=>o=((l.take i).filter fun x=>isR s p x.toNat).map fun x=>upTo (isP s p x.toNat) n) l.length 0 [] _ rfl (Nat.zero_le _) rfl ?_ ?_
  ·rintro i o hi rfl
   obtain ⟨m,hmn,hm,hpm⟩:=hsm i hi
   have hol:(((l.take i).filter fun x=>isR s p x.toNat).map fun x=>upTo (isP s p x.toNat) n).length≤n:=by
    rw [List.length_map];exact Nat.le_trans (List.length_filter_le ..) (by rw [List.length_take];omega)
   have hnx:((l.take (i+1)).filter fun x=>isR s p x.toNat).map (fun x=>upTo (isP s p x.toNat) n)=((l.take i).filter fun x=>isR s p x.toNat).map (fun x=>upTo (isP s p x.toNat) n)++if isR s p m=true then [upTo (isP s p m) n] else []:=by
    rw [filter_next hi (fun x=>isR s p x.toNat),hm,List.map_append]
    congr 1
    simp only [Int.toNat_natCast]
    split<;>simp
   generalize hoo:((l.take i).filter fun x=>isR s p x.toNat).map (fun x=>upTo (isP s p x.toNat) n)=oo at hol hnx
   by_cases hc:cmp (insT T p n) n m=(m:Int)
   ·simp+contextual(maxSteps:=1000000)(disch:=omega)only[↓Sd,↓So,↓Sk,↓den,↓denA,Sa,Sb,Sc,Se,O1.d,O2.d,O3.d,cmI,arI,envOf,putN,↓reduceIte,Nat.reduceLT,Nat.reduceSub,Nat.reduceAdd,Int.reduceAdd,Int.reduceEq,Int.reduceLT,Int.reduceLE,arr_pos,arr_neg,↓wpJoin,hm,tab_len,tab_get hmn,hc]
    refine mc.lp_for (List Int) (fun j o=>[⟨L (L I),T⟩,⟨L I,l⟩,⟨I,(i:Int)⟩,⟨I,(j:Int)⟩,⟨L (L I),insT T p n⟩,⟨L I,tab (cmp (insT T p n) n) n⟩,⟨L (L I),oo⟩,⟨L I,o⟩]) (fun j o=>o=(l.take j).filter fun x=>dB (cmp (insT T p n) n x.toNat=(m:Int))) l.length 0 [] _ rfl (Nat.zero_le _) rfl ?_ ?_
    ·rintro j o hj rfl
     obtain ⟨b,hbn,hb,hpb⟩:=hsm j hj
     have hfl:((l.take j).filter fun x=>dB (cmp (insT T p n) n x.toNat=(m:Int))).length≤n:=Nat.le_trans (List.length_filter_le ..) (by rw [List.length_take];omega)
     have hnx2:=filter_next hj (fun x=>dB (cmp (insT T p n) n x.toNat=(m:Int)))
     rw [hb] at hnx2
     simp only [Int.toNat_natCast] at hnx2
     by_cases hcb:cmp (insT T p n) n b=(m:Int)
     ·simp+contextual(maxSteps:=1000000)(disch:=omega)only[↓Sd,↓So,↓Sk,↓den,↓denA,Sa,Sb,Sc,Se,O1.d,O2.d,O3.d,cmI,arI,envOf,putN,↓reduceIte,Nat.reduceLT,Nat.reduceSub,Nat.reduceAdd,Int.reduceAdd,Int.reduceEq,Int.reduceLT,Int.reduceLE,arr_pos,arr_neg,↓wpJoin,hm,hb,tab_len,tab_get hmn,tab_get hbn,hcb]
      rw [hnx2,if_pos (dB_t hcb)]
     ·simp+contextual(maxSteps:=1000000)(disch:=omega)only[↓Sd,↓So,↓Sk,↓den,↓denA,Sa,Sb,Sc,Se,O1.d,O2.d,O3.d,cmI,arI,envOf,putN,↓reduceIte,Nat.reduceLT,Nat.reduceSub,Nat.reduceAdd,Int.reduceAdd,Int.reduceEq,Int.reduceLT,Int.reduceLE,arr_pos,arr_neg,↓wpJoin,hm,hb,tab_len,tab_get hmn,tab_get hbn,hcb]
      rw [hnx2,if_neg (by rw [dB_f hcb];simp)];simp
    ·rintro o rfl
     have hPm:(l.filter fun x=>dB (cmp (insT T p n) n x.toNat=(m:Int)))=upTo (isP s p m) n:=by
      rw [←hset,hP];exact upTo_filter (q:=fun k=>dB (cmp (insT T p n) n k=(m:Int)))
     rw [List.take_length,hPm]
     have hpl:(upTo (isP s p m) n).length≤n:=upTo_len
     have hUm:(m:Int)∈(insT T p n).getD m []↔(m:Int)∈T.getD m []:=by rw [insT_mem hmn];simp [hpm]
     have hUl:((insT T p n).getD m []).length≤8:=hu8.2.2 _ (getD_mem (by rw [hu8.1.1];exact hmn))
     have hins2:(insT T p n).length=n:=tab_len
     by_cases h1:1<(upTo (isP s p m) n).length
     ·have hr1:isR s p m=true:=by rw [hR];exact dB_t ⟨hc,.inl h1⟩
      rw [if_pos hr1] at hnx
      simp+contextual(maxSteps:=1000000)(disch:=omega)only[↓Sd,↓So,↓Sk,↓den,↓denA,Sa,Sb,Sc,Se,O1.d,O2.d,O3.d,cmI,arI,envOf,putN,↓reduceIte,Nat.reduceLT,Nat.reduceSub,Nat.reduceAdd,Int.reduceAdd,Int.reduceEq,Int.reduceLT,Int.reduceLE,arr_pos,arr_neg,↓wpJoin,hm]
      exact hnx.symm
     ·by_cases h2:(m:Int)∈T.getD m []
      ·have hr1:isR s p m=true:=by rw [hR];exact dB_t ⟨hc,.inr (.inl h2)⟩
       rw [if_pos hr1] at hnx
       simp+contextual(maxSteps:=1000000)(disch:=omega)only[↓Sd,↓So,↓Sk,↓den,↓denA,Sa,Sb,Sc,Se,O1.d,O2.d,O3.d,cmI,arI,envOf,putN,↓reduceIte,Nat.reduceLT,Nat.reduceSub,Nat.reduceAdd,Int.reduceAdd,Int.reduceEq,Int.reduceLT,Int.reduceLE,arr_pos,arr_neg,↓wpJoin,hm,hins2,C_spec_l2Has _ _ (show ((insT T p n).getD m []).length≤1048576 by omega),dB_t (hUm.2 h2)]
       exact hnx.symm
      ·by_cases h3:T.getD m []=[]
       ·have hr1:isR s p m=true:=by rw [hR];exact dB_t ⟨hc,.inr (.inr h3)⟩
        rw [if_pos hr1] at hnx
        simp+contextual(maxSteps:=1000000)(disch:=omega)only[↓Sd,↓So,↓Sk,↓den,↓denA,Sa,Sb,Sc,Se,O1.d,O2.d,O3.d,cmI,arI,envOf,putN,↓reduceIte,Nat.reduceLT,Nat.reduceSub,Nat.reduceAdd,Int.reduceAdd,Int.reduceEq,Int.reduceLT,Int.reduceLE,arr_pos,arr_neg,↓wpJoin,hm,hins2,C_spec_l2Has _ _ (show ((insT T p n).getD m []).length≤1048576 by omega),dB_f (fun h=>h2 (hUm.1 h)),hTl,h3,List.length_nil]
        exact hnx.symm
       ·have hr1:¬isR s p m=true:=by
         rw [hR,dB_f]
         ·simp
         ·rintro ⟨-,g | g | g⟩
          ·exact h1 g
          ·exact h2 g
          ·exact h3 g
        rw [if_neg hr1,List.append_nil] at hnx
        have h4:=List.length_pos_iff.2 h3
        simp+contextual(maxSteps:=1000000)(disch:=omega)only[↓Sd,↓So,↓Sk,↓den,↓denA,Sa,Sb,Sc,Se,O1.d,O2.d,O3.d,cmI,arI,envOf,putN,↓reduceIte,Nat.reduceLT,Nat.reduceSub,Nat.reduceAdd,Int.reduceAdd,Int.reduceEq,Int.reduceLT,Int.reduceLE,arr_pos,arr_neg,↓wpJoin,hm,hins2,C_spec_l2Has _ _ (show ((insT T p n).getD m []).length≤1048576 by omega),dB_f (fun h=>h2 (hUm.1 h)),hTl]
        exact hnx.symm
   ·have hr1:¬isR s p m=true:=by
     rw [hR,dB_f]
     ·simp
     ·exact fun g=>hc g.1
    rw [if_neg hr1,List.append_nil] at hnx
    simp+contextual(maxSteps:=1000000)(disch:=omega)only[↓Sd,↓So,↓Sk,↓den,↓denA,Sa,Sb,Sc,Se,O1.d,O2.d,O3.d,cmI,arI,envOf,putN,↓reduceIte,Nat.reduceLT,Nat.reduceSub,Nat.reduceAdd,Int.reduceAdd,Int.reduceEq,Int.reduceLT,Int.reduceLE,arr_pos,arr_neg,↓wpJoin,hm,tab_len,tab_get hmn,hc]
    exact hnx.symm
  ·rintro o rfl
   rw [List.take_length]
   simp+contextual(maxSteps:=1000000)(disch:=omega)only[↓Sd,↓So,↓Sk,↓den,↓denA,Sa,Sb,Sc,Se,O1.d,O2.d,O3.d,cmI,arI,envOf,putN,↓reduceIte,Nat.reduceLT,Nat.reduceSub,Nat.reduceAdd,Int.reduceAdd,Int.reduceEq,Int.reduceLT,Int.reduceLE,arr_pos,arr_neg,]
end Go.Proofs.YtknlennollmgeaaGreat
