/- What the trees come to: plain mathematics; no condition. -/
import Derived.Test.YtdcdnfcmllfmlaaGreatSmMath0
namespace Go.Proofs.YtdcdnfcmllfmlaaGreat
open Go Go.Sm Go.Sm.Q
set_option linter.unusedSimpArgs false
set_option linter.unusedVariables false
theorem C_impl_marks (l:List Int) (n:Nat) (hn:n≤1048576) (hl:l.length≤1048576) (h:∀x∈l,0≤x∧x<n) (Q:List AV→Prop):mc.C f_impl_marks [⟨L I,l⟩,⟨I,(n:Int)⟩] Q=Q [⟨L B,tab (fun k=>dB ((k:Int)∈l)) n⟩]:=by
 refine Mc.Ends.c (mc.ends F_impl_marks ?_)
 simp+contextual(maxSteps:=1000000)(disch:=omega)only[↓Sd,↓So,↓Sk,↓den,↓denA,Sa,Sb,Sc,Se,O1.d,O2.d,O3.d,cmI,arI,envOf,putN,↓reduceIte,Nat.reduceLT,Nat.reduceSub,Nat.reduceAdd,Int.reduceAdd,Int.reduceEq,Int.reduceLT,Int.reduceLE,arr_pos,arr_neg,tr_impl_marks]
 refine mc.lp_for (List Bool) (fun i o=>[⟨L I,l⟩,⟨I,(l.length:Int)⟩,⟨I,(i:Int)⟩,⟨L B,o⟩]) (fun i o=>o=tab (fun k=>dB ((k:Int)∈l.take i)) n) l.length 0 (List.replicate n false) _ rfl (Nat.zero_le _) ?_ ?_ ?_
 ·rw [rep_tab];exact tab_congr fun k _=>(dB_f (by simp)).symm
 ·rintro i o hi rfl
  have hx:=h _ (getD_mem (d:=0) hi)
  simp+contextual(maxSteps:=1000000)(disch:=omega)only[↓Sd,↓So,↓Sk,↓den,↓denA,Sa,Sb,Sc,Se,O1.d,O2.d,O3.d,cmI,arI,envOf,putN,↓reduceIte,Nat.reduceLT,Nat.reduceSub,Nat.reduceAdd,Int.reduceAdd,Int.reduceEq,Int.reduceLT,Int.reduceLE,arr_pos,arr_neg,tab_len,tab_set']
  refine tab_congr fun k hk=>?_
  by_cases hk2:k=(l.getD i 0).toNat
  ·rw [if_pos hk2,dB_t];exact (mem_take_next hi).2 (.inr (by omega))
  ·rw [if_neg hk2];refine dB_congr ?_
   rw [mem_take_next hi]
   exact ⟨.inl,fun h=>h.elim id fun h=>absurd h (by omega)⟩
 ·rintro o rfl
  rw [List.take_length]
  simp+contextual(maxSteps:=1000000)(disch:=omega)only[↓Sd,↓So,↓Sk,↓den,↓denA,Sa,Sb,Sc,Se,O1.d,O2.d,O3.d,cmI,arI,envOf,putN,↓reduceIte,Nat.reduceLT,Nat.reduceSub,Nat.reduceAdd,Int.reduceAdd,Int.reduceEq,Int.reduceLT,Int.reduceLE,arr_pos,arr_neg,]
theorem C_impl_marks_i (l:List Int) (m:Int) (n:Nat) (e:m=n) (hn:n≤1048576) (hl:l.length≤1048576) (h:∀x∈l,0≤x∧x<n) (Q:List AV→Prop):mc.C f_impl_marks [⟨L I,l⟩,⟨I,m⟩] Q=Q [⟨L B,tab (fun k=>dB ((k:Int)∈l)) n⟩]:=e▸C_impl_marks l n hn hl h Q
theorem C_impl_setOk (l:List Int) (m:Int) (hm:0≤m∧m≤1048576) (hl:l.length≤1048576) (Q:List AV→Prop):mc.C f_impl_setOk [⟨L I,l⟩,⟨I,m⟩] Q=Q [⟨B,decide (lset l m)⟩]:=by
 refine Mc.Ends.c (mc.ends F_impl_setOk ?_)
 generalize hK:decide (lset l m)=K
 simp+contextual(maxSteps:=1000000)(disch:=omega)only[↓Sd,↓So,↓Sk,↓den,↓denA,Sa,Sb,Sc,Se,O1.d,O2.d,O3.d,cmI,arI,envOf,putN,↓reduceIte,Nat.reduceLT,Nat.reduceSub,Nat.reduceAdd,Int.reduceAdd,Int.reduceEq,Int.reduceLT,Int.reduceLE,arr_pos,arr_neg,tr_impl_setOk]
 refine lp_all (fun i=>[⟨L I,l⟩,⟨I,m⟩,⟨L I,l⟩,⟨I,(l.length:Int)⟩,⟨I,(i:Int)⟩]) (fun i=>(0≤l.getD i 0∧l.getD i 0≤m - 1)∧(0<i→l.getD (i - 1) 0<l.getD i 0)) l.length _ rfl ?_ ?_
 ·intro i hi
  have hno:¬((0≤l.getD i 0∧l.getD i 0≤m - 1)∧(0<i→l.getD (i - 1) 0<l.getD i 0))→false=K:=fun h=>by rw [←hK,decide_eq_false];exact fun h1=>h (h1 i hi)
  simp+contextual(maxSteps:=1000000)(disch:=omega)only[↓Sd,↓So,↓Sk,↓den,↓denA,Sa,Sb,Sc,Se,O1.d,O2.d,O3.d,cmI,arI,envOf,putN,↓reduceIte,Nat.reduceLT,Nat.reduceSub,Nat.reduceAdd,Int.reduceAdd,Int.reduceEq,Int.reduceLT,Int.reduceLE,arr_pos,arr_neg,↓wpJoin,C_impl_in]
  grind
 ·intro h
  simp+contextual(maxSteps:=1000000)(disch:=omega)only[↓Sd,↓So,↓Sk,↓den,↓denA,Sa,Sb,Sc,Se,O1.d,O2.d,O3.d,cmI,arI,envOf,putN,↓reduceIte,Nat.reduceLT,Nat.reduceSub,Nat.reduceAdd,Int.reduceAdd,Int.reduceEq,Int.reduceLT,Int.reduceLE,arr_pos,arr_neg,]
  rw [←hK,decide_eq_true];exact h
def setV (s:Sy) (l:List Int):Prop:=valid s∧lset l (sz s.1)
instance (s : Sy) (l : List Int) : Decidable (setV s l) := by unfold setV; infer_instance
theorem setV.n {s:Sy} {l:List Int} (h:setV s l):lset l (szn s.1):=by rw [(szn_eq h.1).1];exact h.2
theorem setV.len {s:Sy} {l:List Int} (h:setV s l):l.length≤400:=by
 have h1:=lset_len h.n (by omega)
 have h2:=szn_eq h.1
 omega
theorem setV.mem {s:Sy} {l:List Int} (h:setV s l):∀x∈l,0≤x∧x<(szn s.1:Int):=lset_mem h.n
theorem sz_ok {s:Sy} (h:valid s):1≤sz s.1∧sz s.1≤400:=by have:=szn_eq h;omega
theorem C_impl_SetValid (s:Sy) (l:List Int) (hs:FewSy s) (hl:l.length≤1048576) (Q:List AV→Prop):mc.C f_impl_SetValid [⟨L V3,s.1⟩,⟨L TR,s.2⟩,⟨L I,l⟩] Q=Q [⟨B,decide (setV s l)⟩]:=by
 refine Mc.Ends.c (mc.ends F_impl_SetValid ?_)
 generalize hK:decide (setV s l)=K
 simp+contextual(maxSteps:=1000000)(disch:=omega)only[↓Sd,↓So,↓Sk,↓den,↓denA,Sa,Sb,Sc,Se,O1.d,O2.d,O3.d,cmI,arI,envOf,putN,↓reduceIte,Nat.reduceLT,Nat.reduceSub,Nat.reduceAdd,Int.reduceAdd,Int.reduceEq,Int.reduceLT,Int.reduceLE,arr_pos,arr_neg,tr_impl_SetValid,C_impl_SystemValid s hs]
 refine ⟨fun h=>?_,fun h=>?_⟩
 ·have hz:=sz_ok h
  simp+contextual(maxSteps:=1000000)(disch:=omega)only[↓Sd,↓So,↓Sk,↓den,↓denA,Sa,Sb,Sc,Se,O1.d,O2.d,O3.d,cmI,arI,envOf,putN,↓reduceIte,Nat.reduceLT,Nat.reduceSub,Nat.reduceAdd,Int.reduceAdd,Int.reduceEq,Int.reduceLT,Int.reduceLE,arr_pos,arr_neg,C_impl_size s.1 h.1.2 h.2.2.1,C_impl_setOk l (sz s.1) (by omega) hl]
  rw [←hK];exact decide_eq_decide.2 ⟨fun g=>⟨h,g⟩,fun g=>g.2⟩
 ·rw [←hK,decide_eq_false fun g=>h g.1]
def pastL (T:List (List Int)) (k:Nat):Nat→List Int
 | 0=>[]
 | m+1=>pastL T k m++List.replicate ((T.getD m []).count (k:Int)) (m:Int)
theorem pastL_mem {T:List (List Int)} {k:Nat} {x:Int}:∀{m:Nat},x∈pastL T k m↔∃a,a<m∧x=(a:Int)∧(k:Int)∈T.getD a []
 | 0=>by simp [pastL]
 | m+1=>by
  simp only [pastL,List.mem_append,List.mem_replicate,pastL_mem (m:=m)]
  constructor
  ·rintro (⟨a,h1,h2,h3⟩ | ⟨h1,h2⟩)
   ·exact ⟨a,by omega,h2,h3⟩
   ·exact ⟨m,by omega,h2,List.count_pos_iff.1 (by omega)⟩
  ·rintro ⟨a,h1,h2,h3⟩
   rcases Nat.lt_succ_iff_lt_or_eq.1 h1 with h | rfl
   ·exact .inl ⟨a,h,h2,h3⟩
   ·exact .inr ⟨by have:=List.count_pos_iff.2 h3;omega,h2⟩
theorem pastL_len {T:List (List Int)} {k:Nat} (h:∀r∈T,r.length≤8):∀{m:Nat},(pastL T k m).length≤8 * m
 | 0=>by simp [pastL]
 | m+1=>by
  have ih:=pastL_len (k:=k) h (m:=m)
  have h1:(T.getD m []).count (k:Int)≤(T.getD m []).length:=List.count_le_length
  have h2:(T.getD m []).length≤8:=by
   by_cases hm:m<T.length
   ·exact h _ (getD_mem hm)
   ·rw [List.getD_eq_getElem?_getD,List.getElem?_eq_none (by omega)];simp
  simp only [pastL,List.length_append,List.length_replicate]
  omega
def Tb8 (T:List (List Int)) (n:Nat):Prop:=Tbl T n∧n≤400∧∀r∈T,r.length≤8
theorem steps_tb8 {s:Sy} (h:valid s):Tb8 (steps s) (szn s.1):=by
 refine ⟨steps_tbl h,(szn_eq h).2.2,fun r hr=>?_⟩
 simp only [steps,tab,List.mem_map,List.mem_range] at hr
 obtain ⟨i,hi,rfl⟩:=hr
 simp only [stepR,List.length_map]
 exact nxt_len h
theorem count_next {l:List Int} {j:Nat} {x:Int} (h:j<l.length):(l.take (j+1)).count x=(l.take j).count x+if l.getD j 0=x then 1 else 0:=by
 rw [←take_next (d:=0) h,List.count_append,List.count_singleton]
 by_cases h1:l.getD j 0=x
 ·simp [h1]
 ·simp [h1]
def pasts (T:List (List Int)) (n:Nat):List (List Int):=tab (fun k=>pastL T k n) n
theorem C_impl_pasts (T:List (List Int)) (n:Nat) (ht:Tb8 T n) (Q:List AV→Prop):mc.C f_impl_pasts [⟨L (L I),T⟩] Q=Q [⟨L (L I),pasts T n⟩]:=by
 obtain ⟨ht,hn,h8⟩:=ht
 have hl:=ht.1
 refine Mc.Ends.c (mc.ends F_impl_pasts ?_)
 simp+contextual(maxSteps:=1000000)(disch:=omega)only[↓Sd,↓So,↓Sk,↓den,↓denA,Sa,Sb,Sc,Se,O1.d,O2.d,O3.d,cmI,arI,envOf,putN,↓reduceIte,Nat.reduceLT,Nat.reduceSub,Nat.reduceAdd,Int.reduceAdd,Int.reduceEq,Int.reduceLT,Int.reduceLE,arr_pos,arr_neg,tr_impl_pasts,hl]
 refine mc.lp_for (List (List Int)) (fun i o=>[⟨L (L I),T⟩,⟨I,(n:Int)⟩,⟨I,(i:Int)⟩,⟨L (L I),o⟩]) (fun i o=>o=tab (fun k=>pastL T k i) n) n 0 (List.replicate n []) _ rfl (Nat.zero_le _) ?_ ?_ ?_
 ·rw [rep_tab];rfl
 ·rintro i o hi rfl
  have hrow:=ht.row (i:=i)
  have hrl:(T.getD i []).length≤8:=h8 _ (getD_mem (by omega))
  simp+contextual(maxSteps:=1000000)(disch:=omega)only[↓Sd,↓So,↓Sk,↓den,↓denA,Sa,Sb,Sc,Se,O1.d,O2.d,O3.d,cmI,arI,envOf,putN,↓reduceIte,Nat.reduceLT,Nat.reduceSub,Nat.reduceAdd,Int.reduceAdd,Int.reduceEq,Int.reduceLT,Int.reduceLE,arr_pos,arr_neg,hl]
  refine mc.lp_for (List (List Int)) (fun j o=>[⟨I,(i:Int)⟩,⟨L (L I),T⟩,⟨I,(n:Int)⟩,⟨I,(i:Int)⟩,⟨L I,T.getD i []⟩,⟨I,((T.getD i []).length:Int)⟩,⟨I,(j:Int)⟩,⟨L (L I),o⟩]) (fun j o=>o=tab (fun k=>pastL T k i++List.replicate (((T.getD i []).take j).count (k:Int)) (i:Int)) n) (T.getD i []).length 0 _ _ rfl (Nat.zero_le _) ?_ ?_ ?_
  ·exact tab_congr fun k _=>by simp
  ·rintro j o hj rfl
   have hx:=hrow _ (getD_mem (d:=0) hj)
   obtain ⟨x,hxe⟩:∃x:Nat,(T.getD i []).getD j 0=x:=⟨((T.getD i []).getD j 0).toNat,by omega⟩
   have hxn:x<n:=by omega
   have hpl:=pastL_len (k:=x) h8 (m:=i)
   have hc:((T.getD i []).take j).count (x:Int)≤8:=Nat.le_trans List.count_le_length (by rw [List.length_take];omega)
   have hlen:(pastL T x i).length+(List.replicate (((T.getD i []).take j).count (x:Int)) (i:Int)).length≤4000:=by
    rw [List.length_replicate];omega
   simp+contextual(maxSteps:=1000000)(disch:=omega)only[↓Sd,↓So,↓Sk,↓den,↓denA,Sa,Sb,Sc,Se,O1.d,O2.d,O3.d,cmI,arI,envOf,putN,↓reduceIte,Nat.reduceLT,Nat.reduceSub,Nat.reduceAdd,Int.reduceAdd,Int.reduceEq,Int.reduceLT,Int.reduceLE,arr_pos,arr_neg,hxe,tab_len,tab_get hxn,tab_set']
   refine tab_congr fun k hk=>?_
   rw [count_next hj,hxe]
   by_cases hkx:k=x
   ·subst hkx;rw [if_pos rfl,if_pos rfl,List.replicate_succ',List.append_assoc]
   ·rw [if_neg hkx,if_neg (by omega),Nat.add_zero]
  ·rintro o rfl
   rw [List.take_length]
   simp+contextual(maxSteps:=1000000)(disch:=omega)only[↓Sd,↓So,↓Sk,↓den,↓denA,Sa,Sb,Sc,Se,O1.d,O2.d,O3.d,cmI,arI,envOf,putN,↓reduceIte,Nat.reduceLT,Nat.reduceSub,Nat.reduceAdd,Int.reduceAdd,Int.reduceEq,Int.reduceLT,Int.reduceLE,arr_pos,arr_neg,]
   rfl
 ·rintro o rfl
  simp+contextual(maxSteps:=1000000)(disch:=omega)only[↓Sd,↓So,↓Sk,↓den,↓denA,Sa,Sb,Sc,Se,O1.d,O2.d,O3.d,cmI,arI,envOf,putN,↓reduceIte,Nat.reduceLT,Nat.reduceSub,Nat.reduceAdd,Int.reduceAdd,Int.reduceEq,Int.reduceLT,Int.reduceLE,arr_pos,arr_neg,]
  rfl
theorem pasts_len {T:List (List Int)} {n:Nat}:(pasts T n).length=n:=tab_len
theorem pasts_get {T:List (List Int)} {n k:Nat} (h:k<n):(pasts T n).getD k []=pastL T k n:=tab_get h
theorem pasts_tbl {T:List (List Int)} {n:Nat} (h:Tb8 T n):Tbl (pasts T n) n:=by
 refine ⟨tab_len,fun r hr=>?_⟩
 simp only [pasts,tab,List.mem_map,List.mem_range] at hr
 obtain ⟨k,hk,rfl⟩:=hr
 have h1:=pastL_len (k:=k) h.2.2 (m:=n)
 have h2:=h.2.1
 refine ⟨by omega,fun x hx=>?_⟩
 obtain ⟨a,h3,rfl,_⟩:=pastL_mem.1 hx
 omega
noncomputable def ovr (T:List (List Int)) (l:List Int) (k:Nat):Bool:=dB (∃x∈l,(k:Int)∈T.getD x.toNat [])
theorem C_impl_over (T:List (List Int)) (l:List Int) (n:Nat) (hn:n≤1000) (ht:Tbl T n) (hl:l.length≤1048576) (h:∀x∈l,0≤x∧x<n) (Q:List AV→Prop):mc.C f_impl_over [⟨L (L I),T⟩,⟨L I,l⟩] Q=Q [⟨L I,upTo (ovr T l) n⟩]:=by
 have hT:=ht.1
 refine Mc.Ends.c (mc.ends F_impl_over ?_)
 simp+contextual(maxSteps:=1000000)(disch:=omega)only[↓Sd,↓So,↓Sk,↓den,↓denA,Sa,Sb,Sc,Se,O1.d,O2.d,O3.d,cmI,arI,envOf,putN,↓reduceIte,Nat.reduceLT,Nat.reduceSub,Nat.reduceAdd,Int.reduceAdd,Int.reduceEq,Int.reduceLT,Int.reduceLE,arr_pos,arr_neg,tr_impl_over,hT]
 refine mc.lp_for (List Bool) (fun i o=>[⟨L (L I),T⟩,⟨L I,l⟩,⟨I,(l.length:Int)⟩,⟨I,(i:Int)⟩,⟨L B,o⟩]) (fun i o=>o=tab (ovr T (l.take i)) n) l.length 0 (List.replicate n false) _ rfl (Nat.zero_le _) ?_ ?_ ?_
 ·rw [rep_tab];exact tab_congr fun k _=>(dB_f (by simp)).symm
 ·rintro i o hi rfl
  have hx:=h _ (getD_mem (d:=0) hi)
  obtain ⟨x,hxe⟩:∃x:Nat,l.getD i 0=x:=⟨(l.getD i 0).toNat,by omega⟩
  have hxn:x<n:=by omega
  have hrow:=ht.row (i:=x)
  have hrl:(T.getD x []).length≤1048576:=(ht.2 _ (getD_mem (by omega))).1
  simp+contextual(maxSteps:=1000000)(disch:=omega)only[↓Sd,↓So,↓Sk,↓den,↓denA,Sa,Sb,Sc,Se,O1.d,O2.d,O3.d,cmI,arI,envOf,putN,↓reduceIte,Nat.reduceLT,Nat.reduceSub,Nat.reduceAdd,Int.reduceAdd,Int.reduceEq,Int.reduceLT,Int.reduceLE,arr_pos,arr_neg,hT,hxe]
  refine mc.lp_for (List Bool) (fun j o=>[⟨L (L I),T⟩,⟨L I,l⟩,⟨I,(l.length:Int)⟩,⟨I,(i:Int)⟩,⟨L I,T.getD x []⟩,⟨I,((T.getD x []).length:Int)⟩,⟨I,(j:Int)⟩,⟨L B,o⟩]) (fun j o=>o=tab (fun k=>dB (ovr T (l.take i) k=true∨(k:Int)∈(T.getD x []).take j)) n) (T.getD x []).length 0 _ _ rfl (Nat.zero_le _) ?_ ?_ ?_
  ·exact tab_congr fun k _=>by simp [dB_eq]
  ·rintro j o hj rfl
   have hy:=hrow _ (getD_mem (d:=0) hj)
   simp+contextual(maxSteps:=1000000)(disch:=omega)only[↓Sd,↓So,↓Sk,↓den,↓denA,Sa,Sb,Sc,Se,O1.d,O2.d,O3.d,cmI,arI,envOf,putN,↓reduceIte,Nat.reduceLT,Nat.reduceSub,Nat.reduceAdd,Int.reduceAdd,Int.reduceEq,Int.reduceLT,Int.reduceLE,arr_pos,arr_neg,tab_len,tab_set']
   refine tab_congr fun k hk=>?_
   by_cases hk2:k=((T.getD x []).getD j 0).toNat
   ·rw [if_pos hk2,dB_t];exact .inr ((mem_take_next hj).2 (.inr (by omega)))
   ·rw [if_neg hk2];refine dB_congr ?_
    rw [mem_take_next hj]
    exact ⟨fun h=>h.elim .inl fun h=>.inr (.inl h),fun h=>h.elim .inl fun h=>.inr (h.elim id fun h=>absurd h (by omega))⟩
  ·rintro o rfl
   rw [List.take_length]
   simp+contextual(maxSteps:=1000000)(disch:=omega)only[↓Sd,↓So,↓Sk,↓den,↓denA,Sa,Sb,Sc,Se,O1.d,O2.d,O3.d,cmI,arI,envOf,putN,↓reduceIte,Nat.reduceLT,Nat.reduceSub,Nat.reduceAdd,Int.reduceAdd,Int.reduceEq,Int.reduceLT,Int.reduceLE,arr_pos,arr_neg,]
   refine tab_congr fun k hk=>dB_congr ⟨?_,?_⟩
   ·rintro (h | h)
    ·obtain ⟨y,h1,h2⟩:=dB_iff.1 h
     exact ⟨y,(mem_take_next hi).2 (.inl h1),h2⟩
    ·exact ⟨(x:Int),(mem_take_next hi).2 (.inr hxe.symm),by simpa using h⟩
   ·rintro ⟨y,h1,h2⟩
    rcases (mem_take_next hi).1 h1 with h | h
    ·exact .inl (dB_t ⟨y,h,h2⟩)
    ·rw [h,hxe] at h2;exact .inr (by simpa using h2)
 ·rintro o rfl
  rw [List.take_length]
  simp+contextual(maxSteps:=1000000)(disch:=omega)only[↓Sd,↓So,↓Sk,↓den,↓denA,Sa,Sb,Sc,Se,O1.d,O2.d,O3.d,cmI,arI,envOf,putN,↓reduceIte,Nat.reduceLT,Nat.reduceSub,Nat.reduceAdd,Int.reduceAdd,Int.reduceEq,Int.reduceLT,Int.reduceLE,arr_pos,arr_neg,C_impl_listOf_tab (ovr T l) n (by omega)]
theorem ovr_upTo {T:List (List Int)} {p:Nat→Bool} {n k:Nat}:ovr T (upTo p n) k=dB (behind T p n k):=by
 refine dB_congr ⟨?_,?_⟩
 ·rintro ⟨x,h1,h2⟩
  obtain ⟨a,h3,rfl,h4⟩:=upTo_mem.1 h1
  exact ⟨a,h3,h4,by simpa using h2⟩
 ·rintro ⟨a,h1,h2,h3⟩
  exact ⟨(a:Int),upTo_mem.2 ⟨a,h1,rfl,h2⟩,by simpa using h3⟩
def ahead (T:List (List Int)) (p:Nat→Bool) (n:Nat) (k:Nat):Prop:=∃b,b<n∧p b=true∧(b:Int)∈T.getD k []
theorem C_spec_l4Ahead (T:List (List Int)) (p:Nat→Bool) (n:Nat) (hn:n≤1048576) (ht:Tbl T n) (Q:List AV→Prop):mc.C f_spec_l4Ahead [⟨L (L I),T⟩,⟨L B,tab p n⟩] Q=Q [⟨L B,tab (fun k=>dB (ahead T p n k)) n⟩]:=by
 have hT:=ht.1
 refine Mc.Ends.c (mc.ends F_spec_l4Ahead ?_)
 simp+contextual(maxSteps:=1000000)(disch:=omega)only[↓Sd,↓So,↓Sk,↓den,↓denA,Sa,Sb,Sc,Se,O1.d,O2.d,O3.d,cmI,arI,envOf,putN,↓reduceIte,Nat.reduceLT,Nat.reduceSub,Nat.reduceAdd,Int.reduceAdd,Int.reduceEq,Int.reduceLT,Int.reduceLE,arr_pos,arr_neg,tr_spec_l4Ahead,hT]
 refine mc.lp_for (List Bool) (fun i o=>[⟨L (L I),T⟩,⟨L B,tab p n⟩,⟨I,(i:Int)⟩,⟨L B,o⟩]) (fun i o=>o=tab (fun k=>decide (k<i)&&dB (ahead T p n k)) n) n 0 (List.replicate n false) _ rfl (Nat.zero_le _) ?_ ?_ ?_
 ·rw [rep_tab];exact tab_congr fun k _=>by simp
 ·rintro i o hi rfl
  have hrow:=ht.row (i:=i)
  have hrl:(T.getD i []).length≤1048576:=(ht.2 _ (getD_mem (by omega))).1
  simp+contextual(maxSteps:=1000000)(disch:=omega)only[↓Sd,↓So,↓Sk,↓den,↓denA,Sa,Sb,Sc,Se,O1.d,O2.d,O3.d,cmI,arI,envOf,putN,↓reduceIte,Nat.reduceLT,Nat.reduceSub,Nat.reduceAdd,Int.reduceAdd,Int.reduceEq,Int.reduceLT,Int.reduceLE,arr_pos,arr_neg,hT]
  refine mc.lp_for (List Bool) (fun j o=>[⟨L (L I),T⟩,⟨L B,tab p n⟩,⟨I,(i:Int)⟩,⟨I,(j:Int)⟩,⟨L B,o⟩]) (fun j o=>o=tab (fun k=>(decide (k<i)&&dB (ahead T p n k))||decide (k=i)&&dB (∃b,b<n∧p b=true∧(b:Int)∈(T.getD i []).take j)) n) (T.getD i []).length 0 _ _ rfl (Nat.zero_le _) ?_ ?_ ?_
  ·exact tab_congr fun k _=>by rw [dB_f (p:=∃b,b<n∧p b=true∧(b:Int)∈(T.getD i []).take 0) (by simp)];simp
  ·rintro j o hj rfl
   have hy:=hrow _ (getD_mem (d:=0) hj)
   obtain ⟨y,hye⟩:∃y:Nat,(T.getD i []).getD j 0=y:=⟨((T.getD i []).getD j 0).toNat,by omega⟩
   have hyn:y<n:=by omega
   simp+contextual(maxSteps:=1000000)(disch:=omega)only[↓Sd,↓So,↓Sk,↓den,↓denA,Sa,Sb,Sc,Se,O1.d,O2.d,O3.d,cmI,arI,envOf,putN,↓reduceIte,Nat.reduceLT,Nat.reduceSub,Nat.reduceAdd,Int.reduceAdd,Int.reduceEq,Int.reduceLT,Int.reduceLE,arr_pos,arr_neg,↓wpJoin,hT,hye,tab_len,tab_get hyn,tab_set']
   refine ⟨fun g=>tab_congr fun k hk=>?_,fun g=>tab_congr fun k hk=>?_⟩
   ·by_cases hki:k=i
    ·subst hki
     rw [if_pos rfl,dB_t (p:=∃b,b<n∧p b=true∧(b:Int)∈(T.getD k []).take (j+1)) ⟨y,hyn,g,(mem_take_next hj).2 (.inr hye.symm)⟩]
     simp
    ·simp [hki]
   ·congr 2
    refine dB_congr ⟨fun ⟨b,h1,h2,h3⟩=>⟨b,h1,h2,(mem_take_next hj).2 (.inl h3)⟩,fun ⟨b,h1,h2,h3⟩=>⟨b,h1,h2,?_⟩⟩
    rcases (mem_take_next hj).1 h3 with h | h
    ·exact h
    ·have:b=y:=by omega
     subst this;exact absurd h2 g
  ·rintro o rfl
   rw [List.take_length]
   simp+contextual(maxSteps:=1000000)(disch:=omega)only[↓Sd,↓So,↓Sk,↓den,↓denA,Sa,Sb,Sc,Se,O1.d,O2.d,O3.d,cmI,arI,envOf,putN,↓reduceIte,Nat.reduceLT,Nat.reduceSub,Nat.reduceAdd,Int.reduceAdd,Int.reduceEq,Int.reduceLT,Int.reduceLE,arr_pos,arr_neg,hT]
   refine tab_congr fun k hk=>?_
   by_cases hki:k=i
   ·subst hki;simp;rfl
   ·by_cases hlt:k<i
    ·simp [hki,hlt,show k<i+1 by omega]
    ·simp [hki,hlt,show ¬k<i+1 by omega]
 ·rintro o rfl
  simp+contextual(maxSteps:=1000000)(disch:=omega)only[↓Sd,↓So,↓Sk,↓den,↓denA,Sa,Sb,Sc,Se,O1.d,O2.d,O3.d,cmI,arI,envOf,putN,↓reduceIte,Nat.reduceLT,Nat.reduceSub,Nat.reduceAdd,Int.reduceAdd,Int.reduceEq,Int.reduceLT,Int.reduceLE,arr_pos,arr_neg,hT]
  exact tab_congr fun k hk=>by simp [hk]
theorem C_spec_l2Has (l:List Int) (x:Int) (hl:l.length≤1048576) (Q:List AV→Prop):mc.C f_spec_l2Has [⟨L I,l⟩,⟨I,x⟩] Q=Q [⟨B,dB (x∈l)⟩]:=by
 refine Mc.Ends.c (mc.ends F_spec_l2Has ?_)
 generalize hK:dB (x∈l)=K
 simp+contextual(maxSteps:=1000000)(disch:=omega)only[↓Sd,↓So,↓Sk,↓den,↓denA,Sa,Sb,Sc,Se,O1.d,O2.d,O3.d,cmI,arI,envOf,putN,↓reduceIte,Nat.reduceLT,Nat.reduceSub,Nat.reduceAdd,Int.reduceAdd,Int.reduceEq,Int.reduceLT,Int.reduceLE,arr_pos,arr_neg,tr_spec_l2Has]
 refine lp_all (fun i=>[⟨L I,l⟩,⟨I,x⟩,⟨I,(i:Int)⟩]) (fun i=>¬l.getD i 0=x) l.length _ rfl ?_ ?_
 ·intro i hi
  simp+contextual(maxSteps:=1000000)(disch:=omega)only[↓Sd,↓So,↓Sk,↓den,↓denA,Sa,Sb,Sc,Se,O1.d,O2.d,O3.d,cmI,arI,envOf,putN,↓reduceIte,Nat.reduceLT,Nat.reduceSub,Nat.reduceAdd,Int.reduceAdd,Int.reduceEq,Int.reduceLT,Int.reduceLE,arr_pos,arr_neg,]
  intro h
  rw [←hK,dB_t]
  rw [←h];exact getD_mem hi
 ·intro h
  simp+contextual(maxSteps:=1000000)(disch:=omega)only[↓Sd,↓So,↓Sk,↓den,↓denA,Sa,Sb,Sc,Se,O1.d,O2.d,O3.d,cmI,arI,envOf,putN,↓reduceIte,Nat.reduceLT,Nat.reduceSub,Nat.reduceAdd,Int.reduceAdd,Int.reduceEq,Int.reduceLT,Int.reduceLE,arr_pos,arr_neg,]
  rw [←hK,dB_f]
  intro hx
  obtain ⟨i,hi,rfl⟩:=List.getElem_of_mem hx
  exact h i hi (getD_lt hi)
theorem behind_mem {T:List (List Int)} {l:List Int} {n k:Nat} (h:∀x∈l,0≤x∧x<(n:Int)):behind T (fun k=>dB ((k:Int)∈l)) n k↔∃x∈l,(k:Int)∈T.getD x.toNat []:=by
 constructor
 ·rintro ⟨a,h1,h2,h3⟩
  exact ⟨(a:Int),dB_iff.1 h2,by simpa using h3⟩
 ·rintro ⟨x,h1,h2⟩
  have:=h x h1
  exact ⟨x.toNat,by omega,dB_t (by rw [show ((x.toNat:Nat):Int)=x by omega];exact h1),h2⟩
theorem ovr_mem {T:List (List Int)} {l:List Int} {n k:Nat} (h:∀x∈l,0≤x∧x<(n:Int)):ovr T l k=dB (behind T (fun k=>dB ((k:Int)∈l)) n k):=dB_congr (behind_mem h).symm
noncomputable def nextN (s:Sy) (l:List Int):List Int:=upTo (fun k=>dB (behind (steps s) (fun k=>dB ((k:Int)∈l)) (szn s.1) k)) (szn s.1)
noncomputable def stepB (E:Nat→Nat→Prop) (n:Nat) (p:Nat→Bool) (k:Nat):Bool:=p k||dB (∃a,a<n∧p a=true∧E a k)
noncomputable def wI (E:Nat→Nat→Prop) (n:Nat) (p:Nat→Bool):Nat→Nat→Bool
 | 0=>p
 | i+1=>stepB E n (wI E n p i)
theorem stepB_congr {E E':Nat→Nat→Prop} {n:Nat} {p q:Nat→Bool} (hE:∀a k,a<n→k<n→(E a k↔E' a k)) (h:∀k,k<n→p k=q k) {k:Nat} (hk:k<n):stepB E n p k=stepB E' n q k:=by
 unfold stepB
 rw [h k hk]
 congr 1
 exact dB_congr ⟨fun ⟨a,h1,h2,h3⟩=>⟨a,h1,by rw [←h a h1];exact h2,(hE a k h1 hk).1 h3⟩,fun ⟨a,h1,h2,h3⟩=>⟨a,h1,by rw [h a h1];exact h2,(hE a k h1 hk).2 h3⟩⟩
theorem wI_congr {E E':Nat→Nat→Prop} {n:Nat} {p q:Nat→Bool} (hE:∀a k,a<n→k<n→(E a k↔E' a k)) (h:∀k,k<n→p k=q k):∀(i:Nat) {k:Nat},k<n→wI E n p i k=wI E' n q i k
 | 0,k,hk=>h k hk
 | i+1,k,hk=>stepB_congr hE (fun k hk=>wI_congr hE h i hk) hk
theorem wI_stay {E:Nat→Nat→Prop} {n:Nat} {p:Nat→Bool} {i:Nat} (h:∀k,k<n→wI E n p (i+1) k=wI E n p i k):∀(j:Nat),i≤j→∀k,k<n→wI E n p j k=wI E n p i k:=by
 intro j hj
 induction j with
 | zero => intro k hk; have : i = 0 := by omega
           subst this;rfl
 | succ j ih =>
  intro k hk
  rcases Nat.lt_or_eq_of_le hj with h1 | rfl
  ·have h2:=ih (by omega)
   rw [←h k hk]
   exact stepB_congr (fun _ _ _ _=>Iff.rfl) h2 hk
  ·rfl
def Ed (T:List (List Int)) (a k:Nat):Prop:=(k:Int)∈T.getD a []
def Eb (T:List (List Int)) (b k:Nat):Prop:=(b:Int)∈T.getD k []
theorem C_impl_within (T:List (List Int)) (l:List Int) (n kk:Nat) (hn:n≤400) (hk:kk≤400) (ht:Tbl T n) (hl:l.length≤1048576) (h:∀x∈l,0≤x∧x<n) (Q:List AV→Prop) :
  mc.C f_impl_within [⟨L (L I),T⟩,⟨L I,l⟩,⟨I,(kk:Int)⟩] Q=Q [⟨L B,tab (wI (Ed T) n (fun k=>dB ((k:Int)∈l)) kk) n⟩]:=by
 have hT:=ht.1
 refine Mc.Ends.c (mc.ends F_impl_within ?_)
 simp+contextual(maxSteps:=1000000)(disch:=omega)only[↓Sd,↓So,↓Sk,↓den,↓denA,Sa,Sb,Sc,Se,O1.d,O2.d,O3.d,cmI,arI,envOf,putN,↓reduceIte,Nat.reduceLT,Nat.reduceSub,Nat.reduceAdd,Int.reduceAdd,Int.reduceEq,Int.reduceLT,Int.reduceLE,arr_pos,arr_neg,tr_impl_within,hT,C_impl_marks l n (by omega) hl h]
 refine mc.wp_join (fun us=>us=[⟨L B,tab (wI (Ed T) n (fun k=>dB ((k:Int)∈l)) kk) n⟩]) ?_ (by rintro _ rfl;simp+contextual(maxSteps:=1000000)(disch:=omega)only[↓Sd,↓So,↓Sk,↓den,↓denA,Sa,Sb,Sc,Se,O1.d,O2.d,O3.d,cmI,arI,envOf,putN,↓reduceIte,Nat.reduceLT,Nat.reduceSub,Nat.reduceAdd,Int.reduceAdd,Int.reduceEq,Int.reduceLT,Int.reduceLE,arr_pos,arr_neg,])
 generalize hP:(fun k:Nat=>dB ((k:Int)∈l))=P
 simp+contextual(maxSteps:=1000000)(disch:=omega)only[↓Sd,↓So,↓Sk,↓den,↓denA,Sa,Sb,Sc,Se,O1.d,O2.d,O3.d,cmI,arI,envOf,putN,↓reduceIte,Nat.reduceLT,Nat.reduceSub,Nat.reduceAdd,Int.reduceAdd,Int.reduceEq,Int.reduceLT,Int.reduceLE,arr_pos,arr_neg,]
 refine mc.lp_for (List Bool) (fun i o=>[⟨L (L I),T⟩,⟨I,(kk:Int)⟩,⟨I,(i:Int)⟩,⟨L B,o⟩]) (fun i o=>o=tab (wI (Ed T) n P i) n) kk 0 _ _ rfl (Nat.zero_le _) rfl ?_ ?_
 ·rintro i o hi rfl
  generalize hp:wI (Ed T) n P i=p
  have hlen:=@upTo_len p n
  simp+contextual(maxSteps:=1000000)(disch:=omega)only[↓Sd,↓So,↓Sk,↓den,↓denA,Sa,Sb,Sc,Se,O1.d,O2.d,O3.d,cmI,arI,envOf,putN,↓reduceIte,Nat.reduceLT,Nat.reduceSub,Nat.reduceAdd,Int.reduceAdd,Int.reduceEq,Int.reduceLT,Int.reduceLE,arr_pos,arr_neg,C_impl_listOf_tab p n (by omega),C_impl_over T (upTo p n) n (by omega) ht (by omega) (lset_mem (upTo_lset (Nat.le_refl n)))]
  have e:upTo (ovr T (upTo p n)) n=upTo (fun k=>dB (behind T p n k)) n:=upTo_congr fun k _=>ovr_upTo
  rw [e]
  generalize hm:upTo (fun k=>dB (behind T p n k)) n=more
  have hmore:∀x∈more,0≤x∧x<(n:Int):=by rw [←hm];exact lset_mem (upTo_lset (Nat.le_refl n))
  have hml:more.length≤n:=by rw [←hm];exact upTo_len
  refine mc.lp_for (Bool×List Bool) (fun j s=>[⟨L (L I),T⟩,⟨B,s.1⟩,⟨I,(kk:Int)⟩,⟨I,(i:Int)⟩,⟨I,(more.length:Int)⟩,⟨I,(j:Int)⟩,⟨L B,s.2⟩,⟨L I,more⟩]) (fun j s=>s.1=dB (∃x∈more.take j,p x.toNat=false)∧s.2=tab (fun k=>p k||dB ((k:Int)∈more.take j)) n) more.length 0 (false,tab p n) _ rfl (Nat.zero_le _) ⟨(dB_f (by simp)).symm,tab_congr fun k _=>by rw [dB_f (by simp)];simp⟩ ?_ ?_
  ·rintro j ⟨gr,o⟩ hj ⟨h1,h2⟩
   simp only at h1 h2
   subst h2
   have hx:=hmore _ (getD_mem (d:=0) hj)
   obtain ⟨x,hxe⟩:∃x:Nat,more.getD j 0=x:=⟨(more.getD j 0).toNat,by omega⟩
   have hxn:x<n:=by omega
   have hset:tab (fun k=>if k=x then true else (p k||dB ((k:Int)∈more.take j))) n=tab (fun k=>p k||dB ((k:Int)∈more.take (j+1))) n:=by
    refine tab_congr fun k hk=>?_
    by_cases hkx:k=x
    ·subst hkx;rw [if_pos rfl,dB_t ((mem_take_next hj).2 (.inr hxe.symm))];simp
    ·rw [if_neg hkx];congr 1;refine dB_congr ?_
     rw [mem_take_next hj,hxe]
     exact ⟨.inl,fun h=>h.elim id fun h=>absurd h (by omega)⟩
   have hgr:∀b,(b=true↔gr=true∨(p x||dB ((x:Int)∈more.take j))=false)→b=dB (∃x∈more.take (j+1),p x.toNat=false):=by
    intro b hb
    cases hbb:b with
    | true =>
     rw [eq_comm,dB_iff]
     rcases hb.1 hbb with h3 | h3
     ·rw [h1,dB_iff] at h3
      obtain ⟨y,h4,h5⟩:=h3
      exact ⟨y,(mem_take_next hj).2 (.inl h4),h5⟩
     ·simp only [Bool.or_eq_false_iff] at h3
      exact ⟨(x:Int),(mem_take_next hj).2 (.inr hxe.symm),by simpa using h3.1⟩
    | false =>
     rw [eq_comm]
     refine dB_f ?_
     rintro ⟨y,h4,h5⟩
     have hnb:¬b=true:=by rw [hbb];simp
     rcases (mem_take_next hj).1 h4 with h6 | h6
     ·exact hnb (hb.2 (.inl (by rw [h1,dB_iff];exact ⟨y,h6,h5⟩)))
     ·rw [hxe] at h6
      subst h6
      by_cases h7:(x:Int)∈more.take j
      ·exact hnb (hb.2 (.inl (by rw [h1,dB_iff];exact ⟨_,h7,h5⟩)))
      ·exact hnb (hb.2 (.inr (by rw [dB_f h7];simpa using h5)))
   cases gr with
   | true =>
    simp+contextual(maxSteps:=1000000)(disch:=omega)only[↓Sd,↓So,↓Sk,↓den,↓denA,Sa,Sb,Sc,Se,O1.d,O2.d,O3.d,cmI,arI,envOf,putN,↓reduceIte,Nat.reduceLT,Nat.reduceSub,Nat.reduceAdd,Int.reduceAdd,Int.reduceEq,Int.reduceLT,Int.reduceLE,arr_pos,arr_neg,↓wpJoin,hxe,tab_len,tab_set']
    exact ⟨(_,_),⟨rfl,rfl⟩,hgr true (by simp),hset⟩
   | false =>
    simp+contextual(maxSteps:=1000000)(disch:=omega)only[↓Sd,↓So,↓Sk,↓den,↓denA,Sa,Sb,Sc,Se,O1.d,O2.d,O3.d,cmI,arI,envOf,putN,↓reduceIte,Nat.reduceLT,Nat.reduceSub,Nat.reduceAdd,Int.reduceAdd,Int.reduceEq,Int.reduceLT,Int.reduceLE,arr_pos,arr_neg,↓wpJoin,hxe,tab_len,tab_get hxn,tab_set']
    exact ⟨(_,_),⟨rfl,rfl⟩,hgr _ (by cases (p x||dB ((x:Int)∈more.take j))<;>simp),hset⟩
  ·rintro ⟨gr,o⟩ ⟨h1,h2⟩
   rw [List.take_length] at h1 h2
   simp only at h1 h2
   subst h2
   have hnext:tab (fun k=>p k||dB ((k:Int)∈more)) n=tab (wI (Ed T) n P (i+1)) n:=by
    refine tab_congr fun k hk=>?_
    simp only [wI,stepB,hp]
    congr 1
    rw [←hm,dB_upTo]
    simp [hk];rfl
   simp+contextual(maxSteps:=1000000)(disch:=omega)only[↓Sd,↓So,↓Sk,↓den,↓denA,Sa,Sb,Sc,Se,O1.d,O2.d,O3.d,cmI,arI,envOf,putN,↓reduceIte,Nat.reduceLT,Nat.reduceSub,Nat.reduceAdd,Int.reduceAdd,Int.reduceEq,Int.reduceLT,Int.reduceLE,arr_pos,arr_neg,]
   refine ⟨fun g=>?_,fun g=>hnext⟩
   rw [hnext]
   have hst:∀k,k<n→wI (Ed T) n P (i+1) k=wI (Ed T) n P i k:=by
    intro k hk
    have h3:=congrArg (fun l=>l.getD k false) hnext
    simp only [tab_get hk] at h3
    rw [←h3,hp]
    cases hpk:p k with
    | true=>rfl
    | false =>
     simp only [Bool.false_or]
     refine dB_f fun h4=>?_
     rw [g] at h1
     have h5:=dB_t (p:=∃x∈more,p x.toNat=false) ⟨(k:Int),h4,by simpa using hpk⟩
     rw [←h1] at h5;cases h5
   exact tab_congr fun k hk=>by rw [hst k hk,wI_stay hst kk (by omega) k hk]
 ·rintro o rfl
  simp+contextual(maxSteps:=1000000)(disch:=omega)only[↓Sd,↓So,↓Sk,↓den,↓denA,Sa,Sb,Sc,Se,O1.d,O2.d,O3.d,cmI,arI,envOf,putN,↓reduceIte,Nat.reduceLT,Nat.reduceSub,Nat.reduceAdd,Int.reduceAdd,Int.reduceEq,Int.reduceLT,Int.reduceLE,arr_pos,arr_neg,]
theorem C_spec_l19Back (T:List (List Int)) (l:List Int) (n kk:Nat) (hn:n≤400) (hk:kk≤400) (ht:Tbl T n) (hl:l.length≤1048576) (h:∀x∈l,0≤x∧x<n) (Q:List AV→Prop) :
  mc.C f_spec_l19Back [⟨L (L I),T⟩,⟨L I,l⟩,⟨I,(kk:Int)⟩] Q=Q [⟨L I,upTo (wI (Eb T) n (fun k=>dB ((k:Int)∈l)) kk) n⟩]:=by
 have hT:=ht.1
 refine Mc.Ends.c (mc.ends F_spec_l19Back ?_)
 simp+contextual(maxSteps:=1000000)(disch:=omega)only[↓Sd,↓So,↓Sk,↓den,↓denA,Sa,Sb,Sc,Se,O1.d,O2.d,O3.d,cmI,arI,envOf,putN,↓reduceIte,Nat.reduceLT,Nat.reduceSub,Nat.reduceAdd,Int.reduceAdd,Int.reduceEq,Int.reduceLT,Int.reduceLE,arr_pos,arr_neg,tr_spec_l19Back,hT,C_spec_l4Marks l n (by omega) hl h]
 generalize hP:(fun k:Nat=>dB ((k:Int)∈l))=P
 refine mc.lp_for (List Bool) (fun i o=>[⟨L (L I),T⟩,⟨I,(kk:Int)⟩,⟨I,(i:Int)⟩,⟨L B,o⟩]) (fun i o=>o=tab (wI (Eb T) n P i) n) kk 0 _ _ rfl (Nat.zero_le _) rfl ?_ ?_
 ·rintro i o hi rfl
  generalize hp:wI (Eb T) n P i=p
  simp+contextual(maxSteps:=1000000)(disch:=omega)only[↓Sd,↓So,↓Sk,↓den,↓denA,Sa,Sb,Sc,Se,O1.d,O2.d,O3.d,cmI,arI,envOf,putN,↓reduceIte,Nat.reduceLT,Nat.reduceSub,Nat.reduceAdd,Int.reduceAdd,Int.reduceEq,Int.reduceLT,Int.reduceLE,arr_pos,arr_neg,C_spec_l4Ahead T p n (by omega) ht]
  refine mc.lp_for (List Bool) (fun j o=>[⟨L (L I),T⟩,⟨I,(kk:Int)⟩,⟨I,(i:Int)⟩,⟨I,(j:Int)⟩,⟨L B,o⟩,⟨L B,tab (fun k=>dB (ahead T p n k)) n⟩]) (fun j o=>o=tab (fun k=>if k<j then (p k||dB (ahead T p n k)) else p k) n) n 0 _ _ rfl (Nat.zero_le _) ?_ ?_ ?_
  ·exact tab_congr fun k _=>by simp
  ·rintro j o hj rfl
   simp+contextual(maxSteps:=1000000)(disch:=omega)only[↓Sd,↓So,↓Sk,↓den,↓denA,Sa,Sb,Sc,Se,O1.d,O2.d,O3.d,cmI,arI,envOf,putN,↓reduceIte,Nat.reduceLT,Nat.reduceSub,Nat.reduceAdd,Int.reduceAdd,Int.reduceEq,Int.reduceLT,Int.reduceLE,arr_pos,arr_neg,↓wpJoin,tab_len,tab_get hj,tab_set',Nat.lt_irrefl]
   refine ⟨fun g=>tab_congr fun k hk=>?_,fun g=>tab_congr fun k hk=>?_⟩
   ·by_cases hkj:k=j
    ·subst hkj;rw [if_pos rfl,if_pos (by omega),g];rfl
    ·rw [if_neg hkj]
     by_cases h1:k<j
     ·rw [if_pos h1,if_pos (by omega)]
     ·rw [if_neg h1,if_neg (by omega)]
   ·by_cases hkj:k=j
    ·subst hkj;rw [if_pos rfl,if_pos (by omega)];simp only [Bool.not_eq_true] at g;rw [g];rfl
    ·rw [if_neg hkj]
     by_cases h1:k<j
     ·rw [if_pos h1,if_pos (by omega)]
     ·rw [if_neg h1,if_neg (by omega)]
  ·rintro o rfl
   simp+contextual(maxSteps:=1000000)(disch:=omega)only[↓Sd,↓So,↓Sk,↓den,↓denA,Sa,Sb,Sc,Se,O1.d,O2.d,O3.d,cmI,arI,envOf,putN,↓reduceIte,Nat.reduceLT,Nat.reduceSub,Nat.reduceAdd,Int.reduceAdd,Int.reduceEq,Int.reduceLT,Int.reduceLE,arr_pos,arr_neg,tab_len]
   refine tab_congr fun k hk=>?_
   rw [if_pos hk]
   simp only [wI,stepB,hp]
   rfl
 ·rintro o rfl
  simp+contextual(maxSteps:=1000000)(disch:=omega)only[↓Sd,↓So,↓Sk,↓den,↓denA,Sa,Sb,Sc,Se,O1.d,O2.d,O3.d,cmI,arI,envOf,putN,↓reduceIte,Nat.reduceLT,Nat.reduceSub,Nat.reduceAdd,Int.reduceAdd,Int.reduceEq,Int.reduceLT,Int.reduceLE,arr_pos,arr_neg,C_spec_l4List_tab _ n (by omega:n≤1048576)]
theorem Ed_pasts {T:List (List Int)} {n a k:Nat} (ha:a<n) (hk:k<n):Ed (pasts T n) a k↔Eb T a k:=by
 unfold Ed Eb
 rw [pasts_get ha,pastL_mem]
 constructor
 ·rintro ⟨b,h1,h2,h3⟩
  have:b=k:=by omega
  subst this;exact h3
 ·exact fun h=>⟨k,hk,rfl,h⟩
theorem getD_set_ne {α:Type} {l:List α} {i j:Nat} {x d:α} (h:i≠j):(l.set i x).getD j d=l.getD j d:=by
 simp [List.getD_eq_getElem?_getD,List.getElem?_set,h]
def Same {α:Type} (l s:List α) (d:α) (i:Nat):Prop:=s.length=l.length∧∀j,i≤j→s.getD j d=l.getD j d
theorem Same.refl {α:Type} {l:List α} {d:α} {i:Nat}:Same l l d i:=⟨rfl,fun _ _=>rfl⟩
theorem Same.set {α:Type} {l s:List α} {d x:α} {i:Nat} (h:Same l s d i):Same l (s.set i x) d (i+1) :=
 ⟨by rw [List.length_set];exact h.1,fun j hj=>by rw [getD_set_ne (by omega)];exact h.2 j (by omega)⟩
theorem iD {k:IntKind} {a b:Int} (h:a=b):@Eq (Ty.int k).D a b:=h
theorem upTo_few {p:Nat→Bool} {s:Sy} (h:valid s):(upTo p (szn s.1)).length≤400:=by
 have h1:=@upTo_len p (szn s.1)
 have h2:=szn_eq h
 omega
theorem shr_nat {n k:Nat} (hk:k≤60):shI false .i64 (n:Int) (k:Int)=((n / 2 ^ k:Nat):Int):=by
 have h:min (k:Int).toNat IntKind.i64.bits=k:=by simp [IntKind.bits];omega
 unfold shI
 rw [h]
 simp only [Bool.false_eq_true,if_false]
 rw [Int.fdiv_eq_ediv_of_nonneg _ (Int.le_of_lt (Int.pow_pos (by omega)))]
 simp
theorem and_one {n:Nat} (h:n<9223372036854775808):IntKind.i64.wrap ((BitVec.ofInt IntKind.i64.bits (n:Int) &&& BitVec.ofInt IntKind.i64.bits 1).toNat:Int)=((n % 2:Nat):Int):=by
 have e:(BitVec.ofInt 64 (n:Int) &&& BitVec.ofInt 64 1).toNat=n % 2:=by
  rw [BitVec.toNat_and,BitVec.toNat_ofInt,BitVec.toNat_ofInt]
  rw [show ((n:Int) % ((2 ^ 64:Nat):Int)).toNat=n by omega,show ((1:Int) % ((2 ^ 64:Nat):Int)).toNat=1 by decide]
  exact Nat.and_one_is_mod n
 have e2:(BitVec.ofInt IntKind.i64.bits (n:Int) &&& BitVec.ofInt IntKind.i64.bits 1).toNat=n % 2:=e
 rw [e2]
 exact wrap_id (by omega) (by omega)
def vb (n w : Nat) : List Int := tab (fun i => ((n / 2 ^ (w - 1 - i) % 2 : Nat) : Int)) w
theorem vb_len {n w:Nat}:(vb n w).length=w:=tab_len
theorem vb_bit {n w:Nat}:∀x∈vb n w,x=0∨x=1:=by
 intro x hx
 simp only [vb,tab,List.mem_map,List.mem_range] at hx
 obtain ⟨i,_,rfl⟩:=hx
 omega
theorem C_impl_valueBits (n w:Nat) (hn:n≤1000) (hw:w≤12) (Q:List AV→Prop):mc.C f_impl_valueBits [⟨I,(n:Int)⟩,⟨I,(w:Int)⟩] Q=Q [⟨L I,vb n w⟩]:=by
 refine Mc.Ends.c (mc.ends F_impl_valueBits ?_)
 simp+contextual(maxSteps:=1000000)(disch:=omega)only[↓Sd,↓So,↓Sk,↓den,↓denA,Sa,Sb,Sc,Se,O1.d,O2.d,O3.d,cmI,arI,envOf,putN,↓reduceIte,Nat.reduceLT,Nat.reduceSub,Nat.reduceAdd,Int.reduceAdd,Int.reduceEq,Int.reduceLT,Int.reduceLE,arr_pos,arr_neg,tr_impl_valueBits,List.length_replicate]
 refine mc.lp_for (List Int) (fun i o => [⟨I, (n : Int)⟩, ⟨I, (w : Int)⟩, ⟨I, (w : Int)⟩, ⟨I, (i : Int)⟩, ⟨L I, o⟩]) (fun i o => o = tab (fun i => ((n / 2 ^ (w - 1 - i) % 2 : Nat) : Int)) i ++ List.replicate (w - i) 0) w 0 (List.replicate w 0) _ rfl (Nat.zero_le _) (by simp [tab]) ?_ ?_
 ·rintro i o hi rfl
  have e : (w : Int) - 1 - (i : Int) = ((w - 1 - i : Nat) : Int) := by omega
  have hd : n / 2 ^ (w - 1 - i) ≤ n := Nat.div_le_self _ _
  simp (contextual := true) (maxSteps := 1000000) (disch := omega) only [↓Sd, ↓So, ↓Sk, ↓den, ↓denA, Sa, Sb, Sc, Se, O1.d, O2.d, O3.d, cmI, arI, envOf, putN, ↓reduceIte, Nat.reduceLT, Nat.reduceSub, Nat.reduceAdd, Int.reduceAdd, Int.reduceEq, Int.reduceLT, Int.reduceLE, arr_pos, arr_neg, e, shr_nat (n := n) (show w - 1 - i ≤ 60 by omega), and_one (show n / 2 ^ (w - 1 - i) < 9223372036854775808 by omega), tab_len, List.length_replicate]
  exact tab_set hi rfl
 ·rintro o rfl
  simp+contextual(maxSteps:=1000000)(disch:=omega)only[↓Sd,↓So,↓Sk,↓den,↓denA,Sa,Sb,Sc,Se,O1.d,O2.d,O3.d,cmI,arI,envOf,putN,↓reduceIte,Nat.reduceLT,Nat.reduceSub,Nat.reduceAdd,Int.reduceAdd,Int.reduceEq,Int.reduceLT,Int.reduceLE,arr_pos,arr_neg,]
  simp [vb]
theorem C_spec_l6Value (n w:Nat) (hn:n≤1000) (hw:w≤12) (Q:List AV→Prop):mc.C f_spec_l6Value [⟨I,(n:Int)⟩,⟨I,(w:Int)⟩] Q=Q [⟨L I,vb n w⟩]:=by
 refine Mc.Ends.c (mc.ends F_spec_l6Value ?_)
 simp+contextual(maxSteps:=1000000)(disch:=omega)only[↓Sd,↓So,↓Sk,↓den,↓denA,Sa,Sb,Sc,Se,O1.d,O2.d,O3.d,cmI,arI,envOf,putN,↓reduceIte,Nat.reduceLT,Nat.reduceSub,Nat.reduceAdd,Int.reduceAdd,Int.reduceEq,Int.reduceLT,Int.reduceLE,arr_pos,arr_neg,tr_spec_l6Value]
 refine mc.lp_for (List Int) (fun i o => [⟨I, (n : Int)⟩, ⟨I, (w : Int) - 1 - (i : Int)⟩, ⟨L I, o⟩]) (fun i o => o = tab (fun i => ((n / 2 ^ (w - 1 - i) % 2 : Nat) : Int)) i) w 0 [] _ (by simp) (Nat.zero_le _) rfl ?_ ?_
 ·rintro i o hi rfl
  have e : (w : Int) - 1 - (i : Int) = ((w - 1 - i : Nat) : Int) := by omega
  have e2 : (w : Int) - 1 - ((i : Int) + 1) = ((w - 1 - i : Nat) : Int) - 1 := by omega
  simp (contextual := true) (maxSteps := 1000000) (disch := omega) only [↓Sd, ↓So, ↓Sk, ↓den, ↓denA, Sa, Sb, Sc, Se, O1.d, O2.d, O3.d, cmI, arI, envOf, putN, ↓reduceIte, Nat.reduceLT, Nat.reduceSub, Nat.reduceAdd, Int.reduceAdd, Int.reduceEq, Int.reduceLT, Int.reduceLE, arr_pos, arr_neg, e, e2, shr_nat (n := n) (show w - 1 - i ≤ 60 by omega), tab_len]
  exact tab_next
 ·rintro o rfl
  have e : (w : Int) - 1 - (w : Int) = -1 := by omega
  simp+contextual(maxSteps:=1000000)(disch:=omega)only[↓Sd,↓So,↓Sk,↓den,↓denA,Sa,Sb,Sc,Se,O1.d,O2.d,O3.d,cmI,arI,envOf,putN,↓reduceIte,Nat.reduceLT,Nat.reduceSub,Nat.reduceAdd,Int.reduceAdd,Int.reduceEq,Int.reduceLT,Int.reduceLE,arr_pos,arr_neg,e]
  rfl
def sbN (l:List Vr) (st:List Int):Nat→List Int
 | 0=>[]
 | i+1=>sbN l st i++vb (st.getD i 0 - (l.getD i (0,0,0)).1).toNat (bw l i).toNat
def sb (s:Sy) (st:List Int):List Int:=sbN s.1 st s.1.length
theorem bw_bd (l:List Vr) (i:Nat):0≤bw l i∧bw l i≤5:=bn_bd _
theorem sbN_len {l:List Vr} {st:List Int}:∀{i:Nat},((sbN l st i).length:Int)=sumN (bw l) i
 | 0=>rfl
 | i+1=>by
  have h:=bw_bd l i
  have ih:=@sbN_len l st i
  simp only [sbN,sumN,List.length_append,vb_len]
  omega
theorem sb_len {s:Sy} {st:List Int}:((sb s st).length:Int)=bc s.1:=sbN_len
theorem bc_bd {s:Sy} (h:valid s):0≤bc s.1∧bc s.1≤25:=by
 have h1:=sumN_bd (f:=bw s.1) (bw_bd s.1) s.1.length
 have h2:=h.1.2
 unfold bc
 omega
theorem sbN_bit {l:List Vr} {st:List Int}:∀{i:Nat},∀x∈sbN l st i,x=0∨x=1
 | 0,x,h=>by simp [sbN] at h
 | i+1,x,h=>by
  simp only [sbN,List.mem_append] at h
  exact h.elim (sbN_bit x) (vb_bit x)
theorem off_bd {s:Sy} {st:List Int} (h:valid s) (hst:inR s.1 st) {i:Nat} (hi:i<s.1.length):∃m:Nat,st.getD i 0 - (s.1.getD i (0,0,0)).1=m∧m<20∧(-10000≤st.getD i 0∧st.getD i 0≤10000) ∧ -10000≤(s.1.getD i (0,0,0)).1∧(s.1.getD i (0,0,0)).1≤10000:=by
 have h1:=hst.2 i hi
 have h2:=h.2.2.1 _ (getD_mem (d:=(0,0,0)) hi)
 unfold vOk at h2
 exact ⟨(st.getD i 0 - (s.1.getD i (0,0,0)).1).toNat,by omega,by omega,by omega,by omega,by omega⟩
theorem C_impl_stateBits (s:Sy) (st:List Int) (h:valid s) (hst:inR s.1 st) (Q:List AV→Prop):mc.C f_impl_stateBits [⟨L V3,s.1⟩,⟨L TR,s.2⟩,⟨L I,st⟩] Q=Q [⟨L I,sb s st⟩]:=by
 have h5:=h.1.2
 have hl:=hst.1
 refine Mc.Ends.c (mc.ends F_impl_stateBits ?_)
 simp+contextual(maxSteps:=1000000)(disch:=omega)only[↓Sd,↓So,↓Sk,↓den,↓denA,Sa,Sb,Sc,Se,O1.d,O2.d,O3.d,cmI,arI,envOf,putN,↓reduceIte,Nat.reduceLT,Nat.reduceSub,Nat.reduceAdd,Int.reduceAdd,Int.reduceEq,Int.reduceLT,Int.reduceLE,arr_pos,arr_neg,tr_impl_stateBits,C_impl_bitsOf s h,tab_len]
 refine mc.lp_for (List Int) (fun i o=>[⟨L I,st⟩,⟨I,(s.1.length:Int)⟩,⟨I,(i:Int)⟩,⟨L V3,s.1⟩,⟨L TR,s.2⟩,⟨L I,o⟩,⟨L I,tab (bw s.1) s.1.length⟩]) (fun i o=>o=sbN s.1 st i) s.1.length 0 [] _ rfl (Nat.zero_le _) rfl ?_ ?_
 ·rintro i o hi rfl
  obtain ⟨m,hm,hm2,hm3,hm4⟩:=off_bd h hst hi
  have hb:=bw_bd s.1 i
  obtain ⟨w,hw⟩:∃w:Nat,bw s.1 i=w:=⟨(bw s.1 i).toNat,by omega⟩
  have hlen:=@sbN_len s.1 st i
  have hsum:=sumN_bd (f:=bw s.1) (bw_bd s.1) i
  have e:sbN s.1 st (i+1)=sbN s.1 st i++vb m w:=by simp only [sbN,hm,hw,Int.toNat_natCast]
  simp+contextual(maxSteps:=1000000)(disch:=omega)only[↓Sd,↓So,↓Sk,↓den,↓denA,Sa,Sb,Sc,Se,O1.d,O2.d,O3.d,cmI,arI,envOf,putN,↓reduceIte,Nat.reduceLT,Nat.reduceSub,Nat.reduceAdd,Int.reduceAdd,Int.reduceEq,Int.reduceLT,Int.reduceLE,arr_pos,arr_neg,tab_len,tab_get hi,hm,hw,C_impl_valueBits m w (by omega) (by omega),vb_len]
  exact e.symm
 ·rintro o rfl
  have hlen:=@sb_len s st
  have hb:=bc_bd h
  simp+contextual(maxSteps:=1000000)(disch:=omega)only[↓Sd,↓So,↓Sk,↓den,↓denA,Sa,Sb,Sc,Se,O1.d,O2.d,O3.d,cmI,arI,envOf,putN,↓reduceIte,Nat.reduceLT,Nat.reduceSub,Nat.reduceAdd,Int.reduceAdd,Int.reduceEq,Int.reduceLT,Int.reduceLE,arr_pos,arr_neg,C_impl_clone_int (sb s st) (by omega)]
  have e:sbN s.1 st s.1.length=sb s st:=rfl
  simp+contextual(maxSteps:=1000000)(disch:=omega)only[↓Sd,↓So,↓Sk,↓den,↓denA,Sa,Sb,Sc,Se,O1.d,O2.d,O3.d,cmI,arI,envOf,putN,↓reduceIte,Nat.reduceLT,Nat.reduceSub,Nat.reduceAdd,Int.reduceAdd,Int.reduceEq,Int.reduceLT,Int.reduceLE,arr_pos,arr_neg,e,C_impl_clone_int (sb s st) (by omega)]
theorem C_spec_l6State (s:Sy) (st:List Int) (h:valid s) (hst:inR s.1 st) (Q:List AV→Prop):mc.C f_spec_l6State [⟨L V3,s.1⟩,⟨L TR,s.2⟩,⟨L I,st⟩] Q=Q [⟨L I,sb s st⟩]:=by
 have h5:=h.1.2
 have hl:=hst.1
 refine Mc.Ends.c (mc.ends F_spec_l6State ?_)
 simp+contextual(maxSteps:=1000000)(disch:=omega)only[↓Sd,↓So,↓Sk,↓den,↓denA,Sa,Sb,Sc,Se,O1.d,O2.d,O3.d,cmI,arI,envOf,putN,↓reduceIte,Nat.reduceLT,Nat.reduceSub,Nat.reduceAdd,Int.reduceAdd,Int.reduceEq,Int.reduceLT,Int.reduceLE,arr_pos,arr_neg,tr_spec_l6State,C_spec_l6Widths s h]
 refine mc.lp_for (List Int) (fun i o=>[⟨L I,st⟩,⟨I,(i:Int)⟩,⟨L V3,s.1⟩,⟨L TR,s.2⟩,⟨L I,o⟩,⟨L I,tab (bw s.1) s.1.length⟩]) (fun i o=>o=sbN s.1 st i) s.1.length 0 [] _ rfl (Nat.zero_le _) rfl ?_ ?_
 ·rintro i o hi rfl
  obtain ⟨m,hm,hm2,hm3,hm4⟩:=off_bd h hst hi
  have hb:=bw_bd s.1 i
  obtain ⟨w,hw⟩:∃w:Nat,bw s.1 i=w:=⟨(bw s.1 i).toNat,by omega⟩
  have hlen:=@sbN_len s.1 st i
  have hsum:=sumN_bd (f:=bw s.1) (bw_bd s.1) i
  have e:sbN s.1 st (i+1)=sbN s.1 st i++vb m w:=by simp only [sbN,hm,hw,Int.toNat_natCast]
  simp+contextual(maxSteps:=1000000)(disch:=omega)only[↓Sd,↓So,↓Sk,↓den,↓denA,Sa,Sb,Sc,Se,O1.d,O2.d,O3.d,cmI,arI,envOf,putN,↓reduceIte,Nat.reduceLT,Nat.reduceSub,Nat.reduceAdd,Int.reduceAdd,Int.reduceEq,Int.reduceLT,Int.reduceLE,arr_pos,arr_neg,tab_len,tab_get hi,hm,hw,C_spec_l6Value m w (by omega) (by omega)]
  refine mc.lp_for (List Int) (fun j o=>[⟨L I,st⟩,⟨I,(i:Int)⟩,⟨I,(j:Int)⟩,⟨L V3,s.1⟩,⟨L TR,s.2⟩,⟨L I,o⟩,⟨L I,tab (bw s.1) s.1.length⟩,⟨L I,vb m w⟩]) (fun j o=>o=sbN s.1 st i++(vb m w).take j) w 0 _ _ rfl (Nat.zero_le _) (by simp) ?_ ?_
  ·rintro j o hj rfl
   have hj':j<(vb m w).length:=by rw [vb_len];exact hj
   have hol:(sbN s.1 st i).length+((vb m w).take j).length≤1000:=by rw [List.length_take,vb_len];omega
   simp+contextual(maxSteps:=1000000)(disch:=omega)only[↓Sd,↓So,↓Sk,↓den,↓denA,Sa,Sb,Sc,Se,O1.d,O2.d,O3.d,cmI,arI,envOf,putN,↓reduceIte,Nat.reduceLT,Nat.reduceSub,Nat.reduceAdd,Int.reduceAdd,Int.reduceEq,Int.reduceLT,Int.reduceLE,arr_pos,arr_neg,vb_len,List.length_append]
   rw [List.append_assoc,take_next hj']
  ·rintro o rfl
   simp+contextual(maxSteps:=1000000)(disch:=omega)only[↓Sd,↓So,↓Sk,↓den,↓denA,Sa,Sb,Sc,Se,O1.d,O2.d,O3.d,cmI,arI,envOf,putN,↓reduceIte,Nat.reduceLT,Nat.reduceSub,Nat.reduceAdd,Int.reduceAdd,Int.reduceEq,Int.reduceLT,Int.reduceLE,arr_pos,arr_neg,vb_len]
   rw [e,List.take_of_length_le (by rw [vb_len];exact Nat.le_refl _)]
 ·rintro o rfl
  simp+contextual(maxSteps:=1000000)(disch:=omega)only[↓Sd,↓So,↓Sk,↓den,↓denA,Sa,Sb,Sc,Se,O1.d,O2.d,O3.d,cmI,arI,envOf,putN,↓reduceIte,Nat.reduceLT,Nat.reduceSub,Nat.reduceAdd,Int.reduceAdd,Int.reduceEq,Int.reduceLT,Int.reduceLE,arr_pos,arr_neg,]
  rfl
def cHas (c b:List Int):Prop:=∀i,i<c.length→c.getD i 0=2∨c.getD i 0=b.getD i 0
theorem C_impl_cubeHas (c b:List Int) (hc:c.length≤1048576) (h:c.length=b.length) (Q:List AV→Prop):mc.C f_impl_cubeHas [⟨L I,c⟩,⟨L I,b⟩] Q=Q [⟨B,dB (cHas c b)⟩]:=by
 refine Mc.Ends.c (mc.ends F_impl_cubeHas ?_)
 generalize hK:dB (cHas c b)=K
 simp+contextual(maxSteps:=1000000)(disch:=omega)only[↓Sd,↓So,↓Sk,↓den,↓denA,Sa,Sb,Sc,Se,O1.d,O2.d,O3.d,cmI,arI,envOf,putN,↓reduceIte,Nat.reduceLT,Nat.reduceSub,Nat.reduceAdd,Int.reduceAdd,Int.reduceEq,Int.reduceLT,Int.reduceLE,arr_pos,arr_neg,tr_impl_cubeHas]
 refine lp_all (fun i=>[⟨L I,b⟩,⟨L I,c⟩,⟨I,(c.length:Int)⟩,⟨I,(i:Int)⟩]) (fun i=>c.getD i 0=2∨c.getD i 0=b.getD i 0) c.length _ rfl ?_ ?_
 ·intro i hi
  have hno:¬(c.getD i 0=2∨c.getD i 0=b.getD i 0)→false=K:=fun g=>by rw [←hK,dB_f];exact fun g1=>g (g1 i hi)
  simp+contextual(maxSteps:=1000000)(disch:=omega)only[↓Sd,↓So,↓Sk,↓den,↓denA,Sa,Sb,Sc,Se,O1.d,O2.d,O3.d,cmI,arI,envOf,putN,↓reduceIte,Nat.reduceLT,Nat.reduceSub,Nat.reduceAdd,Int.reduceAdd,Int.reduceEq,Int.reduceLT,Int.reduceLE,arr_pos,arr_neg,↓wpJoin,]
  grind
 ·intro g
  simp+contextual(maxSteps:=1000000)(disch:=omega)only[↓Sd,↓So,↓Sk,↓den,↓denA,Sa,Sb,Sc,Se,O1.d,O2.d,O3.d,cmI,arI,envOf,putN,↓reduceIte,Nat.reduceLT,Nat.reduceSub,Nat.reduceAdd,Int.reduceAdd,Int.reduceEq,Int.reduceLT,Int.reduceLE,arr_pos,arr_neg,]
  rw [←hK,dB_t];exact g
theorem C_spec_l16Has (c b:List Int) (hc:c.length≤1048576) (h:c.length=b.length) (Q:List AV→Prop):mc.C f_spec_l16Has [⟨L I,c⟩,⟨L I,b⟩] Q=Q [⟨B,dB (cHas c b)⟩]:=by
 refine Mc.Ends.c (mc.ends F_spec_l16Has ?_)
 generalize hK:dB (cHas c b)=K
 simp+contextual(maxSteps:=1000000)(disch:=omega)only[↓Sd,↓So,↓Sk,↓den,↓denA,Sa,Sb,Sc,Se,O1.d,O2.d,O3.d,cmI,arI,envOf,putN,↓reduceIte,Nat.reduceLT,Nat.reduceSub,Nat.reduceAdd,Int.reduceAdd,Int.reduceEq,Int.reduceLT,Int.reduceLE,arr_pos,arr_neg,tr_spec_l16Has]
 refine lp_all (fun i=>[⟨L I,c⟩,⟨L I,b⟩,⟨I,(i:Int)⟩]) (fun i=>c.getD i 0=2∨c.getD i 0=b.getD i 0) c.length _ rfl ?_ ?_
 ·intro i hi
  have hno:¬(c.getD i 0=2∨c.getD i 0=b.getD i 0)→false=K:=fun g=>by rw [←hK,dB_f];exact fun g1=>g (g1 i hi)
  simp+contextual(maxSteps:=1000000)(disch:=omega)only[↓Sd,↓So,↓Sk,↓den,↓denA,Sa,Sb,Sc,Se,O1.d,O2.d,O3.d,cmI,arI,envOf,putN,↓reduceIte,Nat.reduceLT,Nat.reduceSub,Nat.reduceAdd,Int.reduceAdd,Int.reduceEq,Int.reduceLT,Int.reduceLE,arr_pos,arr_neg,↓wpJoin,]
  grind
 ·intro g
  simp+contextual(maxSteps:=1000000)(disch:=omega)only[↓Sd,↓So,↓Sk,↓den,↓denA,Sa,Sb,Sc,Se,O1.d,O2.d,O3.d,cmI,arI,envOf,putN,↓reduceIte,Nat.reduceLT,Nat.reduceSub,Nat.reduceAdd,Int.reduceAdd,Int.reduceEq,Int.reduceLT,Int.reduceLE,arr_pos,arr_neg,]
  rw [←hK,dB_t];exact g
noncomputable def inC (s:Sy) (c:List Int) (n:Nat):Bool:=dB (cHas c (sb s (stN s n)))
theorem cube_len {s:Sy} {c:List Int} (hc:(c.length:Int)=bc s.1) {st:List Int}:c.length=(sb s st).length:=by have:=@sb_len s st;omega
theorem C_impl_cubeStates (s:Sy) (c:List Int) (h:valid s) (hc:(c.length:Int)=bc s.1) (Q:List AV→Prop):mc.C f_impl_cubeStates [⟨L V3,s.1⟩,⟨L TR,s.2⟩,⟨L I,c⟩] Q=Q [⟨L I,upTo (inC s c) (szn s.1)⟩]:=by
 have hz:=szn_eq h
 have hb:=bc_bd h
 have h5:=h.1.2
 have hv:=h.2.2.1
 refine Mc.Ends.c (mc.ends F_impl_cubeStates ?_)
 simp+contextual(maxSteps:=1000000)(disch:=omega)only[↓Sd,↓So,↓Sk,↓den,↓denA,Sa,Sb,Sc,Se,O1.d,O2.d,O3.d,cmI,arI,envOf,putN,↓reduceIte,Nat.reduceLT,Nat.reduceSub,Nat.reduceAdd,Int.reduceAdd,Int.reduceEq,Int.reduceLT,Int.reduceLE,arr_pos,arr_neg,tr_impl_cubeStates,C_impl_size s.1 h5 hv,←hz.1,List.length_replicate]
 refine mc.lp_for (List Bool) (fun i o=>[⟨L I,c⟩,⟨I,(szn s.1:Int)⟩,⟨I,(i:Int)⟩,⟨L V3,s.1⟩,⟨L TR,s.2⟩,⟨L B,o⟩]) (fun i o=>o=tab (inC s c) i++List.replicate (szn s.1 - i) false) (szn s.1) 0 (List.replicate (szn s.1) false) _ rfl (Nat.zero_le _) rfl ?_ ?_
 ·rintro i o hi rfl
  have hin:=stN_in h hi
  have hst:stAt s.1 (i:Int)=stN s i:=rfl
  simp+contextual(maxSteps:=1000000)(disch:=omega)only[↓Sd,↓So,↓Sk,↓den,↓denA,Sa,Sb,Sc,Se,O1.d,O2.d,O3.d,cmI,arI,envOf,putN,↓reduceIte,Nat.reduceLT,Nat.reduceSub,Nat.reduceAdd,Int.reduceAdd,Int.reduceEq,Int.reduceLT,Int.reduceLE,arr_pos,arr_neg,C_impl_stateAt s i h5 hv (by omega),hst,C_impl_stateBits s (stN s i) h hin,C_impl_cubeHas c (sb s (stN s i)) (by omega) (cube_len hc),tab_len,List.length_replicate]
  exact tab_set hi rfl
 ·rintro o rfl
  rw [Nat.sub_self,List.replicate_zero,List.append_nil]
  simp+contextual(maxSteps:=1000000)(disch:=omega)only[↓Sd,↓So,↓Sk,↓den,↓denA,Sa,Sb,Sc,Se,O1.d,O2.d,O3.d,cmI,arI,envOf,putN,↓reduceIte,Nat.reduceLT,Nat.reduceSub,Nat.reduceAdd,Int.reduceAdd,Int.reduceEq,Int.reduceLT,Int.reduceLE,arr_pos,arr_neg,C_impl_listOf_tab (inC s c) (szn s.1) (by omega)]
theorem C_spec_l16States (s:Sy) (c:List Int) (hs:FewSy s) (h:valid s) (hc:(c.length:Int)=bc s.1) (Q:List AV→Prop):mc.C f_spec_l16States [⟨L V3,s.1⟩,⟨L TR,s.2⟩,⟨L I,c⟩] Q=Q [⟨L I,upTo (inC s c) (szn s.1)⟩]:=by
 have hz:=szn_eq h
 have hb:=bc_bd h
 refine Mc.Ends.c (mc.ends F_spec_l16States ?_)
 simp+contextual(maxSteps:=1000000)(disch:=omega)only[↓Sd,↓So,↓Sk,↓den,↓denA,Sa,Sb,Sc,Se,O1.d,O2.d,O3.d,cmI,arI,envOf,putN,↓reduceIte,Nat.reduceLT,Nat.reduceSub,Nat.reduceAdd,Int.reduceAdd,Int.reduceEq,Int.reduceLT,Int.reduceLE,arr_pos,arr_neg,tr_spec_l16States]
 refine mc.lp_for (List Int) (fun i o=>[⟨L I,c⟩,⟨I,(i:Int)⟩,⟨L V3,s.1⟩,⟨L TR,s.2⟩,⟨L I,o⟩]) (fun i o=>o=upTo (inC s c) i) (szn s.1) 0 [] _ rfl (Nat.zero_le _) rfl ?_ ?_
 ·rintro i o hi rfl
  have hin:=stN_in h hi
  have hst:stAt s.1 (i:Int)=stN s i:=rfl
  have hlen:=@upTo_len (inC s c) i
  simp+contextual(maxSteps:=1000000)(disch:=omega)only[↓Sd,↓So,↓Sk,↓den,↓denA,Sa,Sb,Sc,Se,O1.d,O2.d,O3.d,cmI,arI,envOf,putN,↓reduceIte,Nat.reduceLT,Nat.reduceSub,Nat.reduceAdd,Int.reduceAdd,Int.reduceEq,Int.reduceLT,Int.reduceLE,arr_pos,arr_neg,↓wpJoin,C_spec_SizeOf s hs,h,C_spec_l4State s i hs h (by omega),hst,C_spec_l6State s (stN s i) h hin,C_spec_l16Has c (sb s (stN s i)) (by omega) (cube_len hc)]
  exact ⟨fun g=>(upTo_s g).symm,fun g=>(upTo_n g).symm⟩
 ·rintro o rfl
  simp+contextual(maxSteps:=1000000)(disch:=omega)only[↓Sd,↓So,↓Sk,↓den,↓denA,Sa,Sb,Sc,Se,O1.d,O2.d,O3.d,cmI,arI,envOf,putN,↓reduceIte,Nat.reduceLT,Nat.reduceSub,Nat.reduceAdd,Int.reduceAdd,Int.reduceEq,Int.reduceLT,Int.reduceLE,arr_pos,arr_neg,C_spec_SizeOf s hs,h]
theorem first_n {s:Sy} (h:valid s):∃m:Nat,num s.1 (fst0 s.1)=m∧m<szn s.1:=by
 have h1:=num_bd h.2.2.1 (fst0_in h.2.2.1)
 have h2:=szn_eq h
 exact ⟨(num s.1 (fst0 s.1)).toNat,by omega,by omega⟩
theorem upTo_marks {p:Nat→Bool} {n:Nat}:tab (fun k=>dB ((k:Int)∈upTo p n)) n=tab p n:=tab_congr fun k hk=>by rw [dB_upTo];simp [hk]
theorem C_spec_l4Mix0 (a b:List Int) (N:Nat) (hN:N=400) (ha:lset a 400) (hb:lset b 400) (Q:List AV→Prop):mc.C f_spec_l4Mix [⟨L I,a⟩,⟨L I,b⟩,⟨I,0⟩] Q=Q [⟨L I,upTo (fun k=>dB ((k:Int)∈a)&&dB ((k:Int)∈b)) N⟩]:=by
 have la:=lset_len ha (by omega)
 have lb:=lset_len hb (by omega)
 have ma:=lset_mem ha
 have mb:=lset_mem hb
 refine Mc.Ends.c (mc.ends F_spec_l4Mix ?_)
 simp+contextual(maxSteps:=1000000)(disch:=omega)only[↓Sd,↓So,↓Sk,↓den,↓denA,Sa,Sb,Sc,Se,O1.d,O2.d,O3.d,cmI,arI,envOf,putN,↓reduceIte,Nat.reduceLT,Nat.reduceSub,Nat.reduceAdd,Int.reduceAdd,Int.reduceEq,Int.reduceLT,Int.reduceLE,arr_pos,arr_neg,tr_spec_l4Mix,C_spec_l4Set a (by omega),C_spec_l4Set b (by omega),ha,hb,C_spec_l4Marks_i a 400 N (by omega) (by omega) (by omega) (fun x hx=>by have:=ma x hx;omega),C_spec_l4Marks_i b 400 N (by omega) (by omega) (by omega) (fun x hx=>by have:=mb x hx;omega)]
 refine mc.lp_for (List Int) (fun i o=>[⟨I,0⟩,⟨I,(i:Int)⟩,⟨L I,o⟩,⟨L B,tab (fun k=>dB ((k:Int)∈a)) N⟩,⟨L B,tab (fun k=>dB ((k:Int)∈b)) N⟩]) (fun i o=>o=upTo (fun k=>dB ((k:Int)∈a)&&dB ((k:Int)∈b)) i) N 0 [] _ rfl (Nat.zero_le _) rfl ?_ ?_
 ·rintro i o hi rfl
  have hl:=@upTo_len (fun k=>dB ((k:Int)∈a)&&dB ((k:Int)∈b)) i
  simp+contextual(maxSteps:=1000000)(disch:=omega)only[↓Sd,↓So,↓Sk,↓den,↓denA,Sa,Sb,Sc,Se,O1.d,O2.d,O3.d,cmI,arI,envOf,putN,↓reduceIte,Nat.reduceLT,Nat.reduceSub,Nat.reduceAdd,Int.reduceAdd,Int.reduceEq,Int.reduceLT,Int.reduceLE,arr_pos,arr_neg,]
  refine mc.wp_join (fun us=>us=[⟨I,0⟩,⟨I,(i:Int)⟩,⟨L I,upTo (fun k=>dB ((k:Int)∈a)&&dB ((k:Int)∈b)) (i+1)⟩,⟨L B,tab (fun k=>dB ((k:Int)∈a)) N⟩,⟨L B,tab (fun k=>dB ((k:Int)∈b)) N⟩]) ?_ (by rintro _ rfl;simp+contextual(maxSteps:=1000000)(disch:=omega)only[↓Sd,↓So,↓Sk,↓den,↓denA,Sa,Sb,Sc,Se,O1.d,O2.d,O3.d,cmI,arI,envOf,putN,↓reduceIte,Nat.reduceLT,Nat.reduceSub,Nat.reduceAdd,Int.reduceAdd,Int.reduceEq,Int.reduceLT,Int.reduceLE,arr_pos,arr_neg,])
  simp only [upTo]
  simp+contextual(maxSteps:=1000000)(disch:=omega)only[↓Sd,↓So,↓Sk,↓den,↓denA,Sa,Sb,Sc,Se,O1.d,O2.d,O3.d,cmI,arI,envOf,putN,↓reduceIte,Nat.reduceLT,Nat.reduceSub,Nat.reduceAdd,Int.reduceAdd,Int.reduceEq,Int.reduceLT,Int.reduceLE,arr_pos,arr_neg,tab_len,tab_get hi,Bool.and_eq_true,Bool.true_and,Bool.and_true,Bool.and_false,Bool.false_and]
 ·rintro o rfl
  simp+contextual(maxSteps:=1000000)(disch:=omega)only[↓Sd,↓So,↓Sk,↓den,↓denA,Sa,Sb,Sc,Se,O1.d,O2.d,O3.d,cmI,arI,envOf,putN,↓reduceIte,Nat.reduceLT,Nat.reduceSub,Nat.reduceAdd,Int.reduceAdd,Int.reduceEq,Int.reduceLT,Int.reduceLE,arr_pos,arr_neg,]
theorem C_spec_SetBoth (a b:List Int) (ha:lset a 400) (hb:lset b 400) (Q:List AV→Prop):mc.C f_spec_SetBoth [⟨L I,a⟩,⟨L I,b⟩] Q=Q [⟨L I,upTo (fun k=>dB ((k:Int)∈a)&&dB ((k:Int)∈b)) 400⟩]:=by
 refine Mc.Ends.c (mc.ends F_spec_SetBoth ?_)
 obtain ⟨N,hN⟩:∃N:Nat,N=400:=⟨_,rfl⟩
 rw [←hN]
 simp+contextual(maxSteps:=1000000)(disch:=omega)only[↓Sd,↓So,↓Sk,↓den,↓denA,Sa,Sb,Sc,Se,O1.d,O2.d,O3.d,cmI,arI,envOf,putN,↓reduceIte,Nat.reduceLT,Nat.reduceSub,Nat.reduceAdd,Int.reduceAdd,Int.reduceEq,Int.reduceLT,Int.reduceLE,arr_pos,arr_neg,tr_spec_SetBoth,C_spec_l4Mix0 a b N hN ha hb]
theorem upTo_pos {p:Nat→Bool} {n:Nat}:0<(upTo p n).length↔∃k,k<n∧p k=true:=by
 constructor
 ·intro h
  obtain ⟨k,h1,_,h3⟩:=upTo_mem.1 (getD_mem (d:=0) h)
  exact ⟨k,h1,h3⟩
 ·rintro ⟨k,h1,h2⟩
  exact List.length_pos_of_mem (upTo_mem.2 ⟨k,h1,rfl,h2⟩)
noncomputable def wdn (P:List Int→Prop) (c:List Int):Nat→List Int
 | 0=>c
 | i+1=>if dB (P ((wdn P c i).set i 2))=true then (wdn P c i).set i 2 else wdn P c i
theorem wdn_len {P:List Int→Prop} {c:List Int}:∀{i:Nat},(wdn P c i).length=c.length
 | 0=>rfl
 | i+1=>by
  simp only [wdn]
  split
  ·rw [List.length_set,wdn_len]
  ·exact wdn_len
theorem wdn_same {P:List Int→Prop} {c:List Int} {d:Int}:∀{i:Nat},Same c (wdn P c i) d i
 | 0=>Same.refl
 | i+1=>by
  have ih:=@wdn_same P c d i
  simp only [wdn]
  split
  ·exact ih.set
  ·exact ⟨ih.1,fun j hj=>ih.2 j (by omega)⟩
theorem set_self {α:Type} {l:List α} {i:Nat} {x d:α} (hi:i<l.length) (h:l.getD i d=x):l.set i x=l:=by
 rw [←h,getD_lt hi,List.set_getElem_self]
theorem stN_sb_len {s:Sy} {n:Nat}:((sb s (stN s n)).length:Int)=bc s.1:=sb_len
theorem wrap_u64 {n:Nat} (h:n<18446744073709551616):IntKind.u64.wrap (n:Int)=n:=by
 unfold IntKind.wrap
 simp only [IntKind.bits,IntKind.signed]
 have:((n:Int) % (2:Int) ^ 64)=n:=by omega
 simpa using this
theorem fd64 {n:Nat} (h:n<4294967296):(n:Int).fdiv (2 ^ min (Int.toNat 32) IntKind.u64.bits)=0:=by
 have:min (Int.toNat 32) IntKind.u64.bits=32:=by decide
 rw [this,Int.fdiv_eq_ediv_of_nonneg _ (by decide)]
 omega
theorem sh64 {n:Nat} (h:n<4294967296):shI false .u64 (n:Int) 32=0:=by
 unfold shI
 simp only [Bool.false_eq_true,if_false]
 exact fd64 h
theorem and64 {n:Nat} (h:n<4294967296):IntKind.u64.wrap ((BitVec.ofInt IntKind.u64.bits (n:Int) &&& BitVec.ofInt IntKind.u64.bits 4294967295).toNat:Int)=n:=by
 have h1:(BitVec.ofInt IntKind.u64.bits (n:Int) &&& BitVec.ofInt IntKind.u64.bits 4294967295).toNat=n:=by
  rw [BitVec.toNat_and]
  have e1:(BitVec.ofInt IntKind.u64.bits (n:Int)).toNat=n:=by
   rw [BitVec.toNat_ofInt]
   show Int.toNat ((n:Int) % (2:Int) ^ 64)=n
   omega
  have e2:(BitVec.ofInt IntKind.u64.bits 4294967295).toNat=2 ^ 32 - 1:=by decide
  rw [e1,e2,Nat.and_two_pow_sub_one_eq_mod,Nat.mod_eq_of_lt h]
 rw [h1]
 exact wrap_u64 (by omega)
theorem C_math_bits_Mul1 (n:Nat) (h:n≤1048576) (Q:List AV→Prop):mc.C f_math_bits_Mul [⟨.int .u64,(1:Int)⟩,⟨.int .u64,(n:Int)⟩] Q=Q [⟨.int .u64,(0:Int)⟩,⟨.int .u64,(n:Int)⟩]:=by
 have e1:mc.C f_math_bits_Mul64 [⟨.int .u64,(1:Int)⟩,⟨.int .u64,(n:Int)⟩]=fun Q=>Q [⟨.int .u64,(0:Int)⟩,⟨.int .u64,(n:Int)⟩]:=by
  funext Q
  refine Mc.Ends.c (mc.ends F_math_bits_Mul64 ?_)
  have s1:shI false .u64 1 32=0:=sh64 (n:=1) (by omega)
  have s0:shI false .u64 0 32=0:=sh64 (n:=0) (by omega)
  have sn:=sh64 (n:=n) (by omega)
  have a1:IntKind.u64.wrap ((BitVec.ofInt IntKind.u64.bits 1 &&& BitVec.ofInt IntKind.u64.bits 4294967295).toNat:Int)=1:=and64 (n:=1) (by omega)
  have a0:IntKind.u64.wrap ((BitVec.ofInt IntKind.u64.bits 0 &&& BitVec.ofInt IntKind.u64.bits 4294967295).toNat:Int)=0:=and64 (n:=0) (by omega)
  have an:=and64 (n:=n) (by omega)
  have w:=wrap_u64 (n:=n) (by omega)
  have w0:IntKind.u64.wrap 0=0:=by decide
  simp+contextual(maxSteps:=1000000)(disch:=omega)only[↓Sd,↓So,↓Sk,↓den,↓denA,Sa,Sb,Sc,Se,O1.d,O2.d,O3.d,cmI,arI,envOf,putN,↓reduceIte,Nat.reduceLT,Nat.reduceSub,Nat.reduceAdd,Int.reduceAdd,Int.reduceEq,Int.reduceLT,Int.reduceLE,arr_pos,arr_neg,tr_math_bits_Mul64,s1,s0,sn,a1,an,a0,w,w0,Int.zero_mul,Int.mul_zero,Int.one_mul,Int.add_zero,Int.zero_add]
 refine Mc.Ends.c (mc.ends F_math_bits_Mul ?_)
 simp+contextual(maxSteps:=1000000)(disch:=omega)only[↓Sd,↓So,↓Sk,↓den,↓denA,Sa,Sb,Sc,Se,O1.d,O2.d,O3.d,cmI,arI,envOf,putN,↓reduceIte,Nat.reduceLT,Nat.reduceSub,Nat.reduceAdd,Int.reduceAdd,Int.reduceEq,Int.reduceLT,Int.reduceLE,arr_pos,arr_neg,tr_math_bits_Mul,e1]
def reps (k n:Nat) (v:Int):List Int:=List.replicate k v++List.replicate (n - k) 0
theorem reps_len {k n:Nat} {v:Int} (h:k≤n):(reps k n v).length=n:=by simp [reps];omega
theorem reps_over0 {n:Nat} {v:Int}:overL (List.replicate n (0:Int)) [v]=reps (min 1 n) n v:=by
 cases n with
 | zero=>simp [overL,reps]
 | succ n =>
  have:min 1 (n+1)=1:=by omega
  rw [this]
  simp [overL,reps,List.replicate_succ]
theorem reps_next {k n:Nat} {v:Int} (h:k≤n):(reps k n v).take k++overL (((reps k n v).take n).drop k) (((reps k n v).take k).drop 0)++(reps k n v).drop n=reps (k+min k (n - k)) n v:=by
 have e1:(reps k n v).take k=List.replicate k v:=by simp [reps]
 have e2:(reps k n v).take n=reps k n v:=List.take_of_length_le (by rw [reps_len h];omega)
 have e3:(reps k n v).drop n=[]:=List.drop_eq_nil_of_le (by rw [reps_len h];omega)
 have e4:(reps k n v).drop k=List.replicate (n - k) 0:=by simp [reps]
 rw [e1,e2,e3,e4,List.drop_zero,List.append_nil]
 unfold overL reps
 rw [List.length_replicate,List.length_replicate,List.take_replicate,List.drop_replicate,←List.append_assoc,List.replicate_append_replicate]
 congr 2
 ·omega
 ·omega
theorem C_slices_Repeat (v:Int) (n:Nat) (h:n≤1048576) (Q:List AV→Prop):mc.C f_slices_Repeat_Sint_int [⟨L I,[v]⟩,⟨I,(n:Int)⟩] Q=Q [⟨L I,List.replicate n v⟩]:=by
 refine Mc.Ends.c (mc.ends F_slices_Repeat_Sint_int ?_)
 have w1:IntKind.u64.wrap 1=1:=by decide
 have w:=wrap_u64 (n:=n) (by omega)
 simp+contextual(maxSteps:=1000000)(disch:=omega)only[↓Sd,↓So,↓Sk,↓den,↓denA,Sa,Sb,Sc,Se,O1.d,O2.d,O3.d,cmI,arI,envOf,putN,↓reduceIte,Nat.reduceLT,Nat.reduceSub,Nat.reduceAdd,Int.reduceAdd,Int.reduceEq,Int.reduceLT,Int.reduceLE,arr_pos,arr_neg,tr_slices_Repeat_Sint_int,w1,w,C_math_bits_Mul1 n h,reps_over0,List.length_replicate]
 refine mc.lp_inv (fun j us=>∃k:Nat,us=[⟨I,(k:Int)⟩,⟨L I,reps k n v⟩]∧k≤n∧(n=0∨1≤k)∧j=n - k) (n - min 1 n) _ ⟨min 1 n,?_,Nat.min_le_right ..,by omega,rfl⟩ ?_
 ·rw [show (if (n:Int)<1 then (n:Int) else 1)=((min 1 n:Nat):Int) by omega]
 rintro j us ⟨k,rfl,i1,i2,rfl⟩
 have hl:=reps_len (v:=v) i1
 have l1:(List.drop k (List.take n (reps k n v))).length=n - k:=by rw [List.length_drop,List.length_take,hl];omega
 have l2:(List.drop 0 (List.take k (reps k n v))).length=k:=by rw [List.length_drop,List.length_take,hl];omega
 simp+contextual(maxSteps:=1000000)(disch:=omega)only[↓Sd,↓So,↓Sk,↓den,↓denA,Sa,Sb,Sc,Se,O1.d,O2.d,O3.d,cmI,arI,envOf,putN,↓reduceIte,Nat.reduceLT,Nat.reduceSub,Nat.reduceAdd,Int.reduceAdd,Int.reduceEq,Int.reduceLT,Int.reduceLE,arr_pos,arr_neg,↓wpJoin,hl,l1,l2,reps_next i1]
 refine ⟨fun g=>?_,fun g=>?_⟩
 ·have hkn:k<n:=Int.ofNat_lt.1 g
  refine ⟨_,?_,k+min k (n - k),⟨?_,rfl⟩,by omega,by omega,rfl⟩
  ·omega
  rw [show (if ((n - k:Nat):Int)<(k:Int) then ((n - k:Nat):Int) else (k:Int))=((min k (n - k):Nat):Int) by omega]
  rw [wrap_id (by omega) (by omega)]
  exact (Int.natCast_add _ _).symm
 ·have hkn:¬k<n:=fun hh=>g (Int.ofNat_lt.2 hh)
  have:k=n:=by omega
  subst this
  simp [reps]
def Lay (T:List (List Int)) (F:List Int):Nat→Nat→Prop
 | 0,k=>(k:Int)∈F
 | d+1,k=>Lay T F d k∨∃a,Lay T F d a∧(k:Int)∈T.getD a []
theorem least {P:Nat→Prop} (h:∃d,P d):∃d,P d∧∀e,e<d→¬P e:=by
 obtain ⟨d,hd⟩:=h
 induction d using Nat.strongRecOn with
 | ind d ih =>
  by_cases g:∃e,e<d∧P e
  ·obtain ⟨e,h1,h2⟩:=g;exact ih e h1 h2
  ·exact ⟨d,hd,fun e he hp=>g ⟨e,he,hp⟩⟩
open Classical in
noncomputable def dst (T:List (List Int)) (F:List Int) (k:Nat):Int:=if h:∃d,Lay T F d k then ((Classical.choose (least h):Nat):Int) else -1
theorem Lay.up {T:List (List Int)} {F:List Int} {d e k:Nat} (h:Lay T F d k) (he:d≤e):Lay T F e k:=by
 induction e with
 | zero => have : d = 0 := by omega
           subst this;exact h
 | succ e ih =>
  by_cases g:d≤e
  ·exact .inl (ih g)
  ·have:d=e+1:=by omega
   subst this;exact h
theorem Lay.rch {T:List (List Int)} {F:List Int}:∀{d k:Nat},Lay T F d k→Rch T F k
 | 0,k,h=>.base h
 | d+1,k,h=>h.elim Lay.rch fun ⟨a,h1,h2⟩=>.step (Lay.rch h1) h2
theorem rch_lay {T:List (List Int)} {F:List Int} {k:Nat} (h:Rch T F k):∃d,Lay T F d k:=by
 induction h with
 | base h=>exact ⟨0,h⟩
 | step _ h ih=>obtain ⟨d,hd⟩:=ih;exact ⟨d+1,.inr ⟨_,hd,h⟩⟩
structure IsDst (T:List (List Int)) (F:List Int) (n:Nat) (f:Nat→Int):Prop where
 ge:∀k,k<n → -1≤f k
 zero:∀k,k<n→(f k=0↔(k:Int)∈F)
 pre:∀k,k<n→0<f k→∃a,a<n∧f a+1=f k∧(k:Int)∈T.getD a []
 nxt:∀a,a<n→0≤f a→∀k:Nat,(k:Int)∈T.getD a []→0≤f k∧f k≤f a+1
theorem IsDst.eq {T:List (List Int)} {F:List Int} {n:Nat} {f:Nat→Int} (ht:Tbl T n) (hF:∀x∈F,0≤x∧x<n) (h:IsDst T F n f):∀k,k<n→f k=dst T F k:=by
 have a1:∀d k,k<n→f k=(d:Nat)→Lay T F d k:=by
  intro d
  induction d with
  | zero=>intro k hk h1;exact (h.zero k hk).1 h1
  | succ d ih =>
   intro k hk h1
   obtain ⟨a,b1,b2,b3⟩:=h.pre k hk (by omega)
   exact .inr ⟨a,ih a b1 (by omega),b3⟩
 have a2:∀d k,Lay T F d k→k<n∧0≤f k∧f k≤(d:Nat):=by
  intro d
  induction d with
  | zero => intro k h1; have := hF _ h1; have hk : k < n := by omega
            have:=(h.zero k hk).2 h1;exact ⟨hk,by omega,by omega⟩
  | succ d ih =>
   intro k h1
   rcases h1 with h1 | ⟨a,h1,h2⟩
   ·have:=ih k h1;exact ⟨this.1,this.2.1,by omega⟩
   ·obtain ⟨b1,b2,b3⟩:=ih a h1
    have:=ht.row _ h2
    have:=h.nxt a b1 b2 k h2
    exact ⟨by omega,this.1,by omega⟩
 intro k hk
 unfold dst
 by_cases g:∃d,Lay T F d k
 ·rw [dif_pos g]
  obtain ⟨b1,b2⟩:=Classical.choose_spec (least g)
  generalize Classical.choose (least g)=d at b1 b2
  obtain ⟨-,c1,c2⟩:=a2 d k b1
  have c3:=a1 (f k).toNat k hk (by omega)
  have:¬(f k).toNat<d:=fun hh=>b2 _ hh c3
  omega
 ·rw [dif_neg g]
  have:=h.ge k hk
  by_cases g2:0≤f k
  ·exact absurd ⟨_,a1 (f k).toNat k hk (by omega)⟩ g
  ·omega
theorem dst_rch {T:List (List Int)} {F:List Int} {k:Nat}:0≤dst T F k↔Rch T F k:=by
 unfold dst
 constructor
 ·intro h
  by_cases g:∃d,Lay T F d k
  ·obtain ⟨d,hd⟩:=g;exact hd.rch
  ·rw [dif_neg g] at h;omega
 ·intro h
  rw [dif_pos (rch_lay h)];omega
theorem tab_one {n m:Nat} (hm:m<n):(List.replicate n (-1:Int)).set m 0=tab (fun k=>if k=m then 0 else -1) n:=by
 rw [rep_tab,tab_set']
structure Bfs (T:List (List Int)) (m n:Nat) (f:Nat→Int) (q:List Nat) (ex:Nat→Prop):Prop where
 ge:∀k,k<n → -1≤f k
 zero:∀k,k<n→(f k=0↔k=m)
 pre:∀k,k<n→0<f k→∃a,a<n∧f a+1=f k∧(k:Int)∈T.getD a []
 inq:∀x∈q,x<n∧0≤f x
 sorted:q.Pairwise fun a b=>f a≤f b
 closed:∀a,a<n→0≤f a→a∉q→¬ex a→∀k:Nat,(k:Int)∈T.getD a []→0≤f k∧f k≤f a+1
 top:∀k,k<n→f k+cntF (fun k=>decide (0≤f k)) n≤n
theorem cntF_congr {p q:Nat→Bool} {n:Nat} (h:∀k,k<n→p k=q k):cntF p n=cntF q n:=by
 unfold cntF
 rw [upTo_congr fun k hk=>by rw [h k hk]]
theorem Bfs.visit {T:List (List Int)} {m n x y:Nat} {f:Nat→Int} {q:List Nat} (h:Bfs T m n f q (·=x)) (hx:x<n) (hfx:0≤f x) (hy:y<n) (hfy:f y<0) (hm:m<n) (hT:(y:Int)∈T.getD x []) (hb:∀k,k<n→f k≤f x+1) :
  Bfs T m n (fun k=>if k=y then f x+1 else f k) (q++[y]) (·=x)∧cntF (fun k=>decide (0≤(if k=y then f x+1 else f k))) n+1=cntF (fun k=>decide (0≤f k)) n:=by
 have hxy:¬x=y:=by rintro rfl;omega
 have hc:cntF (fun k=>decide (0≤(if k=y then f x+1 else f k))) n+1=cntF (fun k=>decide (0≤f k)) n:=by
  have:=cntF_set (p:=fun k=>decide (0≤f k)) (j:=y) (by simp;omega) (n:=n) hy
  rw [←this]
  congr 1
  refine cntF_congr fun k _=>?_
  by_cases g:k=y
  ·simp [g];omega
  ·simp [g]
 refine ⟨⟨fun k hk=>?_,fun k hk=>?_,fun k hk h1=>?_,fun z hz=>?_,?_,fun a ha h1 h2 h3 k hk=>?_,fun k hk=>?_⟩,hc⟩
 ·have:=h.ge k hk;split<;>omega
 ·have:=h.zero k hk
  have:=h.zero m hm
  split
  ·rename_i g;subst g
   constructor
   ·intro h1;omega
   ·intro h1;subst h1;omega
  ·assumption
 ·by_cases g:k=y
  ·subst g
   exact ⟨x,hx,by simp [hxy],hT⟩
  ·simp only [g,if_false] at h1 ⊢
   obtain ⟨a,b1,b2,b3⟩:=h.pre k hk h1
   have:¬a=y:=by rintro rfl;omega
   exact ⟨a,b1,by simp [this,b2],b3⟩
 ·rcases List.mem_append.1 hz with hz | hz
  ·have:=h.inq z hz
   refine ⟨this.1,?_⟩
   split<;>omega
  ·simp only [List.mem_singleton] at hz
   subst hz
   exact ⟨hy,by simp;omega⟩
 ·refine List.pairwise_append.2 ⟨?_,List.pairwise_singleton _ _,?_⟩
  ·refine h.sorted.imp_of_mem ?_
   intro a b ha hb2 hab
   have h1:=(h.inq a ha).2
   have h2:=(h.inq b hb2).2
   have e1:¬a=y:=by rintro rfl;omega
   have e2:¬b=y:=by rintro rfl;omega
   simp only [e1,e2,if_false];exact hab
  ·intro a ha b hb2
   simp only [List.mem_singleton] at hb2
   subst hb2
   have h1:=h.inq a ha
   have e1:¬a=b:=by rintro rfl;omega
   simp only [e1,if_false,if_true]
   exact hb a h1.1
 ·simp only [List.mem_append,List.mem_singleton,not_or] at h2
  have e1:¬a=y:=h2.2
  simp only [e1,if_false] at h1 ⊢
  have:=h.closed a ha h1 h2.1 h3 k hk
  have e2:¬k=y:=by rintro rfl;omega
  simp only [e2,if_false];exact this
 ·have:=h.top k hk
  have:=h.top x hx
  split<;>omega
theorem C_impl_steps (T:List (List Int)) (m n:Nat) (hm:m<n) (hn:n≤1000) (ht:Tbl T n) (Q:List AV→Prop):mc.C f_impl_steps [⟨L (L I),T⟩,⟨I,(m:Int)⟩] Q=Q [⟨L I,tab (dst T [(m:Int)]) n⟩]:=by
 have hl:=ht.1
 refine Mc.Ends.c (mc.ends F_impl_steps ?_)
 simp+contextual(maxSteps:=1000000)(disch:=omega)only[↓Sd,↓So,↓Sk,↓den,↓denA,Sa,Sb,Sc,Se,O1.d,O2.d,O3.d,cmI,arI,envOf,putN,↓reduceIte,Nat.reduceLT,Nat.reduceSub,Nat.reduceAdd,Int.reduceAdd,Int.reduceEq,Int.reduceLT,Int.reduceLE,arr_pos,arr_neg,tr_impl_steps,hl,C_slices_Repeat (-1) n (by omega),List.length_replicate,tab_one hm]
 have hc0:cntF (fun k=>decide ((0:Int)≤if k=m then 0 else -1)) n≤n:=cntF_le
 refine mc.lp_inv (fun j us=>∃(f:Nat→Int) (q:List Nat),us=[⟨L (L I),T⟩,⟨L I,tab f n⟩,⟨L I,q.map Int.ofNat⟩]∧Bfs T m n f q (fun _=>False)∧(∀x q',q=x::q'→∀k,k<n→f k≤f x+1)∧q.length+cntF (fun k=>decide (0≤f k)) n≤2000 ∧
  j=2 * cntF (fun k=>decide (0≤f k)) n+q.length) _ _ ⟨fun k=>if k=m then 0 else -1,[m],rfl,⟨?_,?_,?_,?_,?_,?_,?_⟩,?_,?_,rfl⟩ ?_
 ·intro k _;split<;>omega
 ·intro k _;split<;>omega
 ·intro k _ h;split at h<;>omega
 ·intro x hx;simp only [List.mem_singleton] at hx;subst hx;exact ⟨hm,by simp⟩
 ·exact List.pairwise_singleton _ _
 ·intro a ha h1 h2
  simp only [List.mem_singleton] at h2
  simp only [h2,if_false] at h1
  omega
 ·intro k hk
  have hc:=cntF_set (p:=fun _=>false) (j:=m) rfl (n:=n) hm
  have:cntF (fun _=>false) n≤n:=cntF_le
  rw [cntF_congr (q:=fun k=>if k=m then true else false) fun k _=>by by_cases g:k=m<;>simp [g]]
  split<;>omega
 ·intro x q' hq k hk
  simp only [List.cons.injEq] at hq
  rw [←hq.1]
  simp only [if_true]
  split<;>omega
 ·simp only [List.length_singleton];omega
 rintro j us ⟨f,q,rfl,i1,i2,i3,rfl⟩
 cases q with
 | nil =>
  simp+contextual(maxSteps:=1000000)(disch:=omega)only[↓Sd,↓So,↓Sk,↓den,↓denA,Sa,Sb,Sc,Se,O1.d,O2.d,O3.d,cmI,arI,envOf,putN,↓reduceIte,Nat.reduceLT,Nat.reduceSub,Nat.reduceAdd,Int.reduceAdd,Int.reduceEq,Int.reduceLT,Int.reduceLE,arr_pos,arr_neg,List.map_nil]
  refine tab_congr (IsDst.eq ht (by intro x hx;simp only [List.mem_singleton] at hx;omega) ⟨i1.ge,fun k hk=>?_,i1.pre,fun a ha h1 k hk=>i1.closed a ha h1 (by simp) (by simp) k hk⟩)
  rw [i1.zero k hk]
  simp only [List.mem_singleton]
  omega
 | cons x q =>
  have hb:=i2 x q rfl
  obtain ⟨hx,hfx⟩:=i1.inq x (List.mem_cons_self ..)
  have hso:=List.pairwise_cons.1 i1.sorted
  have hrow:=ht.row (i:=x)
  have hrl:(T.getD x []).length≤1048576:=(ht.2 _ (getD_mem (by omega))).1
  simp only [List.length_cons] at i3
  obtain ⟨row,hr⟩:∃row,T.getD x []=row:=⟨_,rfl⟩
  rw [hr] at hrow hrl
  have e0:Int.ofNat x=(x:Int):=rfl
  simp+contextual(maxSteps:=1000000)(disch:=omega)only[↓Sd,↓So,↓Sk,↓den,↓denA,Sa,Sb,Sc,Se,O1.d,O2.d,O3.d,cmI,arI,envOf,putN,↓reduceIte,Nat.reduceLT,Nat.reduceSub,Nat.reduceAdd,Int.reduceAdd,Int.reduceEq,Int.reduceLT,Int.reduceLE,arr_pos,arr_neg,List.map_cons,hl,e0,Int.toNat_natCast,hr,List.drop_succ_cons,List.drop_zero,List.length_cons]
  refine mc.lp_for ((Nat→Int)×List Nat) (fun j s=>[⟨L (L I),T⟩,⟨I,(x:Int)⟩,⟨L I,row⟩,⟨I,(row.length:Int)⟩,⟨I,(j:Int)⟩,⟨L I,tab s.1 n⟩,⟨L I,s.2.map Int.ofNat⟩]) (fun j s=>Bfs T m n s.1 s.2 (·=x)∧s.1 x=f x∧(∀k,k<n→s.1 k≤f x+1)∧(∀y∈s.2,f x≤s.1 y) ∧
   (∀k:Nat,(k:Int)∈row.take j→0≤s.1 k)∧s.2.length+cntF (fun k=>decide (0≤s.1 k)) n=q.length+cntF (fun k=>decide (0≤f k)) n∧cntF (fun k=>decide (0≤s.1 k)) n≤cntF (fun k=>decide (0≤f k)) n) row.length 0 (f,q) _ rfl (Nat.zero_le _)
   ⟨⟨i1.ge,i1.zero,i1.pre,fun y hy=>i1.inq y (List.mem_cons_of_mem _ hy),hso.2,fun a h1 h2 h3 h4=>i1.closed a h1 h2 (by simp only [List.mem_cons,not_or];exact ⟨h4,h3⟩) (by simp),i1.top⟩,rfl,hb,hso.1,by simp,rfl,Nat.le_refl _⟩ ?_ ?_
  ·rintro j ⟨f',q'⟩ hj ⟨a1,a2,a3,a4,a5,a6,a7⟩
   simp only at a1 a2 a3 a4 a5 a6 a7
   have hy:=hrow _ (getD_mem (d:=0) hj)
   obtain ⟨y,hy2⟩:∃y:Nat,row.getD j 0=y:=⟨(row.getD j 0).toNat,by omega⟩
   have hyn:y<n:=by omega
   have hyT:(y:Int)∈T.getD x []:=by rw [hr,←hy2];exact getD_mem hj
   have htop:=a1.top x hx
   have hwr:IntKind.i64.wrap (f x+1)=f x+1:=wrap_id (by omega) (by omega)
   have hql:(q'.map Int.ofNat).length=q'.length:=List.length_map ..
   simp+contextual(maxSteps:=1000000)(disch:=omega)only[↓Sd,↓So,↓Sk,↓den,↓denA,Sa,Sb,Sc,Se,O1.d,O2.d,O3.d,cmI,arI,envOf,putN,↓reduceIte,Nat.reduceLT,Nat.reduceSub,Nat.reduceAdd,Int.reduceAdd,Int.reduceEq,Int.reduceLT,Int.reduceLE,arr_pos,arr_neg,↓wpJoin,hy2,tab_len,tab_get hyn,tab_get hx,Int.toNat_natCast,tab_set',a2,hwr,hql]
   have hfx':0≤f' x:=by omega
   refine ⟨fun g=>?_,fun g=>?_⟩
   ·obtain ⟨v1,v2⟩:=a1.visit hx hfx' hyn g hm hyT (by rw [a2];exact a3)
    rw [a2] at v1 v2
    have hxy:¬x=y:=by rintro rfl;omega
    refine ⟨(fun k=>if k=y then f x+1 else f' k,q'++[y]),⟨rfl,by simp⟩,v1,by simp [hxy,a2],?_,?_,?_,?_,?_⟩
    ·intro k hk
     have:=a3 k hk
     simp only []
     split<;>omega
    ·intro z hz
     simp only []
     split
     ·omega
     ·rename_i hzy
      rcases List.mem_append.1 hz with h | h
      ·exact a4 z h
      ·exact absurd (List.mem_singleton.1 h) hzy
    ·intro k hk
     simp only []
     split
     ·omega
     ·rename_i hky
      rcases (mem_take_next hj).1 hk with h | h
      ·exact a5 k h
      ·exact absurd (by omega) hky
    ·simp only [List.length_append,List.length_singleton];omega
    ·simp only [];omega
   ·refine ⟨(f',q'),⟨rfl,rfl⟩,a1,a2,a3,a4,fun k hk=>?_,a6,a7⟩
    rcases (mem_take_next hj).1 hk with h | h
    ·exact a5 k h
    ·rw [show k=y by omega];simp only [];omega
  ·rintro ⟨f',q'⟩ ⟨a1,a2,a3,a4,a5,a6,a7⟩
   rw [List.take_length] at a5
   simp only at a1 a2 a3 a4 a5 a6 a7
   simp+contextual(maxSteps:=1000000)(disch:=omega)only[↓Sd,↓So,↓Sk,↓den,↓denA,Sa,Sb,Sc,Se,O1.d,O2.d,O3.d,cmI,arI,envOf,putN,↓reduceIte,Nat.reduceLT,Nat.reduceSub,Nat.reduceAdd,Int.reduceAdd,Int.reduceEq,Int.reduceLT,Int.reduceLE,arr_pos,arr_neg,]
   refine ⟨_,?_,f',q',⟨rfl,rfl⟩,⟨a1.ge,a1.zero,a1.pre,a1.inq,a1.sorted,fun a ha h1 h2 _ k hk=>?_,a1.top⟩,fun z q'' hq k hk=>?_,by omega,rfl⟩
   ·omega
   ·by_cases hax:a=x
    ·subst hax
     rw [hr] at hk
     have h3:=hrow _ hk
     have h4:=a3 k (by omega)
     exact ⟨a5 k hk,by omega⟩
    ·exact a1.closed a ha h1 h2 hax k hk
   ·have h3:=a3 k hk
    have h4:=a4 z (by rw [hq];exact List.mem_cons_self ..)
    omega
structure Rnd (T:List (List Int)) (p:Nat→Bool) (n:Nat) (d a0 C:Nat) (ag:Bool) (f:Nat→Int):Prop where
 ge:∀k,k<n → -1≤f k
 zero:∀k,k<n→(f k=0↔p k=true)
 pre:∀k,k<n→0<f k→∃a,a<n∧f a+1=f k∧(k:Int)∈T.getD a []
 le:∀k,k<n→f k≤(d:Int)+1
 closed:∀a,a<n→0≤f a→(f a<d∨f a=d∧a<a0)→∀k:Nat,(k:Int)∈T.getD a []→0≤f k∧f k≤f a+1
 none:ag=false→∀k,k<n→f k≤d
 cnt:cntF (fun k=>decide (0≤f k)) n≤C
 less:ag=true→cntF (fun k=>decide (0≤f k)) n<C
end Go.Proofs.YtdcdnfcmllfmlaaGreat
