/- What the trees come to: plain mathematics; no condition. -/
import Derived.Test.YtlfinllnfggiiaaGreatSmMath1
namespace Go.Proofs.YtlfinllnfggiiaaGreat
open Go Go.Sm Go.Sm.Q
set_option linter.unusedSimpArgs false
set_option linter.unusedVariables false
theorem D_DrawFramesValid (b:List Int) (hb:Byt b) (hl:Lt63 b) {Q:List AV→Prop} (h:∀(s:Sy) (X:List (List Int)),SmSy s→X.length≤30→(∀r∈X,r.length≤401)→Q [⟨L V3,s.1⟩,⟨L TR,s.2⟩,⟨L (L I),X⟩]):mc.C f_spec_DrawFramesValid [⟨L U,b⟩] Q:=by
 refine mc.c_of F_spec_DrawFramesValid ?_
 simp+contextual(maxSteps:=1000000)(disch:=omega)only[↓Sd,↓So,↓Sk,↓den,↓denA,Sa,Sb,Sc,Se,O1.d,O2.d,O3.d,cmI,arI,envOf,putN,↓reduceIte,Nat.reduceLT,Nat.reduceSub,Nat.reduceAdd,Int.reduceAdd,Int.reduceEq,Int.reduceLT,Int.reduceLE,arr_pos,arr_neg,tr_spec_DrawFramesValid]
 refine mc.c_of F_spec_DrawCloseIn ?_
 simp+contextual(maxSteps:=1000000)(disch:=omega)only[↓Sd,↓So,↓Sk,↓den,↓denA,Sa,Sb,Sc,Se,O1.d,O2.d,O3.d,cmI,arI,envOf,putN,↓reduceIte,Nat.reduceLT,Nat.reduceSub,Nat.reduceAdd,Int.reduceAdd,Int.reduceEq,Int.reduceLT,Int.reduceLE,arr_pos,arr_neg,tr_spec_DrawCloseIn]
 refine D_l15Ask b hb hl fun s l k hs hll hk=>?_
 simp+contextual(maxSteps:=1000000)(disch:=omega)only[↓Sd,↓So,↓Sk,↓den,↓denA,Sa,Sb,Sc,Se,O1.d,O2.d,O3.d,cmI,arI,envOf,putN,↓reduceIte,Nat.reduceLT,Nat.reduceSub,Nat.reduceAdd,Int.reduceAdd,Int.reduceEq,Int.reduceLT,Int.reduceLE,arr_pos,arr_neg,]
 refine D_open b hb hl fun b hb=>?_
 simp+contextual(maxSteps:=1000000)(disch:=omega)only[↓Sd,↓So,↓Sk,↓den,↓denA,Sa,Sb,Sc,Se,O1.d,O2.d,O3.d,cmI,arI,envOf,putN,↓reduceIte,Nat.reduceLT,Nat.reduceSub,Nat.reduceAdd,Int.reduceAdd,Int.reduceEq,Int.reduceLT,Int.reduceLE,arr_pos,arr_neg,]
 refine D_CloseIn s l hs.few (by unfold Few;omega) fun b1 X sh Y R b2 hX hr=>?_
 refine mc.wp_join (fun us=>∃(c1:Bool) (X':List (List Int)) (sh':List Int) (Y':List (List Int)) (R':List Int),us=[⟨L V3,s.1⟩,⟨L TR,s.2⟩,⟨B,c1⟩,⟨L (L I),X'⟩,⟨L I,sh'⟩,⟨L (L I),Y'⟩,⟨L I,R'⟩]∧X'.length≤30∧∀r∈X',r.length≤401) ?_ ?_
 ·simp+contextual(maxSteps:=1000000)(disch:=omega)only[↓Sd,↓So,↓Sk,↓den,↓denA,Sa,Sb,Sc,Se,O1.d,O2.d,O3.d,cmI,arI,envOf,putN,↓reduceIte,Nat.reduceLT,Nat.reduceSub,Nat.reduceAdd,Int.reduceAdd,Int.reduceEq,Int.reduceLT,Int.reduceLE,arr_pos,arr_neg,]
  refine ⟨fun hX1=>?_,fun _=>?_⟩
  ·refine D_pick1 _ _ _ hb (by omega) (by omega) fun a a0 a1=>?_;simp+contextual(maxSteps:=1000000)(disch:=omega)only[↓Sd,↓So,↓Sk,↓den,↓denA,Sa,Sb,Sc,Se,O1.d,O2.d,O3.d,cmI,arI,envOf,putN,↓reduceIte,Nat.reduceLT,Nat.reduceSub,Nat.reduceAdd,Int.reduceAdd,Int.reduceEq,Int.reduceLT,Int.reduceLE,arr_pos,arr_neg,]
   refine ⟨fun _=>?_,fun _=>?_⟩
   ·refine D_pick1 _ _ _ hb (by omega) (by omega) fun i i0 i1=>?_;simp+contextual(maxSteps:=1000000)(disch:=omega)only[↓Sd,↓So,↓Sk,↓den,↓denA,Sa,Sb,Sc,Se,O1.d,O2.d,O3.d,cmI,arI,envOf,putN,↓reduceIte,Nat.reduceLT,Nat.reduceSub,Nat.reduceAdd,Int.reduceAdd,Int.reduceEq,Int.reduceLT,Int.reduceLE,arr_pos,arr_neg,]
    refine D_l4Some _ _ s hb (by omega) hs.few fun r p2 hp2 hrl=>?_
    simp+contextual(maxSteps:=1000000)(disch:=omega)only[↓Sd,↓So,↓Sk,↓den,↓denA,Sa,Sb,Sc,Se,O1.d,O2.d,O3.d,cmI,arI,envOf,putN,↓reduceIte,Nat.reduceLT,Nat.reduceSub,Nat.reduceAdd,Int.reduceAdd,Int.reduceEq,Int.reduceLT,Int.reduceLE,arr_pos,arr_neg,↓wpJoin,]
    refine ⟨b1,X.set i.toNat r,sh,Y,R,⟨rfl,rfl,rfl,rfl,rfl⟩,by rw [List.length_set];omega,fun x hx=>?_⟩
    rcases List.mem_or_eq_of_mem_set hx with hx | hx
    ·exact hr x hx
    ·rw [hx];exact hrl
   ·exact ⟨b1,X,sh,Y,R,⟨rfl,rfl,rfl,rfl,rfl⟩,hX,hr⟩
  ·exact ⟨b1,X,sh,Y,R,⟨rfl,rfl,rfl,rfl,rfl⟩,hX,hr⟩
 ·rintro us ⟨c1,X',sh',Y',R',rfl,hX',hr'⟩
  simp+contextual(maxSteps:=1000000)(disch:=omega)only[↓Sd,↓So,↓Sk,↓den,↓denA,Sa,Sb,Sc,Se,O1.d,O2.d,O3.d,cmI,arI,envOf,putN,↓reduceIte,Nat.reduceLT,Nat.reduceSub,Nat.reduceAdd,Int.reduceAdd,Int.reduceEq,Int.reduceLT,Int.reduceLE,arr_pos,arr_neg,↓wpJoin,]
  exact h s X' hs hX' hr'
def fvC (s:Sy) (X:List (List Int)) (i:Nat):Prop:=lset (X.getD (i+1) []) (szn s.1)∧(∀x∈X.getD i [],x∈X.getD (i+1) [])∧∀x∈nextN s (X.getD i []),x∈X.getD (i+1) []
def fvs (s:Sy) (X:List (List Int)):Prop:=valid s∧(1≤X.length∧X.length≤30)∧X.getD 0 []=[(fn0 s:Int)]∧∀i,i+1<X.length→fvC s X i
theorem one_lset {s:Sy} (h:valid s):lset [(fn0 s:Int)] (szn s.1):=by
 have:=(fn0_eq h).2
 intro i hi
 have:i=0:=by simpa using hi
 subst this
 exact ⟨⟨by simp,by simp;omega⟩,fun h=>absurd h (Nat.lt_irrefl _)⟩
theorem fv_set {s:Sy} {X:List (List Int)} (h:valid s) (h0:X.getD 0 []=[(fn0 s:Int)]) {i:Nat} (hc:∀j,j<i→fvC s X j):lset (X.getD i []) (szn s.1):=by
 cases i with
 | zero=>rw [h0];exact one_lset h
 | succ i=>exact (hc i (Nat.lt_succ_self _)).1
theorem diff_pos {a b:List Int} (ha:lset a 400):0<(upTo (fun k=>dB ((k:Int)∈a)&&!dB ((k:Int)∈b)) 400).length↔¬ ∀x∈a,x∈b:=by
 rw [upTo_pos]
 constructor
 ·rintro ⟨k,-,h⟩ hall
  simp only [Bool.and_eq_true,Bool.not_eq_true'] at h
  have h1:=dB_iff.1 h.1
  rw [dB_t (hall _ h1)] at h;simp at h
 ·intro h
  obtain ⟨x,h1,h2⟩:∃x,x∈a∧x∉b:=Classical.byContradiction fun g=>h fun x hx=>Classical.byContradiction fun g2=>g ⟨x,hx,g2⟩
  have h3:=lset_mem ha x h1
  refine ⟨x.toNat,by omega,?_⟩
  rw [show ((x.toNat:Nat):Int)=x by omega,dB_t h1,dB_f h2];rfl
theorem SmRow {X:List (List Int)} (hr:∀r∈X,r.length≤401) (i:Nat):(X.getD i []).length≤401:=by
 by_cases hi:i<X.length
 ·exact hr _ (getD_mem hi)
 ·rw [List.getD_eq_getElem?_getD,List.getElem?_eq_none (by omega)];simp
theorem C_spec_FramesValid (s:Sy) (X:List (List Int)) (hs:FewSy s) (hX:X.length≤1000) (hr:∀r∈X,r.length≤401) (Q:List AV→Prop):mc.C f_spec_FramesValid [⟨L V3,s.1⟩,⟨L TR,s.2⟩,⟨L (L I),X⟩] Q=Q [⟨B,dB (fvs s X)⟩]:=by
 refine Mc.Ends.c (mc.ends F_spec_FramesValid ?_)
 generalize hK:dB (fvs s X)=K
 by_cases hv:valid s
 ·have hz:=szn_eq hv
  obtain ⟨hfe,hfn⟩:=fn0_eq hv
  have hrw:=SmRow hr
  by_cases hl0:X.length=0
  ·have hk:K=false:=by rw [←hK];exact dB_f fun g=>by have:=g.2.1.1;omega
   rw [hk]
   simp+contextual(maxSteps:=1000000)(disch:=omega)only[↓Sd,↓So,↓Sk,↓den,↓denA,Sa,Sb,Sc,Se,O1.d,O2.d,O3.d,cmI,arI,envOf,putN,↓reduceIte,Nat.reduceLT,Nat.reduceSub,Nat.reduceAdd,Int.reduceAdd,Int.reduceEq,Int.reduceLT,Int.reduceLE,arr_pos,arr_neg,tr_spec_FramesValid,C_spec_SystemValid s hs,hv,decide_true,Bool.not_true,hl0]
  ·by_cases hl1:X.length≤30
   ·by_cases h0:X.getD 0 []=[(fn0 s:Int)]
    ·simp+contextual(maxSteps:=1000000)(disch:=omega)only[↓Sd,↓So,↓Sk,↓den,↓denA,Sa,Sb,Sc,Se,O1.d,O2.d,O3.d,cmI,arI,envOf,putN,↓reduceIte,Nat.reduceLT,Nat.reduceSub,Nat.reduceAdd,Int.reduceAdd,Int.reduceEq,Int.reduceLT,Int.reduceLE,arr_pos,arr_neg,tr_spec_FramesValid,C_spec_SystemValid s hs,hv,decide_true,Bool.not_true,hl0,C_spec_FirstState s hs hv,C_spec_l4Number s _ hv.1.2 hv.2.2.1 (fst0_in hv.2.2.1),hfe,C_spec_l2Same _ [(fn0 s:Int)] (show (X.getD 0 []).length≤1048576 by have:=hrw 0;omega) (by simp),decide_eq_true h0]
     refine mc.lp_inv (fun k us=>∃i:Nat,us=[⟨L (L I),X⟩,⟨I,((i+1:Nat):Int)⟩,⟨L V3,s.1⟩,⟨L TR,s.2⟩]∧i<X.length∧(∀j,j<i→fvC s X j)∧k=X.length - i) _ _ ⟨0,rfl,by omega,fun j hj=>absurd hj (Nat.not_lt_zero _),rfl⟩ ?_
     rintro k us ⟨i,rfl,hi0,hI,rfl⟩
     obtain ⟨m,hm⟩:∃m,i+1=m:=⟨_,rfl⟩
     have hmi:(m:Int) - 1=(i:Int):=by omega
     have hno:¬fvC s X i→i+1<X.length→K=false:=fun h1 h2=>by rw [←hK];exact dB_f fun g=>h1 (g.2.2.2 i h2)
     have hpl:=fv_set hv h0 hI
     have hp4:lset (X.getD i []) 400:=lset_mono hpl (by omega)
     have hpV:setV s (X.getD i []):=⟨hv,by rw [←hz.1];exact hpl⟩
     have hnx:=nextN_set (l:=X.getD i []) hv
     have hcC:fvC s X i↔lset (X.getD m []) (szn s.1)∧(∀x∈X.getD i [],x∈X.getD m [])∧∀x∈nextN s (X.getD i []),x∈X.getD m []:=by unfold fvC;rw [hm]
     rw [hm] at hno ⊢
     by_cases hi:m<X.length
     ·have hrm:=hrw m
      have hri:=hrw i
      by_cases c1:lset (X.getD m []) (szn s.1)
      ·have hm4:lset (X.getD m []) 400:=lset_mono c1 (by omega)
       have hcV:setV s (X.getD m []):=⟨hv,by rw [←hz.1];exact c1⟩
       have d1:=diff_pos (b:=X.getD m []) hp4
       by_cases c2:∀x∈X.getD i [],x∈X.getD m []
       ·have d1':¬0<(upTo (fun k=>dB ((k:Int)∈X.getD i [])&&!dB ((k:Int)∈X.getD m [])) 400).length:=fun g=>d1.1 g c2
        have d2:=diff_pos (b:=X.getD m []) hnx
        by_cases c3:∀x∈nextN s (X.getD i []),x∈X.getD m []
        ·have d2':¬0<(upTo (fun k=>dB ((k:Int)∈nextN s (X.getD i []))&&!dB ((k:Int)∈X.getD m [])) 400).length:=fun g=>d2.1 g c3
         generalize hu1:(upTo (fun k=>dB ((k:Int)∈X.getD i [])&&!dB ((k:Int)∈X.getD m [])) 400)=u1 at d1'
         generalize hu2:(upTo (fun k=>dB ((k:Int)∈nextN s (X.getD i []))&&!dB ((k:Int)∈X.getD m [])) 400)=u2 at d2'
         simp+contextual(maxSteps:=1000000)(disch:=omega)only[↓Sd,↓So,↓Sk,↓den,↓denA,Sa,Sb,Sc,Se,O1.d,O2.d,O3.d,cmI,arI,envOf,putN,↓reduceIte,Nat.reduceLT,Nat.reduceSub,Nat.reduceAdd,Int.reduceAdd,Int.reduceEq,Int.reduceLT,Int.reduceLE,arr_pos,arr_neg,C_spec_SetValid s _ hs (show (X.getD m []).length≤1048576 by omega),decide_eq_true hcV,Bool.not_true,hmi,C_spec_SetWithout _ _ hp4 hm4,hu1,C_spec_NextNumbers s _ hs (show (X.getD i []).length≤1048576 by omega),if_pos hpV,C_spec_SetWithout _ _ hnx hm4,hu2]
         refine ⟨_,by omega,i+1,by simp [←hm],by omega,fun j hj=>?_,rfl⟩
         by_cases hji:j=i
         ·rw [hji];exact hcC.2 ⟨c1,c2,c3⟩
         ·exact hI j (by omega)
        ·have d2':=d2.2 c3
         rw [hno (fun g=>c3 (hcC.1 g).2.2) hi]
         generalize hu1:(upTo (fun k=>dB ((k:Int)∈X.getD i [])&&!dB ((k:Int)∈X.getD m [])) 400)=u1 at d1'
         generalize hu2:(upTo (fun k=>dB ((k:Int)∈nextN s (X.getD i []))&&!dB ((k:Int)∈X.getD m [])) 400)=u2 at d2'
         simp+contextual(maxSteps:=1000000)(disch:=omega)only[↓Sd,↓So,↓Sk,↓den,↓denA,Sa,Sb,Sc,Se,O1.d,O2.d,O3.d,cmI,arI,envOf,putN,↓reduceIte,Nat.reduceLT,Nat.reduceSub,Nat.reduceAdd,Int.reduceAdd,Int.reduceEq,Int.reduceLT,Int.reduceLE,arr_pos,arr_neg,C_spec_SetValid s _ hs (show (X.getD m []).length≤1048576 by omega),decide_eq_true hcV,Bool.not_true,hmi,C_spec_SetWithout _ _ hp4 hm4,hu1,C_spec_NextNumbers s _ hs (show (X.getD i []).length≤1048576 by omega),if_pos hpV,C_spec_SetWithout _ _ hnx hm4,hu2]
       ·have d1':=d1.2 c2
        rw [hno (fun g=>c2 (hcC.1 g).2.1) hi]
        generalize hu1:(upTo (fun k=>dB ((k:Int)∈X.getD i [])&&!dB ((k:Int)∈X.getD m [])) 400)=u1 at d1'
        simp+contextual(maxSteps:=1000000)(disch:=omega)only[↓Sd,↓So,↓Sk,↓den,↓denA,Sa,Sb,Sc,Se,O1.d,O2.d,O3.d,cmI,arI,envOf,putN,↓reduceIte,Nat.reduceLT,Nat.reduceSub,Nat.reduceAdd,Int.reduceAdd,Int.reduceEq,Int.reduceLT,Int.reduceLE,arr_pos,arr_neg,C_spec_SetValid s _ hs (show (X.getD m []).length≤1048576 by omega),decide_eq_true hcV,Bool.not_true,hmi,C_spec_SetWithout _ _ hp4 hm4,hu1]
      ·have hcV:¬setV s (X.getD m []):=fun g=>c1 g.n
       rw [hno (fun g=>c1 (hcC.1 g).1) hi]
       simp+contextual(maxSteps:=1000000)(disch:=omega)only[↓Sd,↓So,↓Sk,↓den,↓denA,Sa,Sb,Sc,Se,O1.d,O2.d,O3.d,cmI,arI,envOf,putN,↓reduceIte,Nat.reduceLT,Nat.reduceSub,Nat.reduceAdd,Int.reduceAdd,Int.reduceEq,Int.reduceLT,Int.reduceLE,arr_pos,arr_neg,C_spec_SetValid s _ hs (show (X.getD m []).length≤1048576 by omega),decide_eq_false hcV,Bool.not_false]
     ·have hk:K=true:=by
       rw [←hK]
       refine dB_t ⟨hv,by omega,h0,fun j hj=>?_⟩
       exact hI j (by omega)
      rw [hk]
      simp+contextual(maxSteps:=1000000)(disch:=omega)only[↓Sd,↓So,↓Sk,↓den,↓denA,Sa,Sb,Sc,Se,O1.d,O2.d,O3.d,cmI,arI,envOf,putN,↓reduceIte,Nat.reduceLT,Nat.reduceSub,Nat.reduceAdd,Int.reduceAdd,Int.reduceEq,Int.reduceLT,Int.reduceLE,arr_pos,arr_neg,]
    ·have hk:K=false:=by rw [←hK];exact dB_f fun g=>h0 g.2.2.1
     rw [hk]
     simp+contextual(maxSteps:=1000000)(disch:=omega)only[↓Sd,↓So,↓Sk,↓den,↓denA,Sa,Sb,Sc,Se,O1.d,O2.d,O3.d,cmI,arI,envOf,putN,↓reduceIte,Nat.reduceLT,Nat.reduceSub,Nat.reduceAdd,Int.reduceAdd,Int.reduceEq,Int.reduceLT,Int.reduceLE,arr_pos,arr_neg,tr_spec_FramesValid,C_spec_SystemValid s hs,hv,decide_true,Bool.not_true,hl0,C_spec_FirstState s hs hv,C_spec_l4Number s _ hv.1.2 hv.2.2.1 (fst0_in hv.2.2.1),hfe,C_spec_l2Same _ [(fn0 s:Int)] (show (X.getD 0 []).length≤1048576 by have:=hrw 0;omega) (by simp),decide_eq_false h0,Bool.not_false]
   ·have hk:K=false:=by rw [←hK];exact dB_f fun g=>hl1 g.2.1.2
    rw [hk]
    simp+contextual(maxSteps:=1000000)(disch:=omega)only[↓Sd,↓So,↓Sk,↓den,↓denA,Sa,Sb,Sc,Se,O1.d,O2.d,O3.d,cmI,arI,envOf,putN,↓reduceIte,Nat.reduceLT,Nat.reduceSub,Nat.reduceAdd,Int.reduceAdd,Int.reduceEq,Int.reduceLT,Int.reduceLE,arr_pos,arr_neg,tr_spec_FramesValid,C_spec_SystemValid s hs,hv,decide_true,Bool.not_true,hl0]
 ·have hk:K=false:=by rw [←hK];exact dB_f fun g=>hv g.1
  rw [hk]
  simp+contextual(maxSteps:=1000000)(disch:=omega)only[↓Sd,↓So,↓Sk,↓den,↓denA,Sa,Sb,Sc,Se,O1.d,O2.d,O3.d,cmI,arI,envOf,putN,↓reduceIte,Nat.reduceLT,Nat.reduceSub,Nat.reduceAdd,Int.reduceAdd,Int.reduceEq,Int.reduceLT,Int.reduceLE,arr_pos,arr_neg,tr_spec_FramesValid,C_spec_SystemValid s hs,hv,decide_false,Bool.not_false]
theorem C_impl_FramesValid (s:Sy) (X:List (List Int)) (hs:FewSy s) (hX:X.length≤1000) (hr:∀r∈X,r.length≤401) (Q:List AV→Prop):mc.C f_impl_FramesValid [⟨L V3,s.1⟩,⟨L TR,s.2⟩,⟨L (L I),X⟩] Q=Q [⟨B,dB (fvs s X)⟩]:=by
 refine Mc.Ends.c (mc.ends F_impl_FramesValid ?_)
 generalize hK:dB (fvs s X)=K
 by_cases hv:valid s
 ·have hz:=szn_eq hv
  obtain ⟨hfe,hfn⟩:=fn0_eq hv
  have hrw:=SmRow hr
  by_cases hl:(1:Int)≤(X.length:Int)∧(X.length:Int)≤30
  ·by_cases h0:X.getD 0 []=[(fn0 s:Int)]
   ·obtain ⟨N,hN⟩:∃N,X.length=N+1:=⟨X.length - 1,by omega⟩
    have hY1:(X.drop 1).length=N:=by simp [hN]
    have hY2:∀i,(X.drop 1).getD i []=X.getD (i+1) []:=fun i=>by simp [List.getD_eq_getElem?_getD,Nat.add_comm]
    simp+contextual(maxSteps:=1000000)(disch:=omega)only[↓Sd,↓So,↓Sk,↓den,↓denA,Sa,Sb,Sc,Se,O1.d,O2.d,O3.d,cmI,arI,envOf,putN,↓reduceIte,Nat.reduceLT,Nat.reduceSub,Nat.reduceAdd,Int.reduceAdd,Int.reduceEq,Int.reduceLT,Int.reduceLE,arr_pos,arr_neg,tr_impl_FramesValid,C_impl_SystemValid s hs,hv,decide_true,Bool.not_true,C_impl_in,decide_eq_true hl,C_impl_first s hv.1.2,C_impl_number s _ hv.1.2 hv.2.2.1 (fst0_in hv.2.2.1),hfe,C_slices_Equal _ [(fn0 s:Int)] (show (X.getD 0 []).length≤1048576 by have:=hrw 0;omega) (by simp),decide_eq_true h0,C_impl_nexts s hv]
    generalize X.drop 1=Y at hY1 hY2
    refine mc.lp_for Unit (fun i _=>[⟨L (L I),X⟩,⟨L (L I),Y⟩,⟨I,(N:Int)⟩,⟨I,(i:Int)⟩,⟨L V3,s.1⟩,⟨L TR,s.2⟩,⟨L (L I),steps s⟩]) (fun i _=>∀j,j<i→fvC s X j) N 0 () _ (by rw [hY1];rfl) (Nat.zero_le _) (fun j hj=>absurd hj (Nat.not_lt_zero _)) ?_ ?_
    ·rintro i _ hi hI
     have hno:¬fvC s X i→K=false:=fun h1=>by rw [←hK];exact dB_f fun g=>h1 (g.2.2.2 i (by omega))
     have hpl:=fv_set hv h0 hI
     have hpV:setV s (X.getD i []):=⟨hv,by rw [←hz.1];exact hpl⟩
     have hpm:=hpV.mem
     have hpn:=hpV.len
     have hrm:=hrw (i+1)
     simp+contextual(maxSteps:=1000000)(disch:=omega)only[↓Sd,↓So,↓Sk,↓den,↓denA,Sa,Sb,Sc,Se,O1.d,O2.d,O3.d,cmI,arI,envOf,putN,↓reduceIte,Nat.reduceLT,Nat.reduceSub,Nat.reduceAdd,Int.reduceAdd,Int.reduceEq,Int.reduceLT,Int.reduceLE,arr_pos,arr_neg,hY1]
     refine mc.wp_join (fun us=>us=[⟨L (L I),X⟩,⟨L (L I),Y⟩,⟨I,(N:Int)⟩,⟨I,(i:Int)⟩,⟨L V3,s.1⟩,⟨L TR,s.2⟩,⟨L (L I),steps s⟩]∧fvC s X i) ?_ ?_
     ·by_cases c1:lset (X.getD (i+1) []) (szn s.1)
      ·have hcV:setV s (X.getD (i+1) []):=⟨hv,by rw [←hz.1];exact c1⟩
       have hcm:=hcV.mem
       have hcl:=hcV.len
       obtain ⟨nx,hnx⟩:∃nx,X.getD (i+1) []=nx:=⟨_,rfl⟩
       obtain ⟨pv,hpv⟩:∃pv,X.getD i []=pv:=⟨_,rfl⟩
       have hfv:fvC s X i↔(∀x∈pv,x∈nx)∧∀x∈nextN s pv,x∈nx:=by unfold fvC;rw [hnx,hpv];exact ⟨fun g=>g.2,fun g=>⟨by rw [←hnx];exact c1,g⟩⟩
       rw [hnx] at hcV hcm hcl c1
       rw [hpv] at hpV hpm hpn hpl
       have hc2:lset nx (sz s.1):=hcV.2
       have e:upTo (ovr (steps s) pv) (szn s.1)=nextN s pv:=upTo_congr fun k _=>ovr_mem hpm
       have hXm:∀x∈nextN s pv,0≤x∧x<(szn s.1:Int):=fun x hx=>by obtain ⟨k,h1,rfl,_⟩:=upTo_mem.1 hx;omega
       have hXl:(nextN s pv).length≤szn s.1:=upTo_len
       simp+contextual(maxSteps:=1000000)(disch:=omega)only[↓Sd,↓So,↓Sk,↓den,↓denA,Sa,Sb,Sc,Se,O1.d,O2.d,O3.d,cmI,arI,envOf,putN,↓reduceIte,Nat.reduceLT,Nat.reduceSub,Nat.reduceAdd,Int.reduceAdd,Int.reduceEq,Int.reduceLT,Int.reduceLE,arr_pos,arr_neg,hY1,hY2,hnx,C_impl_size s.1 hv.1.2 hv.2.2.1,C_impl_setOk nx (sz s.1) (by omega) (by omega),decide_eq_true hc2,C_impl_marks_i nx (sz s.1) (szn s.1) hz.1.symm (by omega) (by omega) hcm,hpv]
       refine lp_all (fun j=>[⟨L I,pv⟩,⟨I,(pv.length:Int)⟩,⟨I,(j:Int)⟩,⟨L (L I),X⟩,⟨I,(i:Int)⟩,⟨L (L I),Y⟩,⟨I,(N:Int)⟩,⟨I,(i:Int)⟩,⟨L B,tab (fun k=>dB ((k:Int)∈nx)) (szn s.1)⟩,⟨L V3,s.1⟩,⟨L TR,s.2⟩,⟨L (L I),steps s⟩]) (fun j=>pv.getD j 0∈nx) pv.length _ rfl ?_ ?_
       ·intro j hj
        have h3:=hpm _ (getD_mem (d:=0) hj)
        obtain ⟨x,hx⟩:∃x:Nat,pv.getD j 0=x:=⟨(pv.getD j 0).toNat,by omega⟩
        have hxn:x<szn s.1:=by omega
        by_cases c2:(x:Int)∈nx
        ·simp+contextual(maxSteps:=1000000)(disch:=omega)only[↓Sd,↓So,↓Sk,↓den,↓denA,Sa,Sb,Sc,Se,O1.d,O2.d,O3.d,cmI,arI,envOf,putN,↓reduceIte,Nat.reduceLT,Nat.reduceSub,Nat.reduceAdd,Int.reduceAdd,Int.reduceEq,Int.reduceLT,Int.reduceLE,arr_pos,arr_neg,hx,Int.toNat_natCast,tab_len,tab_get hxn,dB_t c2]
         exact c2
        ·rw [hno fun g=>c2 (by rw [←hx];exact (hfv.1 g).1 _ (getD_mem hj))]
         simp+contextual(maxSteps:=1000000)(disch:=omega)only[↓Sd,↓So,↓Sk,↓den,↓denA,Sa,Sb,Sc,Se,O1.d,O2.d,O3.d,cmI,arI,envOf,putN,↓reduceIte,Nat.reduceLT,Nat.reduceSub,Nat.reduceAdd,Int.reduceAdd,Int.reduceEq,Int.reduceLT,Int.reduceLE,arr_pos,arr_neg,hx,Int.toNat_natCast,tab_len,tab_get hxn,dB_f c2]
       ·intro hall
        have hall:=all_get (d:=0) hall
        simp+contextual(maxSteps:=1000000)(disch:=omega)only[↓Sd,↓So,↓Sk,↓den,↓denA,Sa,Sb,Sc,Se,O1.d,O2.d,O3.d,cmI,arI,envOf,putN,↓reduceIte,Nat.reduceLT,Nat.reduceSub,Nat.reduceAdd,Int.reduceAdd,Int.reduceEq,Int.reduceLT,Int.reduceLE,arr_pos,arr_neg,hpv,C_impl_over (steps s) pv (szn s.1) (by omega) (steps_tbl hv) (by omega) hpm,e]
        refine lp_all (fun j=>[⟨I,((nextN s pv).length:Int)⟩,⟨I,(j:Int)⟩,⟨L (L I),X⟩,⟨L (L I),Y⟩,⟨I,(N:Int)⟩,⟨I,(i:Int)⟩,⟨B,false⟩,⟨L I,nextN s pv⟩,⟨L B,tab (fun k=>dB ((k:Int)∈nx)) (szn s.1)⟩,⟨L V3,s.1⟩,⟨L TR,s.2⟩,⟨L (L I),steps s⟩]) (fun j=>(nextN s pv).getD j 0∈nx) (nextN s pv).length _ rfl ?_ ?_
        ·intro j hj
         have h3:=hXm _ (getD_mem (d:=0) hj)
         obtain ⟨x,hx⟩:∃x:Nat,(nextN s pv).getD j 0=x:=⟨((nextN s pv).getD j 0).toNat,by omega⟩
         have hxn:x<szn s.1:=by omega
         by_cases c2:(x:Int)∈nx
         ·simp+contextual(maxSteps:=1000000)(disch:=omega)only[↓Sd,↓So,↓Sk,↓den,↓denA,Sa,Sb,Sc,Se,O1.d,O2.d,O3.d,cmI,arI,envOf,putN,↓reduceIte,Nat.reduceLT,Nat.reduceSub,Nat.reduceAdd,Int.reduceAdd,Int.reduceEq,Int.reduceLT,Int.reduceLE,arr_pos,arr_neg,hx,Int.toNat_natCast,tab_len,tab_get hxn,dB_t c2]
          exact c2
         ·rw [hno fun g=>c2 (by rw [←hx];exact (hfv.1 g).2 _ (getD_mem hj))]
          simp+contextual(maxSteps:=1000000)(disch:=omega)only[↓Sd,↓So,↓Sk,↓den,↓denA,Sa,Sb,Sc,Se,O1.d,O2.d,O3.d,cmI,arI,envOf,putN,↓reduceIte,Nat.reduceLT,Nat.reduceSub,Nat.reduceAdd,Int.reduceAdd,Int.reduceEq,Int.reduceLT,Int.reduceLE,arr_pos,arr_neg,hx,Int.toNat_natCast,tab_len,tab_get hxn,dB_f c2]
        ·intro hall2
         have hall2:=all_get (d:=0) hall2
         simp+contextual(maxSteps:=1000000)(disch:=omega)only[↓Sd,↓So,↓Sk,↓den,↓denA,Sa,Sb,Sc,Se,O1.d,O2.d,O3.d,cmI,arI,envOf,putN,↓reduceIte,Nat.reduceLT,Nat.reduceSub,Nat.reduceAdd,Int.reduceAdd,Int.reduceEq,Int.reduceLT,Int.reduceLE,arr_pos,arr_neg,]
         exact ⟨fun g=>by simp at g,fun _=>hfv.2 ⟨hall,hall2⟩⟩
      ·have hc2:¬lset (X.getD (i+1) []) (sz s.1):=fun g=>c1 (by rw [←hz.1] at g;exact g)
       rw [hno fun g=>c1 g.1]
       simp+contextual(maxSteps:=1000000)(disch:=omega)only[↓Sd,↓So,↓Sk,↓den,↓denA,Sa,Sb,Sc,Se,O1.d,O2.d,O3.d,cmI,arI,envOf,putN,↓reduceIte,Nat.reduceLT,Nat.reduceSub,Nat.reduceAdd,Int.reduceAdd,Int.reduceEq,Int.reduceLT,Int.reduceLE,arr_pos,arr_neg,hY1,hY2,C_impl_size s.1 hv.1.2 hv.2.2.1,C_impl_setOk (X.getD (i+1) []) (sz s.1) (by omega) (by omega),decide_eq_false hc2]
     ·rintro us ⟨rfl,hc⟩
      simp+contextual(maxSteps:=1000000)(disch:=omega)only[↓Sd,↓So,↓Sk,↓den,↓denA,Sa,Sb,Sc,Se,O1.d,O2.d,O3.d,cmI,arI,envOf,putN,↓reduceIte,Nat.reduceLT,Nat.reduceSub,Nat.reduceAdd,Int.reduceAdd,Int.reduceEq,Int.reduceLT,Int.reduceLE,arr_pos,arr_neg,]
      intro j hj
      by_cases hji:j=i
      ·rw [hji];exact hc
      ·exact hI j (by omega)
    ·rintro _ hI
     have hk:K=true:=by
      rw [←hK]
      exact dB_t ⟨hv,by omega,h0,fun j hj=>hI j (by omega)⟩
     rw [hk]
     simp+contextual(maxSteps:=1000000)(disch:=omega)only[↓Sd,↓So,↓Sk,↓den,↓denA,Sa,Sb,Sc,Se,O1.d,O2.d,O3.d,cmI,arI,envOf,putN,↓reduceIte,Nat.reduceLT,Nat.reduceSub,Nat.reduceAdd,Int.reduceAdd,Int.reduceEq,Int.reduceLT,Int.reduceLE,arr_pos,arr_neg,]
   ·have hk:K=false:=by rw [←hK];exact dB_f fun g=>h0 g.2.2.1
    rw [hk]
    simp+contextual(maxSteps:=1000000)(disch:=omega)only[↓Sd,↓So,↓Sk,↓den,↓denA,Sa,Sb,Sc,Se,O1.d,O2.d,O3.d,cmI,arI,envOf,putN,↓reduceIte,Nat.reduceLT,Nat.reduceSub,Nat.reduceAdd,Int.reduceAdd,Int.reduceEq,Int.reduceLT,Int.reduceLE,arr_pos,arr_neg,tr_impl_FramesValid,C_impl_SystemValid s hs,hv,decide_true,Bool.not_true,C_impl_in,decide_eq_true hl,C_impl_first s hv.1.2,C_impl_number s _ hv.1.2 hv.2.2.1 (fst0_in hv.2.2.1),hfe,C_slices_Equal _ [(fn0 s:Int)] (show (X.getD 0 []).length≤1048576 by have:=hrw 0;omega) (by simp),decide_eq_false h0]
  ·have hk:K=false:=by rw [←hK];exact dB_f fun g=>hl (by have:=g.2.1;omega)
   rw [hk]
   simp+contextual(maxSteps:=1000000)(disch:=omega)only[↓Sd,↓So,↓Sk,↓den,↓denA,Sa,Sb,Sc,Se,O1.d,O2.d,O3.d,cmI,arI,envOf,putN,↓reduceIte,Nat.reduceLT,Nat.reduceSub,Nat.reduceAdd,Int.reduceAdd,Int.reduceEq,Int.reduceLT,Int.reduceLE,arr_pos,arr_neg,tr_impl_FramesValid,C_impl_SystemValid s hs,hv,decide_true,Bool.not_true,C_impl_in,decide_eq_false hl]
 ·have hk:K=false:=by rw [←hK];exact dB_f fun g=>hv g.1
  rw [hk]
  simp+contextual(maxSteps:=1000000)(disch:=omega)only[↓Sd,↓So,↓Sk,↓den,↓denA,Sa,Sb,Sc,Se,O1.d,O2.d,O3.d,cmI,arI,envOf,putN,↓reduceIte,Nat.reduceLT,Nat.reduceSub,Nat.reduceAdd,Int.reduceAdd,Int.reduceEq,Int.reduceLT,Int.reduceLE,arr_pos,arr_neg,tr_impl_FramesValid,C_impl_SystemValid s hs,hv,decide_false,Bool.not_false]
theorem C_impl_StepsTo_no (s:Sy) (hs:FewSy s) (hv:¬valid s) (Q:List AV→Prop):mc.C f_impl_StepsTo [⟨L V3,s.1⟩,⟨L TR,s.2⟩] Q=Q [⟨L I,[]⟩]:=by
 refine Mc.Ends.c (mc.ends F_impl_StepsTo ?_)
 simp+contextual(maxSteps:=1000000)(disch:=omega)only[↓Sd,↓So,↓Sk,↓den,↓denA,Sa,Sb,Sc,Se,O1.d,O2.d,O3.d,cmI,arI,envOf,putN,↓reduceIte,Nat.reduceLT,Nat.reduceSub,Nat.reduceAdd,Int.reduceAdd,Int.reduceEq,Int.reduceLT,Int.reduceLE,arr_pos,arr_neg,tr_impl_StepsTo,C_impl_SystemValid s hs,hv]
theorem fvs_lay {s:Sy} {X:List (List Int)} (h:fvs s X):∀i,i<X.length→∀k:Nat,k<szn s.1→Lay (steps s) [(fn0 s:Int)] i k→(k:Int)∈X.getD i []:=by
 intro i
 induction i with
 | zero=>intro _ k _ hk;rw [h.2.2.1];exact hk
 | succ i ih =>
  intro hi k hkn hk
  have hc:=h.2.2.2 i hi
  rcases hk with hk | ⟨a,ha,hs⟩
  ·exact hc.2.1 _ (ih (by omega) k hkn hk)
  ·have hv:=h.1
   have han:a<szn s.1:=by
    have hT:=(steps_tb8 hv).1.1
    refine Classical.byContradiction fun g=>?_
    rw [List.getD_eq_getElem?_getD,List.getElem?_eq_none (by omega)] at hs
    simp at hs
   have hz:=szn_eq hv
   have hset:lset (X.getD i []) (szn s.1):=fv_set hv h.2.2.1 fun j hj=>h.2.2.2 j (by omega)
   exact hc.2.2 _ ((nextN_mem ⟨hv,by rw [←hz.1];exact hset⟩).2 ⟨k,hkn,rfl,(a:Int),ih (by omega) a han ha,by rw [Int.toNat_natCast];exact hs⟩)
theorem fvs_clo {s:Sy} {X:List (List Int)} (h:fvs s X) {i:Nat} (ha:alike X i):clo s (X.getD i []):=by
 have hv:=h.1
 have hz:=szn_eq hv
 have hset:lset (X.getD i []) (szn s.1):=fv_set hv h.2.2.1 fun j hj=>h.2.2.2 j (by have:=ha.2.1;omega)
 obtain ⟨hfe,hfn⟩:=fn0_eq hv
 refine ⟨⟨hv,by rw [←hz.1];exact hset⟩,?_,?_⟩
 ·rw [hfe]
  refine fvs_lay h i (by have:=ha.2.1;omega) (fn0 s) hfn (Lay.up (d:=0) (by simp [Lay]) (Nat.zero_le _))
 ·intro x hx
  have:=(h.2.2.2 i ha.2.1).2.2 x hx
  rw [←ha.2.2] at this;exact this
theorem law_FnFrames (b:List Int) (hb:Byt b) (hl:Lt63 b):mc.C f_laws_FnFrames [⟨L U,b⟩] (·=[⟨B,true⟩]):=by
 refine mc.c_of F_laws_FnFrames ?_
 simp+contextual(maxSteps:=1000000)(disch:=omega)only[↓Sd,↓So,↓Sk,↓den,↓denA,Sa,Sb,Sc,Se,O1.d,O2.d,O3.d,cmI,arI,envOf,putN,↓reduceIte,Nat.reduceLT,Nat.reduceSub,Nat.reduceAdd,Int.reduceAdd,Int.reduceEq,Int.reduceLT,Int.reduceLE,arr_pos,arr_neg,tr_laws_FnFrames]
 intro _
 refine D_DrawFramesValid b hb hl fun s X hs hX hr=>?_
 have hs:=hs.few
 have hrw:=SmRow hr
 have hrw2:∀i,(X.getD i []).length≤1048576:=fun i=>by have:=hrw i;omega
 obtain ⟨E,hE,hEl,hEq⟩:∃E:List Int,(∀Q:List AV→Prop,mc.C f_impl_StepsTo [⟨L V3,s.1⟩,⟨L TR,s.2⟩] Q=Q [⟨L I,E⟩])∧E.length≤400∧(valid s→E=ecc s):=by
  by_cases hv:valid s
  ·have:=szn_eq hv
   refine ⟨ecc s,C_impl_StepsTo s hs hv,?_,fun _=>rfl⟩
   have:(ecc s).length=szn s.1:=tab_len
   omega
  ·exact ⟨[],C_impl_StepsTo_no s hs hv,by simp,fun g=>absurd g hv⟩
 simp+contextual(maxSteps:=1000000)(disch:=omega)only[↓Sd,↓So,↓Sk,↓den,↓denA,Sa,Sb,Sc,Se,O1.d,O2.d,O3.d,cmI,arI,envOf,putN,↓reduceIte,Nat.reduceLT,Nat.reduceSub,Nat.reduceAdd,Int.reduceAdd,Int.reduceEq,Int.reduceLT,Int.reduceLE,arr_pos,arr_neg,C_impl_FramesValid s X hs (by omega) hr,C_spec_FramesValid s X hs (by omega) hr,C_impl_FixedFrame X (by omega) hrw2,C_spec_FixedFrame X (by omega) hrw2,hE]
 refine mc.lp_for Unit (fun i _=>[⟨L (L I),X⟩,⟨B,dB (fvs s X)⟩,⟨I,(E.length:Int)⟩,⟨I,(i:Int)⟩,⟨L V3,s.1⟩,⟨L TR,s.2⟩,⟨L I,E⟩]) (fun _ _=>True) E.length 0 () _ rfl (Nat.zero_le _) trivial ?_ ?_
 ·rintro k _ hk -
  simp+contextual(maxSteps:=1000000)(disch:=omega)only[↓Sd,↓So,↓Sk,↓den,↓denA,Sa,Sb,Sc,Se,O1.d,O2.d,O3.d,cmI,arI,envOf,putN,↓reduceIte,Nat.reduceLT,Nat.reduceSub,Nat.reduceAdd,Int.reduceAdd,Int.reduceEq,Int.reduceLT,Int.reduceLE,arr_pos,arr_neg,]
  refine mc.lp_for Unit (fun i _=>[⟨L (L I),X⟩,⟨B,dB (fvs s X)⟩,⟨I,(k:Int)⟩,⟨I,E.getD k 0⟩,⟨I,(E.length:Int)⟩,⟨I,(k:Int)⟩,⟨I,(X.length:Int)⟩,⟨I,(i:Int)⟩,⟨L V3,s.1⟩,⟨L TR,s.2⟩,⟨L I,E⟩]) (fun _ _=>True) X.length 0 () _ rfl (Nat.zero_le _) trivial ?_ ?_
  ·rintro i _ hi -
   by_cases hf:fvs s X
   ·by_cases h1:0≤E.getD k 0
    ·by_cases h2:E.getD k 0≤(i:Int)
     ·have hv:=hf.1
      have hEc:=hEq hv
      have hkn:k<szn s.1:=by have:(ecc s).length=szn s.1:=tab_len;rw [hEc] at hk;omega
      have hlay:Lay (steps s) [(fn0 s:Int)] i k:=by
       refine dst_le.2 ?_
       have:E.getD k 0=dst (steps s) [(fn0 s:Int)] k:=by rw [hEc,ecc,(fn0_eq hv).1];exact tab_get hkn
       rw [←this];exact ⟨h1,h2⟩
      simp+contextual(maxSteps:=1000000)(disch:=omega)only[↓Sd,↓So,↓Sk,↓den,↓denA,Sa,Sb,Sc,Se,O1.d,O2.d,O3.d,cmI,arI,envOf,putN,↓reduceIte,Nat.reduceLT,Nat.reduceSub,Nat.reduceAdd,Int.reduceAdd,Int.reduceEq,Int.reduceLT,Int.reduceLE,arr_pos,arr_neg,↓wpJoin,dB_t hf,C_laws_wcHas (X.getD i []) (k:Int) (hrw2 i),dB_t (fvs_lay hf i hi k hkn hlay)]
     ·simp+contextual(maxSteps:=1000000)(disch:=omega)only[↓Sd,↓So,↓Sk,↓den,↓denA,Sa,Sb,Sc,Se,O1.d,O2.d,O3.d,cmI,arI,envOf,putN,↓reduceIte,Nat.reduceLT,Nat.reduceSub,Nat.reduceAdd,Int.reduceAdd,Int.reduceEq,Int.reduceLT,Int.reduceLE,arr_pos,arr_neg,↓wpJoin,dB_t hf]
    ·simp+contextual(maxSteps:=1000000)(disch:=omega)only[↓Sd,↓So,↓Sk,↓den,↓denA,Sa,Sb,Sc,Se,O1.d,O2.d,O3.d,cmI,arI,envOf,putN,↓reduceIte,Nat.reduceLT,Nat.reduceSub,Nat.reduceAdd,Int.reduceAdd,Int.reduceEq,Int.reduceLT,Int.reduceLE,arr_pos,arr_neg,↓wpJoin,dB_t hf]
   ·simp+contextual(maxSteps:=1000000)(disch:=omega)only[↓Sd,↓So,↓Sk,↓den,↓denA,Sa,Sb,Sc,Se,O1.d,O2.d,O3.d,cmI,arI,envOf,putN,↓reduceIte,Nat.reduceLT,Nat.reduceSub,Nat.reduceAdd,Int.reduceAdd,Int.reduceEq,Int.reduceLT,Int.reduceLE,arr_pos,arr_neg,↓wpJoin,dB_f hf]
  ·rintro _ -
   simp+contextual(maxSteps:=1000000)(disch:=omega)only[↓Sd,↓So,↓Sk,↓den,↓denA,Sa,Sb,Sc,Se,O1.d,O2.d,O3.d,cmI,arI,envOf,putN,↓reduceIte,Nat.reduceLT,Nat.reduceSub,Nat.reduceAdd,Int.reduceAdd,Int.reduceEq,Int.reduceLT,Int.reduceLE,arr_pos,arr_neg,]
 ·rintro _ -
  by_cases hf:fvs s X
  ·rcases fxd_bd (X:=X) with hx | ⟨i,hx,ha⟩
   ·simp+contextual(maxSteps:=1000000)(disch:=omega)only[↓Sd,↓So,↓Sk,↓den,↓denA,Sa,Sb,Sc,Se,O1.d,O2.d,O3.d,cmI,arI,envOf,putN,↓reduceIte,Nat.reduceLT,Nat.reduceSub,Nat.reduceAdd,Int.reduceAdd,Int.reduceEq,Int.reduceLT,Int.reduceLE,arr_pos,arr_neg,C_impl_FixedFrame X (by omega) hrw2,dB_t hf,hx]
   ·have:=ha.2.1
    simp+contextual(maxSteps:=1000000)(disch:=omega)only[↓Sd,↓So,↓Sk,↓den,↓denA,Sa,Sb,Sc,Se,O1.d,O2.d,O3.d,cmI,arI,envOf,putN,↓reduceIte,Nat.reduceLT,Nat.reduceSub,Nat.reduceAdd,Int.reduceAdd,Int.reduceEq,Int.reduceLT,Int.reduceLE,arr_pos,arr_neg,C_impl_FixedFrame X (by omega) hrw2,dB_t hf,hx,C_impl_Closed s _ hs (hrw2 i),dB_t (fvs_clo hf ha)]
  ·simp+contextual(maxSteps:=1000000)(disch:=omega)only[↓Sd,↓So,↓Sk,↓den,↓denA,Sa,Sb,Sc,Se,O1.d,O2.d,O3.d,cmI,arI,envOf,putN,↓reduceIte,Nat.reduceLT,Nat.reduceSub,Nat.reduceAdd,Int.reduceAdd,Int.reduceEq,Int.reduceLT,Int.reduceLE,arr_pos,arr_neg,C_impl_FixedFrame X (by omega) hrw2,dB_f hf]
end Go.Proofs.YtlfinllnfggiiaaGreat
