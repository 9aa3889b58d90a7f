/- What the trees come to: plain mathematics; no condition. -/
import Derived.Test.YtifkpliahhodoaaGreatSmMath0
namespace Go.Proofs.YtifkpliahhodoaaGreat
open Go Go.Sm Go.Sm.Q
set_option linter.unusedSimpArgs false
set_option linter.unusedVariables false
theorem C_impl_nextStates (s:Sy) (st:List Int) (h:valid s) (hst:inR s.1 st) (Q:List AV→Prop):mc.C f_impl_nextStates [⟨L V3,s.1⟩,⟨L TR,s.2⟩,⟨L I,st⟩] Q=Q [⟨L (L I),nxt s st⟩]:=by
 have h8:=h.2.1
 have h5:=h.1.2
 refine Mc.Ends.c (mc.ends F_impl_nextStates ?_)
 simp+contextual(maxSteps:=1000000)(disch:=omega)only[↓Sd,↓So,↓Sk,↓den,↓denA,Sa,Sb,Sc,Se,O1.d,O2.d,O3.d,cmI,arI,envOf,putN,↓reduceIte,Nat.reduceLT,Nat.reduceSub,Nat.reduceAdd,Int.reduceAdd,Int.reduceEq,Int.reduceLT,Int.reduceLE,arr_pos,arr_neg,tr_impl_nextStates]
 refine mc.lp_for (List (List Int)) (fun i o=>[⟨L I,st⟩,⟨I,(s.2.length:Int)⟩,⟨I,(i:Int)⟩,⟨L V3,s.1⟩,⟨L TR,s.2⟩,⟨L (L I),o⟩]) (fun i o=>o=nxtN s st i) s.2.length 0 [] _ rfl (Nat.zero_le _) rfl ?_ ?_
 ·rintro i o hi rfl
  have h1:=@nxtN_len s st i
  have hin:∀x∈nxtN s st i,x.length≤1048576:=fun x hx=>by have:=(nxtN_in x hx).1;omega
  have hasc:=@nxtN_asc s st i
  simp+contextual(maxSteps:=1000000)(disch:=omega)only[↓Sd,↓So,↓Sk,↓den,↓denA,Sa,Sb,Sc,Se,O1.d,O2.d,O3.d,cmI,arI,envOf,putN,↓reduceIte,Nat.reduceLT,Nat.reduceSub,Nat.reduceAdd,Int.reduceAdd,Int.reduceEq,Int.reduceLT,Int.reduceLE,arr_pos,arr_neg,]
  refine mc.wp_join (fun us=>us=[⟨L I,st⟩,⟨I,(s.2.length:Int)⟩,⟨I,(i:Int)⟩,⟨L V3,s.1⟩,⟨L TR,s.2⟩,⟨L (L I),nxtN s st (i+1)⟩]) ?_ ?_
  ·simp+contextual(maxSteps:=1000000)(disch:=omega)only[↓Sd,↓So,↓Sk,↓den,↓denA,Sa,Sb,Sc,Se,O1.d,O2.d,O3.d,cmI,arI,envOf,putN,↓reduceIte,Nat.reduceLT,Nat.reduceSub,Nat.reduceAdd,Int.reduceAdd,Int.reduceEq,Int.reduceLT,Int.reduceLE,arr_pos,arr_neg,C_impl_use s st i h hst hi]
   simp only [nxtN]
   refine ⟨fun g=>?_,fun g=>?_⟩
   ·rw [if_neg g]
    have hu:(useM s.1 (s.2.getD i ([],[],[])) st).length≤1048576:=by have:=(useM_in g).1;omega
    generalize useM s.1 (s.2.getD i ([],[],[])) st=x at *
    generalize nxtN s st i=l at *
    refine mc.wp_join (fun us=>∃at':Nat,at'≤l.length∧(∀k,k<at'→cmpL (l.getD k []) x<0)∧(∀k,at'≤k→k<l.length→0≤cmpL (l.getD k []) x) ∧
     us=[⟨L I,st⟩,⟨I,(at':Int)⟩,⟨B,decide (at'<l.length∧cmpL (l.getD at' []) x=0)⟩,⟨I,(s.2.length:Int)⟩,⟨I,(i:Int)⟩,⟨L V3,s.1⟩,⟨L TR,s.2⟩,⟨L (L I),l⟩,⟨L I,x⟩]) ?_ ?_
    ·simp+contextual(maxSteps:=1000000)(disch:=omega)only[↓Sd,↓So,↓Sk,↓den,↓denA,Sa,Sb,Sc,Se,O1.d,O2.d,O3.d,cmI,arI,envOf,putN,↓reduceIte,Nat.reduceLT,Nat.reduceSub,Nat.reduceAdd,Int.reduceAdd,Int.reduceEq,Int.reduceLT,Int.reduceLE,arr_pos,arr_neg,]
     refine mc.lp_inv (fun k us=>∃lo hi:Nat,k=hi - lo∧lo≤hi∧hi≤l.length∧(∀k,k<lo→cmpL (l.getD k []) x<0)∧(∀k,hi≤k→k<l.length→0≤cmpL (l.getD k []) x) ∧
      us=[⟨I,(l.length:Int)⟩,⟨I,(lo:Int)⟩,⟨I,(hi:Int)⟩,⟨L I,st⟩,⟨I,(s.2.length:Int)⟩,⟨I,(i:Int)⟩,⟨L (L I),l⟩,⟨L I,x⟩,⟨L V3,s.1⟩,⟨L TR,s.2⟩]) l.length _ ⟨0,l.length,rfl,Nat.zero_le _,Nat.le_refl _,fun k hk=>absurd hk (Nat.not_lt_zero _),fun k h1 h2=>absurd h1 (by omega),rfl⟩ ?_
     rintro k us ⟨lo,hi,rfl,a1,a2,a3,a4,rfl⟩
     obtain ⟨m,hm⟩:∃m:Nat,((lo:Int)+hi) / 2=m:=⟨((lo+hi) / 2),by omega⟩
     have hc:∀n,n<l.length→∀Q,mc.C f_slices_Compare_Sint_int [⟨L I,l.getD n []⟩,⟨L I,x⟩] Q=Q [⟨I,cmpL (l.getD n []) x⟩]:=fun n hn Q=>C_slices_Compare _ _ (hin _ (getD_mem hn)) hu Q
     simp+contextual(maxSteps:=1000000)(disch:=omega)only[↓Sd,↓So,↓Sk,↓den,↓denA,Sa,Sb,Sc,Se,O1.d,O2.d,O3.d,cmI,arI,envOf,putN,↓reduceIte,Nat.reduceLT,Nat.reduceSub,Nat.reduceAdd,Int.reduceAdd,Int.reduceEq,Int.reduceLT,Int.reduceLE,arr_pos,arr_neg,hm]
     refine ⟨fun g1=>?_,fun g1=>⟨fun g2=>?_,fun g2=>?_⟩⟩
     ·rw [hc m (by omega)]
      simp+contextual(maxSteps:=1000000)(disch:=omega)only[↓Sd,↓So,↓Sk,↓den,↓denA,Sa,Sb,Sc,Se,O1.d,O2.d,O3.d,cmI,arI,envOf,putN,↓reduceIte,Nat.reduceLT,Nat.reduceSub,Nat.reduceAdd,Int.reduceAdd,Int.reduceEq,Int.reduceLT,Int.reduceLE,arr_pos,arr_neg,hm]
      refine ⟨fun g2=>⟨hi - (m+1),by omega,m+1,hi,rfl,by omega,a2,fun k hk=>?_,a4,rfl,rfl⟩,fun g2=>⟨m - lo,by omega,lo,m,rfl,by omega,by omega,a3,fun k hk1 hk2=>?_,rfl,rfl⟩⟩
      ·rcases Nat.lt_succ_iff_lt_or_eq.1 hk with h3 | rfl
       ·exact cmpL_trans (hasc.lt h3 (by omega)) g2
       ·exact g2
      ·rcases Nat.lt_or_eq_of_le hk1 with h3 | rfl
       ·exact Classical.byContradiction fun h4=>g2 (cmpL_trans (hasc.lt h3 hk2) (by omega))
       ·omega
     ·rw [hc lo (by omega)]
      simp+contextual(maxSteps:=1000000)(disch:=omega)only[↓Sd,↓So,↓Sk,↓den,↓denA,Sa,Sb,Sc,Se,O1.d,O2.d,O3.d,cmI,arI,envOf,putN,↓reduceIte,Nat.reduceLT,Nat.reduceSub,Nat.reduceAdd,Int.reduceAdd,Int.reduceEq,Int.reduceLT,Int.reduceLE,arr_pos,arr_neg,]
      refine ⟨lo,by omega,a3,fun k hk1 hk2=>a4 k (by omega) hk2,rfl,?_⟩
      have:lo<l.length:=by omega
      simp [this]
      rfl
     ·refine ⟨lo,by omega,a3,fun k hk1 hk2=>a4 k (by omega) hk2,rfl,?_⟩
      have:¬lo<l.length:=by omega
      simp [this]
    ·rintro _ ⟨at',b1,b2,b3,rfl⟩
     simp+contextual(maxSteps:=1000000)(disch:=omega)only[↓Sd,↓So,↓Sk,↓den,↓denA,Sa,Sb,Sc,Se,O1.d,O2.d,O3.d,cmI,arI,envOf,putN,↓reduceIte,Nat.reduceLT,Nat.reduceSub,Nat.reduceAdd,Int.reduceAdd,Int.reduceEq,Int.reduceLT,Int.reduceLE,arr_pos,arr_neg,]
     rw [putM_at b1 b2 b3]
     refine ⟨fun g1=>by rw [if_neg g1],fun g1=>by rw [if_pos g1]⟩
   ·rw [if_pos (by simpa using g)]
  ·rintro _ rfl
   simp+contextual(maxSteps:=1000000)(disch:=omega)only[↓Sd,↓So,↓Sk,↓den,↓denA,Sa,Sb,Sc,Se,O1.d,O2.d,O3.d,cmI,arI,envOf,putN,↓reduceIte,Nat.reduceLT,Nat.reduceSub,Nat.reduceAdd,Int.reduceAdd,Int.reduceEq,Int.reduceLT,Int.reduceLE,arr_pos,arr_neg,]
 ·rintro o rfl
  simp+contextual(maxSteps:=1000000)(disch:=omega)only[↓Sd,↓So,↓Sk,↓den,↓denA,Sa,Sb,Sc,Se,O1.d,O2.d,O3.d,cmI,arI,envOf,putN,↓reduceIte,Nat.reduceLT,Nat.reduceSub,Nat.reduceAdd,Int.reduceAdd,Int.reduceEq,Int.reduceLT,Int.reduceLE,arr_pos,arr_neg,C_impl_clone_Sint (nxtN s st s.2.length) (Nat.le_trans nxtN_len (by omega))]
  rfl
def fst0 (l:List Vr):List Int:=l.map (·.2.2)
theorem fst0_next {l:List Vr} {i:Nat} (hi:i<l.length):fst0 (l.take i)++[(l.getD i (0,0,0)).2.2]=fst0 (l.take (i+1)):=by
 rw [←take_next (d:=(0,0,0)) hi];simp [fst0]
theorem C_spec_FirstState (s:Sy) (hs:FewSy s) (hv:valid s) (Q:List AV→Prop):mc.C f_spec_FirstState [⟨L V3,s.1⟩,⟨L TR,s.2⟩] Q=Q [⟨L I,fst0 s.1⟩]:=by
 have h:=hv.1.2
 refine Mc.Ends.c (mc.ends F_spec_FirstState ?_)
 simp+contextual(maxSteps:=1000000)(disch:=omega)only[↓Sd,↓So,↓Sk,↓den,↓denA,Sa,Sb,Sc,Se,O1.d,O2.d,O3.d,cmI,arI,envOf,putN,↓reduceIte,Nat.reduceLT,Nat.reduceSub,Nat.reduceAdd,Int.reduceAdd,Int.reduceEq,Int.reduceLT,Int.reduceLE,arr_pos,arr_neg,tr_spec_FirstState]
 refine mc.wp_join (fun us=>us=[⟨L I,fst0 s.1⟩]) ?_ (by rintro _ rfl;simp+contextual(maxSteps:=1000000)(disch:=omega)only[↓Sd,↓So,↓Sk,↓den,↓denA,Sa,Sb,Sc,Se,O1.d,O2.d,O3.d,cmI,arI,envOf,putN,↓reduceIte,Nat.reduceLT,Nat.reduceSub,Nat.reduceAdd,Int.reduceAdd,Int.reduceEq,Int.reduceLT,Int.reduceLE,arr_pos,arr_neg,])
 simp+contextual(maxSteps:=1000000)(disch:=omega)only[↓Sd,↓So,↓Sk,↓den,↓denA,Sa,Sb,Sc,Se,O1.d,O2.d,O3.d,cmI,arI,envOf,putN,↓reduceIte,Nat.reduceLT,Nat.reduceSub,Nat.reduceAdd,Int.reduceAdd,Int.reduceEq,Int.reduceLT,Int.reduceLE,arr_pos,arr_neg,]
 refine mc.lp_for (List Int) (fun i o=>[⟨I,(i:Int)⟩,⟨L V3,s.1⟩,⟨L TR,s.2⟩,⟨L I,o⟩]) (fun i o=>o=fst0 (s.1.take i)) s.1.length 0 [] _ rfl (Nat.zero_le _) rfl ?_ ?_
 ·rintro i o hi rfl
  have h1:((fst0 (s.1.take i)).length:Int)≤5:=by simp [fst0];omega
  simp+contextual(maxSteps:=1000000)(disch:=omega)only[↓Sd,↓So,↓Sk,↓den,↓denA,Sa,Sb,Sc,Se,O1.d,O2.d,O3.d,cmI,arI,envOf,putN,↓reduceIte,Nat.reduceLT,Nat.reduceSub,Nat.reduceAdd,Int.reduceAdd,Int.reduceEq,Int.reduceLT,Int.reduceLE,arr_pos,arr_neg,C_spec_SystemValid s hs,hv]
  exact fst0_next hi
 ·rintro o rfl
  simp+contextual(maxSteps:=1000000)(disch:=omega)only[↓Sd,↓So,↓Sk,↓den,↓denA,Sa,Sb,Sc,Se,O1.d,O2.d,O3.d,cmI,arI,envOf,putN,↓reduceIte,Nat.reduceLT,Nat.reduceSub,Nat.reduceAdd,Int.reduceAdd,Int.reduceEq,Int.reduceLT,Int.reduceLE,arr_pos,arr_neg,]
  rw [List.take_length]
theorem C_spec_l3Copy (l:List Int) (hl:l.length≤1048576) (Q:List AV→Prop):mc.C f_spec_l3Copy [⟨L I,l⟩] Q=Q [⟨L I,l⟩]:=by
 refine Mc.Ends.c (mc.ends F_spec_l3Copy ?_)
 simp+contextual(maxSteps:=1000000)(disch:=omega)only[↓Sd,↓So,↓Sk,↓den,↓denA,Sa,Sb,Sc,Se,O1.d,O2.d,O3.d,cmI,arI,envOf,putN,↓reduceIte,Nat.reduceLT,Nat.reduceSub,Nat.reduceAdd,Int.reduceAdd,Int.reduceEq,Int.reduceLT,Int.reduceLE,arr_pos,arr_neg,tr_spec_l3Copy]
 refine mc.lp_for (List Int) (fun i o=>[⟨L I,l⟩,⟨I,(i:Int)⟩,⟨L I,o⟩]) (fun i o=>o=l.take i) l.length 0 [] _ rfl (Nat.zero_le _) rfl ?_ ?_
 ·rintro i o hi rfl
  have h1:((l.take i).length:Int)≤1048576:=by rw [List.length_take];omega
  simp+contextual(maxSteps:=1000000)(disch:=omega)only[↓Sd,↓So,↓Sk,↓den,↓denA,Sa,Sb,Sc,Se,O1.d,O2.d,O3.d,cmI,arI,envOf,putN,↓reduceIte,Nat.reduceLT,Nat.reduceSub,Nat.reduceAdd,Int.reduceAdd,Int.reduceEq,Int.reduceLT,Int.reduceLE,arr_pos,arr_neg,]
  exact take_next hi
 ·rintro o rfl
  simp+contextual(maxSteps:=1000000)(disch:=omega)only[↓Sd,↓So,↓Sk,↓den,↓denA,Sa,Sb,Sc,Se,O1.d,O2.d,O3.d,cmI,arI,envOf,putN,↓reduceIte,Nat.reduceLT,Nat.reduceSub,Nat.reduceAdd,Int.reduceAdd,Int.reduceEq,Int.reduceLT,Int.reduceLE,arr_pos,arr_neg,]
  rw [List.take_length]
def numN (l:List Vr) (st:List Int):Nat→Int
 | 0=>0
 | i+1=>numN l st i * wd (l.getD i (0,0,0))+st.getD i 0 - (l.getD i (0,0,0)).1
def num (l:List Vr) (st:List Int):Int:=numN l st l.length
theorem numN_bd {l:List Vr} {st:List Int} (hv:∀v∈l,vOk v) (hst:inR l st):∀{i:Nat},i≤l.length→0≤numN l st i∧numN l st i<sz (l.take i)
 | 0,_=>by simp [numN,sz]
 | i+1,hi=>by
  have ih:=numN_bd hv hst (i:=i) (by omega)
  have h1:=hst.2 i (by omega)
  have h2:=hv _ (getD_mem (d:=(0,0,0)) (show i<l.length by omega))
  have h3:=wd_ok h2
  rw [sz_next (d:=(0,0,0)) (by omega)]
  simp only [numN]
  have h4:0≤numN l st i * wd (l.getD i (0,0,0)):=Int.mul_nonneg ih.1 (by omega)
  have h5:(numN l st i+1) * wd (l.getD i (0,0,0))≤sz (l.take i) * wd (l.getD i (0,0,0)):=Int.mul_le_mul_of_nonneg_right (by omega) (by omega)
  rw [Int.add_mul,Int.one_mul] at h5
  have h6:wd (l.getD i (0,0,0))=(l.getD i (0,0,0)).2.1 - (l.getD i (0,0,0)).1+1:=rfl
  omega
theorem num_bd {l:List Vr} {st:List Int} (hv:∀v∈l,vOk v) (hst:inR l st):0≤num l st∧num l st<sz l:=by
 have:=numN_bd hv hst (Nat.le_refl l.length)
 rwa [List.take_length] at this
theorem C_spec_l4Number (s:Sy) (st:List Int) (h5:s.1.length≤5) (hv:∀v∈s.1,vOk v) (hst:inR s.1 st) (Q:List AV→Prop):mc.C f_spec_l4Number [⟨L V3,s.1⟩,⟨L TR,s.2⟩,⟨L I,st⟩] Q=Q [⟨I,num s.1 st⟩]:=by
 have hl:=hst.1
 refine Mc.Ends.c (mc.ends F_spec_l4Number ?_)
 simp+contextual(maxSteps:=1000000)(disch:=omega)only[↓Sd,↓So,↓Sk,↓den,↓denA,Sa,Sb,Sc,Se,O1.d,O2.d,O3.d,cmI,arI,envOf,putN,↓reduceIte,Nat.reduceLT,Nat.reduceSub,Nat.reduceAdd,Int.reduceAdd,Int.reduceEq,Int.reduceLT,Int.reduceLE,arr_pos,arr_neg,tr_spec_l4Number]
 refine mc.lp_for Int (fun i n=>[⟨L I,st⟩,⟨I,n⟩,⟨I,(i:Int)⟩,⟨L V3,s.1⟩,⟨L TR,s.2⟩]) (fun i n=>n=numN s.1 st i) st.length 0 0 _ rfl (Nat.zero_le _) rfl ?_ ?_
 ·rintro i n hi rfl
  have h1:=numN_bd hv hst (i:=i) (by omega)
  have h2:=sz_get (l:=s.1) h5 (show i≤s.1.length by omega) fun j hj=>hv _ (getD_mem (by omega))
  have h3:=hv _ (getD_mem (d:=(0,0,0)) (show i<s.1.length by omega))
  have h4:=hst.2 i (by omega)
  have h6:0≤numN s.1 st i * wd (s.1.getD i (0,0,0))∧numN s.1 st i * wd (s.1.getD i (0,0,0))≤64000000:=by
   have a:=wd_ok h3
   refine ⟨Int.mul_nonneg h1.1 (by omega),?_⟩
   have:=Int.mul_le_mul (show numN s.1 st i≤3200000 by omega) a.2 (by omega) (by omega)
   omega
  unfold vOk at h3
  unfold wd at h6
  simp+contextual(maxSteps:=1000000)(disch:=omega)only[↓Sd,↓So,↓Sk,↓den,↓denA,Sa,Sb,Sc,Se,O1.d,O2.d,O3.d,cmI,arI,envOf,putN,↓reduceIte,Nat.reduceLT,Nat.reduceSub,Nat.reduceAdd,Int.reduceAdd,Int.reduceEq,Int.reduceLT,Int.reduceLE,arr_pos,arr_neg,]
  rfl
 ·rintro n rfl
  simp+contextual(maxSteps:=1000000)(disch:=omega)only[↓Sd,↓So,↓Sk,↓den,↓denA,Sa,Sb,Sc,Se,O1.d,O2.d,O3.d,cmI,arI,envOf,putN,↓reduceIte,Nat.reduceLT,Nat.reduceSub,Nat.reduceAdd,Int.reduceAdd,Int.reduceEq,Int.reduceLT,Int.reduceLE,arr_pos,arr_neg,]
  rw [hl];rfl
theorem C_impl_number (s:Sy) (st:List Int) (h5:s.1.length≤5) (hv:∀v∈s.1,vOk v) (hst:inR s.1 st) (Q:List AV→Prop):mc.C f_impl_number [⟨L V3,s.1⟩,⟨L TR,s.2⟩,⟨L I,st⟩] Q=Q [⟨I,num s.1 st⟩]:=by
 have hl:=hst.1
 refine Mc.Ends.c (mc.ends F_impl_number ?_)
 simp+contextual(maxSteps:=1000000)(disch:=omega)only[↓Sd,↓So,↓Sk,↓den,↓denA,Sa,Sb,Sc,Se,O1.d,O2.d,O3.d,cmI,arI,envOf,putN,↓reduceIte,Nat.reduceLT,Nat.reduceSub,Nat.reduceAdd,Int.reduceAdd,Int.reduceEq,Int.reduceLT,Int.reduceLE,arr_pos,arr_neg,tr_impl_number]
 refine mc.lp_for Int (fun i n=>[⟨L I,st⟩,⟨I,n⟩,⟨L V3,s.1⟩,⟨I,(s.1.length:Int)⟩,⟨I,(i:Int)⟩]) (fun i n=>n=numN s.1 st i) s.1.length 0 0 _ rfl (Nat.zero_le _) rfl ?_ ?_
 ·rintro i n hi rfl
  have h1:=numN_bd hv hst (i:=i) (by omega)
  have h2:=sz_get (l:=s.1) h5 (show i≤s.1.length by omega) fun j hj=>hv _ (getD_mem (by omega))
  have h3:=hv _ (getD_mem (d:=(0,0,0)) (show i<s.1.length by omega))
  have h4:=hst.2 i (by omega)
  have h6:0≤numN s.1 st i * wd (s.1.getD i (0,0,0))∧numN s.1 st i * wd (s.1.getD i (0,0,0))≤64000000:=by
   have a:=wd_ok h3
   refine ⟨Int.mul_nonneg h1.1 (by omega),?_⟩
   have:=Int.mul_le_mul (show numN s.1 st i≤3200000 by omega) a.2 (by omega) (by omega)
   omega
  unfold vOk at h3
  unfold wd at h6
  simp+contextual(maxSteps:=1000000)(disch:=omega)only[↓Sd,↓So,↓Sk,↓den,↓denA,Sa,Sb,Sc,Se,O1.d,O2.d,O3.d,cmI,arI,envOf,putN,↓reduceIte,Nat.reduceLT,Nat.reduceSub,Nat.reduceAdd,Int.reduceAdd,Int.reduceEq,Int.reduceLT,Int.reduceLE,arr_pos,arr_neg,]
  rfl
 ·rintro n rfl
  simp+contextual(maxSteps:=1000000)(disch:=omega)only[↓Sd,↓So,↓Sk,↓den,↓denA,Sa,Sb,Sc,Se,O1.d,O2.d,O3.d,cmI,arI,envOf,putN,↓reduceIte,Nat.reduceLT,Nat.reduceSub,Nat.reduceAdd,Int.reduceAdd,Int.reduceEq,Int.reduceLT,Int.reduceLE,arr_pos,arr_neg,]
  rfl
def dg:List Vr→Int→Int×List Int
 | [],n=>(n,[])
 | v::l,n=>((dg l n).1 / wd v,(v.1+(dg l n).1 % wd v)::(dg l n).2)
def stAt (l:List Vr) (n:Int):List Int:=(dg l n).2
theorem dg_len:∀{l:List Vr} {n:Int},(dg l n).2.length=l.length
 | [],n=>rfl
 | v::l,n=>by simp [dg,dg_len]
theorem dg_bd {l:List Vr} {n:Int} (hv:∀v∈l,vOk v) (hn:0≤n∧n≤3200000):0≤(dg l n).1∧(dg l n).1≤3200000:=by
 induction l with
 | nil=>exact hn
 | cons v l ih =>
  have h:=ih fun v hv'=>hv v (List.mem_cons_of_mem _ hv')
  have h1:=wd_ok (hv v (List.mem_cons_self ..))
  simp only [dg]
  exact ⟨Int.ediv_nonneg h.1 (by omega),Int.le_trans (Int.ediv_le_self _ h.1) h.2⟩
theorem stAt_in {l:List Vr} {n:Int} (hv:∀v∈l,vOk v) (hn:0≤n∧n≤3200000):inR l (stAt l n):=by
 induction l with
 | nil=>exact ⟨rfl,fun i hi=>absurd hi (Nat.not_lt_zero _)⟩
 | cons v l ih =>
  have h:=ih fun v hv'=>hv v (List.mem_cons_of_mem _ hv')
  have h1:=hv v (List.mem_cons_self ..)
  have h2:=wd_ok h1
  refine ⟨by simp [stAt,dg_len],fun i hi=>?_⟩
  cases i with
  | succ i=>exact h.2 i (by simpa using hi)
  | zero =>
   have a1:=Int.emod_nonneg (dg l n).1 (show wd v≠0 by omega)
   have a2:=Int.emod_lt_of_pos (dg l n).1 (show 0<wd v by omega)
   have a3:wd v=v.2.1 - v.1+1:=rfl
   simp only [stAt,dg,List.getD_cons_zero]
   omega
theorem set_down {pre D:List Int} {k:Nat} {x:Int} (h:k<pre.length):(pre.take (k+1)++D).set k x=pre.take k++x::D:=by
 rw [←take_next (d:=0) h,List.append_assoc,List.set_append_right _ _ (by rw [List.length_take];omega)]
 have:k - (pre.take k).length=0:=by rw [List.length_take];omega
 rw [this];rfl
theorem dg_next {l:List Vr} {n:Int} {k:Nat} (h:k<l.length):dg (l.drop k) n=((dg (l.drop (k+1)) n).1 / wd (l.getD k (0,0,0)),((l.getD k (0,0,0)).1+(dg (l.drop (k+1)) n).1 % wd (l.getD k (0,0,0)))::(dg (l.drop (k+1)) n).2):=by
 rw [drop_cons (d:=(0,0,0)) h];rfl
theorem C_impl_stateAt (s:Sy) (n:Int) (h5:s.1.length≤5) (hv:∀v∈s.1,vOk v) (hn:0≤n∧n≤3200000) (Q:List AV→Prop):mc.C f_impl_stateAt [⟨L V3,s.1⟩,⟨L TR,s.2⟩,⟨I,n⟩] Q=Q [⟨L I,stAt s.1 n⟩]:=by
 refine Mc.Ends.c (mc.ends F_impl_stateAt ?_)
 simp+contextual(maxSteps:=1000000)(disch:=omega)only[↓Sd,↓So,↓Sk,↓den,↓denA,Sa,Sb,Sc,Se,O1.d,O2.d,O3.d,cmI,arI,envOf,putN,↓reduceIte,Nat.reduceLT,Nat.reduceSub,Nat.reduceAdd,Int.reduceAdd,Int.reduceEq,Int.reduceLT,Int.reduceLE,arr_pos,arr_neg,tr_impl_stateAt,List.length_replicate]
 refine mc.lp_down (Int×List Int) (fun k x=>[⟨I,x.1⟩,⟨I,(k:Int) - 1⟩,⟨L V3,s.1⟩,⟨L TR,s.2⟩,⟨L I,x.2⟩]) (fun k x=>k≤s.1.length∧x.1=(dg (s.1.drop k) n).1∧x.2=(List.replicate s.1.length (0:Int)).take k++(dg (s.1.drop k) n).2) s.1.length (n,List.replicate s.1.length 0) _ rfl ⟨Nat.le_refl _,by simp [dg],by simp [dg]⟩ ?_ ?_
 ·rintro k ⟨m,o⟩ ⟨hk,rfl,rfl⟩
  have hv':∀k,∀v∈s.1.drop k,vOk v:=fun k v hv1=>hv v (List.mem_of_mem_drop hv1)
  have h1:=dg_bd (hv' (k+1)) hn
  have h2:=dg_bd (hv' k) hn
  have h3:=hv _ (getD_mem (d:=(0,0,0)) (show k<s.1.length by omega))
  have h4:=wd_ok h3
  have h6:=Int.emod_nonneg (dg (s.1.drop (k+1)) n).1 (show wd (s.1.getD k (0,0,0))≠0 by omega)
  have h7:=Int.emod_lt_of_pos (dg (s.1.drop (k+1)) n).1 (show 0<wd (s.1.getD k (0,0,0)) by omega)
  have hlen:((List.replicate s.1.length (0:Int)).take (k+1)++(dg (s.1.drop (k+1)) n).2).length=s.1.length:=by simp [dg_len];omega
  have hset:∀x:Int,((List.replicate s.1.length (0:Int)).take (k+1)++(dg (s.1.drop (k+1)) n).2).set k x=(List.replicate s.1.length (0:Int)).take k++x::(dg (s.1.drop (k+1)) n).2:=fun x=>set_down (by rw [List.length_replicate];omega)
  have e:=dg_next (l:=s.1) (n:=n) (k:=k) (by omega)
  rw [e] at h2 ⊢
  clear e
  generalize dg (s.1.drop (k+1)) n=D at *
  generalize (List.replicate s.1.length (0:Int)).take (k+1)++D.2=O at *
  generalize (List.replicate s.1.length (0:Int)).take k=P at *
  simp only [wd] at h2 h4 h6 h7 ⊢
  unfold vOk at h3
  simp+contextual(maxSteps:=1000000)(disch:=omega)only[↓Sd,↓So,↓Sk,↓den,↓denA,Sa,Sb,Sc,Se,O1.d,O2.d,O3.d,cmI,arI,envOf,putN,↓reduceIte,Nat.reduceLT,Nat.reduceSub,Nat.reduceAdd,Int.reduceAdd,Int.reduceEq,Int.reduceLT,Int.reduceLE,arr_pos,arr_neg,hset]
  exact ⟨(_,_),⟨rfl,rfl⟩,by omega,rfl,rfl⟩
 ·rintro ⟨m,o⟩ ⟨hk,rfl,rfl⟩
  simp+contextual(maxSteps:=1000000)(disch:=omega)only[↓Sd,↓So,↓Sk,↓den,↓denA,Sa,Sb,Sc,Se,O1.d,O2.d,O3.d,cmI,arI,envOf,putN,↓reduceIte,Nat.reduceLT,Nat.reduceSub,Nat.reduceAdd,Int.reduceAdd,Int.reduceEq,Int.reduceLT,Int.reduceLE,arr_pos,arr_neg,List.take_zero,List.nil_append,List.drop_zero]
  rfl
theorem C_spec_l4State (s:Sy) (n:Int) (hs:FewSy s) (hV:valid s) (hn:0≤n∧n≤3200000) (Q:List AV→Prop):mc.C f_spec_l4State [⟨L V3,s.1⟩,⟨L TR,s.2⟩,⟨I,n⟩] Q=Q [⟨L I,stAt s.1 n⟩]:=by
 have h5:=hV.1.2
 have hv:=hV.2.2.1
 have hf:(fst0 s.1).length=s.1.length:=by simp [fst0]
 refine Mc.Ends.c (mc.ends F_spec_l4State ?_)
 simp+contextual(maxSteps:=1000000)(disch:=omega)only[↓Sd,↓So,↓Sk,↓den,↓denA,Sa,Sb,Sc,Se,O1.d,O2.d,O3.d,cmI,arI,envOf,putN,↓reduceIte,Nat.reduceLT,Nat.reduceSub,Nat.reduceAdd,Int.reduceAdd,Int.reduceEq,Int.reduceLT,Int.reduceLE,arr_pos,arr_neg,tr_spec_l4State,C_spec_FirstState s hs hV,C_spec_l3Copy (fst0 s.1) (by omega)]
 generalize fst0 s.1=pre at *
 refine mc.lp_down (Int×List Int) (fun k x=>[⟨I,x.1⟩,⟨I,(k:Int) - 1⟩,⟨L V3,s.1⟩,⟨L TR,s.2⟩,⟨L I,x.2⟩]) (fun k x=>k≤s.1.length∧x.1=(dg (s.1.drop k) n).1∧x.2=pre.take k++(dg (s.1.drop k) n).2) s.1.length (n,pre) _ rfl ⟨Nat.le_refl _,by simp [dg],by rw [List.drop_length,←hf,List.take_length];simp [dg]⟩ ?_ ?_
 ·rintro k ⟨m,o⟩ ⟨hk,rfl,rfl⟩
  have hv':∀k,∀v∈s.1.drop k,vOk v:=fun k v hv1=>hv v (List.mem_of_mem_drop hv1)
  have h1:=dg_bd (hv' (k+1)) hn
  have h2:=dg_bd (hv' k) hn
  have h3:=hv _ (getD_mem (d:=(0,0,0)) (show k<s.1.length by omega))
  have h4:=wd_ok h3
  have h6:=Int.emod_nonneg (dg (s.1.drop (k+1)) n).1 (show wd (s.1.getD k (0,0,0))≠0 by omega)
  have h7:=Int.emod_lt_of_pos (dg (s.1.drop (k+1)) n).1 (show 0<wd (s.1.getD k (0,0,0)) by omega)
  have hlen:(pre.take (k+1)++(dg (s.1.drop (k+1)) n).2).length=s.1.length:=by simp [dg_len,hf];omega
  have hset:∀x:Int,(pre.take (k+1)++(dg (s.1.drop (k+1)) n).2).set k x=pre.take k++x::(dg (s.1.drop (k+1)) n).2:=fun x=>set_down (by omega)
  have e:=dg_next (l:=s.1) (n:=n) (k:=k) (by omega)
  rw [e] at h2 ⊢
  clear e
  generalize dg (s.1.drop (k+1)) n=D at *
  generalize pre.take (k+1)++D.2=O at *
  generalize pre.take k=P at *
  simp only [wd] at h2 h4 h6 h7 ⊢
  unfold vOk at h3
  simp+contextual(maxSteps:=1000000)(disch:=omega)only[↓Sd,↓So,↓Sk,↓den,↓denA,Sa,Sb,Sc,Se,O1.d,O2.d,O3.d,cmI,arI,envOf,putN,↓reduceIte,Nat.reduceLT,Nat.reduceSub,Nat.reduceAdd,Int.reduceAdd,Int.reduceEq,Int.reduceLT,Int.reduceLE,arr_pos,arr_neg,hset]
  exact ⟨(_,_),⟨rfl,rfl⟩,by omega,rfl,rfl⟩
 ·rintro ⟨m,o⟩ ⟨hk,rfl,rfl⟩
  simp+contextual(maxSteps:=1000000)(disch:=omega)only[↓Sd,↓So,↓Sk,↓den,↓denA,Sa,Sb,Sc,Se,O1.d,O2.d,O3.d,cmI,arI,envOf,putN,↓reduceIte,Nat.reduceLT,Nat.reduceSub,Nat.reduceAdd,Int.reduceAdd,Int.reduceEq,Int.reduceLT,Int.reduceLE,arr_pos,arr_neg,List.take_zero,List.nil_append,List.drop_zero]
  rfl
def tab {α:Type} (f:Nat→α) (n:Nat):List α:=(List.range n).map f
theorem tab_len {α:Type} {f:Nat→α} {n:Nat}:(tab f n).length=n:=by simp [tab]
theorem tab_next {α:Type} {f:Nat→α} {n:Nat}:tab f n++[f n]=tab f (n+1):=by simp [tab,List.range_succ]
theorem tab_get {α:Type} {f:Nat→α} {n i:Nat} {d:α} (h:i<n):(tab f n).getD i d=f i:=by simp [tab,h]
theorem tab_setr {α:Type} {f:Nat→α} {N i:Nat} {z x y:α}:(tab f i++y::List.replicate N z).set i x=tab f i++x::List.replicate N z:=by
 rw [List.set_append_right _ _ (by rw [tab_len];exact Nat.le_refl _),tab_len,Nat.sub_self];rfl
theorem tab_getr {α:Type} {f:Nat→α} {i:Nat} {d y:α} {r:List α}:(tab f i++y::r).getD i d=y:=by
 rw [List.getD_eq_getElem?_getD,List.getElem?_append_right (by rw [tab_len];exact Nat.le_refl _),tab_len,Nat.sub_self];rfl
def szn (l:List Vr):Nat:=(sz l).toNat
theorem szn_eq {s:Sy} (h:valid s):((szn s.1:Nat):Int)=sz s.1∧1≤szn s.1∧szn s.1≤400:=by
 have h1:=sz_pos s.1 h.2.2.1 s.1.length (Nat.le_refl _)
 rw [List.take_length] at h1
 have h2:=h.2.2.2.2
 unfold szn
 omega
def stN (s:Sy) (n:Nat):List Int:=stAt s.1 n
theorem stN_in {s:Sy} (h:valid s) {n:Nat} (hn:n<szn s.1):inR s.1 (stN s n):=stAt_in h.2.2.1 (by have:=szn_eq h;omega)
def stepR (s:Sy) (n:Nat):List Int:=(nxt s (stN s n)).map (num s.1)
def steps (s:Sy):List (List Int):=tab (stepR s) (szn s.1)
theorem nxt_len {s:Sy} {st:List Int} (h:valid s):(nxt s st).length≤8:=Nat.le_trans nxtN_len h.2.1
theorem nxt_in {s:Sy} {st:List Int}:∀x∈nxt s st,inR s.1 x:=nxtN_in
theorem map_next {α β:Type} {l:List α} {g:α→β} {j:Nat} {d:α} (h:j<l.length):(l.take j).map g++[g (l.getD j d)]=(l.take (j+1)).map g:=by
 rw [←take_next (d:=d) h];simp
theorem C_spec_l4Steps (s:Sy) (hs:FewSy s) (h:valid s) (Q:List AV→Prop):mc.C f_spec_l4Steps [⟨L V3,s.1⟩,⟨L TR,s.2⟩] Q=Q [⟨L (L I),steps s⟩]:=by
 have hz:=szn_eq h
 have h5:=h.1.2
 have hv:=h.2.2.1
 refine Mc.Ends.c (mc.ends F_spec_l4Steps ?_)
 simp+contextual(maxSteps:=1000000)(disch:=omega)only[↓Sd,↓So,↓Sk,↓den,↓denA,Sa,Sb,Sc,Se,O1.d,O2.d,O3.d,cmI,arI,envOf,putN,↓reduceIte,Nat.reduceLT,Nat.reduceSub,Nat.reduceAdd,Int.reduceAdd,Int.reduceEq,Int.reduceLT,Int.reduceLE,arr_pos,arr_neg,tr_spec_l4Steps]
 refine mc.lp_for (List (List Int)) (fun i o=>[⟨I,(i:Int)⟩,⟨L V3,s.1⟩,⟨L TR,s.2⟩,⟨L (L I),o⟩]) (fun i o=>o=tab (stepR s) i) (szn s.1) 0 [] _ rfl (Nat.zero_le _) rfl ?_ ?_
 ·rintro i o hi rfl
  have hin:=stN_in h hi
  have hst:stAt s.1 (i:Int)=stN s i:=rfl
  have hl:=@nxt_len s (stN s i) h
  have htl:(tab (stepR s) i).length=i:=tab_len
  simp+contextual(maxSteps:=1000000)(disch:=omega)only[↓Sd,↓So,↓Sk,↓den,↓denA,Sa,Sb,Sc,Se,O1.d,O2.d,O3.d,cmI,arI,envOf,putN,↓reduceIte,Nat.reduceLT,Nat.reduceSub,Nat.reduceAdd,Int.reduceAdd,Int.reduceEq,Int.reduceLT,Int.reduceLE,arr_pos,arr_neg,C_spec_SizeOf s hs,h,C_spec_l4State s i hs h (by omega),hst,C_spec_l2Next s (stN s i) h hin]
  refine mc.lp_for (List Int) (fun j o=>[⟨I,(i:Int)⟩,⟨I,(j:Int)⟩,⟨L V3,s.1⟩,⟨L TR,s.2⟩,⟨L (L I),tab (stepR s) i⟩,⟨L (L I),nxt s (stN s i)⟩,⟨L I,o⟩]) (fun j o=>o=((nxt s (stN s i)).take j).map (num s.1)) (nxt s (stN s i)).length 0 [] _ rfl (Nat.zero_le _) rfl ?_ ?_
  ·rintro j o hj rfl
   have hx:=nxt_in _ (getD_mem (d:=[]) hj)
   have hol:(((nxt s (stN s i)).take j).map (num s.1)).length≤8:=by simp;omega
   simp+contextual(maxSteps:=1000000)(disch:=omega)only[↓Sd,↓So,↓Sk,↓den,↓denA,Sa,Sb,Sc,Se,O1.d,O2.d,O3.d,cmI,arI,envOf,putN,↓reduceIte,Nat.reduceLT,Nat.reduceSub,Nat.reduceAdd,Int.reduceAdd,Int.reduceEq,Int.reduceLT,Int.reduceLE,arr_pos,arr_neg,C_spec_l4Number s _ h5 hv hx]
   exact map_next hj
  ·rintro o rfl
   rw [List.take_length]
   simp+contextual(maxSteps:=1000000)(disch:=omega)only[↓Sd,↓So,↓Sk,↓den,↓denA,Sa,Sb,Sc,Se,O1.d,O2.d,O3.d,cmI,arI,envOf,putN,↓reduceIte,Nat.reduceLT,Nat.reduceSub,Nat.reduceAdd,Int.reduceAdd,Int.reduceEq,Int.reduceLT,Int.reduceLE,arr_pos,arr_neg,]
   exact tab_next
 ·rintro o rfl
  simp+contextual(maxSteps:=1000000)(disch:=omega)only[↓Sd,↓So,↓Sk,↓den,↓denA,Sa,Sb,Sc,Se,O1.d,O2.d,O3.d,cmI,arI,envOf,putN,↓reduceIte,Nat.reduceLT,Nat.reduceSub,Nat.reduceAdd,Int.reduceAdd,Int.reduceEq,Int.reduceLT,Int.reduceLE,arr_pos,arr_neg,C_spec_SizeOf s hs,h]
  rfl
theorem C_impl_nexts (s:Sy) (h:valid s) (Q:List AV→Prop):mc.C f_impl_nexts [⟨L V3,s.1⟩,⟨L TR,s.2⟩] Q=Q [⟨L (L I),steps s⟩]:=by
 have hz:=szn_eq h
 have h5:=h.1.2
 have hv:=h.2.2.1
 refine Mc.Ends.c (mc.ends F_impl_nexts ?_)
 simp+contextual(maxSteps:=1000000)(disch:=omega)only[↓Sd,↓So,↓Sk,↓den,↓denA,Sa,Sb,Sc,Se,O1.d,O2.d,O3.d,cmI,arI,envOf,putN,↓reduceIte,Nat.reduceLT,Nat.reduceSub,Nat.reduceAdd,Int.reduceAdd,Int.reduceEq,Int.reduceLT,Int.reduceLE,arr_pos,arr_neg,tr_impl_nexts,C_impl_size s.1 h5 hv,←hz.1,List.length_replicate]
 refine mc.lp_for (List (List Int)) (fun i o=>[⟨I,(szn s.1:Int)⟩,⟨I,(i:Int)⟩,⟨L V3,s.1⟩,⟨L TR,s.2⟩,⟨L (L I),o⟩]) (fun i o=>o=tab (stepR s) i++List.replicate (szn s.1 - i) []) (szn s.1) 0 (List.replicate (szn s.1) []) _ rfl (Nat.zero_le _) rfl ?_ ?_
 ·rintro i o hi rfl
  have hin:=stN_in h hi
  have hst:stAt s.1 (i:Int)=stN s i:=rfl
  have hl:=@nxt_len s (stN s i) h
  simp+contextual(maxSteps:=1000000)(disch:=omega)only[↓Sd,↓So,↓Sk,↓den,↓denA,Sa,Sb,Sc,Se,O1.d,O2.d,O3.d,cmI,arI,envOf,putN,↓reduceIte,Nat.reduceLT,Nat.reduceSub,Nat.reduceAdd,Int.reduceAdd,Int.reduceEq,Int.reduceLT,Int.reduceLE,arr_pos,arr_neg,C_impl_stateAt s i h5 hv (by omega),hst,C_impl_nextStates s (stN s i) h hin]
  rw [sub_split hi,List.replicate_succ]
  refine mc.lp_for (List Int) (fun j o=>[⟨I,(i:Int)⟩,⟨I,(szn s.1:Int)⟩,⟨I,(i:Int)⟩,⟨I,((nxt s (stN s i)).length:Int)⟩,⟨I,(j:Int)⟩,⟨L V3,s.1⟩,⟨L TR,s.2⟩,⟨L (L I),tab (stepR s) i++o::List.replicate (szn s.1 - (i+1)) []⟩,⟨L (L I),nxt s (stN s i)⟩]) (fun j o=>o=((nxt s (stN s i)).take j).map (num s.1)) (nxt s (stN s i)).length 0 [] _ rfl (Nat.zero_le _) rfl ?_ ?_
  ·rintro j o hj rfl
   have hx:=nxt_in _ (getD_mem (d:=[]) hj)
   have hol:(((nxt s (stN s i)).take j).map (num s.1)).length≤8:=by simp;omega
   have hlen:(tab (stepR s) i++((nxt s (stN s i)).take j).map (num s.1)::List.replicate (szn s.1 - (i+1)) []).length=szn s.1:=by simp [tab_len];omega
   simp+contextual(maxSteps:=1000000)(disch:=omega)only[↓Sd,↓So,↓Sk,↓den,↓denA,Sa,Sb,Sc,Se,O1.d,O2.d,O3.d,cmI,arI,envOf,putN,↓reduceIte,Nat.reduceLT,Nat.reduceSub,Nat.reduceAdd,Int.reduceAdd,Int.reduceEq,Int.reduceLT,Int.reduceLE,arr_pos,arr_neg,C_impl_number s _ h5 hv hx,tab_getr,tab_setr,tab_len,List.length_replicate]
   exact ⟨_,rfl,map_next hj⟩
  ·rintro o rfl
   rw [List.take_length]
   simp+contextual(maxSteps:=1000000)(disch:=omega)only[↓Sd,↓So,↓Sk,↓den,↓denA,Sa,Sb,Sc,Se,O1.d,O2.d,O3.d,cmI,arI,envOf,putN,↓reduceIte,Nat.reduceLT,Nat.reduceSub,Nat.reduceAdd,Int.reduceAdd,Int.reduceEq,Int.reduceLT,Int.reduceLE,arr_pos,arr_neg,]
   rw [←tab_next,List.append_assoc];rfl
 ·rintro o rfl
  simp+contextual(maxSteps:=1000000)(disch:=omega)only[↓Sd,↓So,↓Sk,↓den,↓denA,Sa,Sb,Sc,Se,O1.d,O2.d,O3.d,cmI,arI,envOf,putN,↓reduceIte,Nat.reduceLT,Nat.reduceSub,Nat.reduceAdd,Int.reduceAdd,Int.reduceEq,Int.reduceLT,Int.reduceLE,arr_pos,arr_neg,]
  simp [steps]
def holdsN (s:Sy) (l:List Tm) (n:Nat):Bool:=evl l (stN s n)==1
def upTo (p:Nat→Bool):Nat→List Int
 | 0=>[]
 | n+1=>if p n=true then upTo p n++[(n:Int)] else upTo p n
theorem upTo_s {p:Nat→Bool} {n:Nat} (h:p n=true):upTo p (n+1)=upTo p n++[(n:Int)]:=by rw [upTo,if_pos h]
theorem upTo_n {p:Nat→Bool} {n:Nat} (h:¬p n=true):upTo p (n+1)=upTo p n:=by rw [upTo,if_neg h]
theorem upTo_len {p:Nat→Bool}:∀{n:Nat},(upTo p n).length≤n
 | 0=>Nat.le_refl _
 | n+1=>by
  have:=@upTo_len p n
  simp only [upTo]
  split
  ·simp;omega
  ·omega
theorem upTo_mem {p:Nat→Bool} {x:Int}:∀{n:Nat},x∈upTo p n↔∃k,k<n∧x=(k:Int)∧p k=true
 | 0=>by simp [upTo]
 | n+1=>by
  have ih:=@upTo_mem p x n
  simp only [upTo]
  constructor
  ·intro h
   split at h
   ·rename_i hp
    rcases List.mem_append.1 h with h | h
    ·obtain ⟨k,h1,h2⟩:=ih.1 h;exact ⟨k,by omega,h2⟩
    ·exact ⟨n,by omega,by simpa using h,hp⟩
   ·obtain ⟨k,h1,h2⟩:=ih.1 h;exact ⟨k,by omega,h2⟩
  ·rintro ⟨k,h1,h2,h3⟩
   rcases Nat.lt_succ_iff_lt_or_eq.1 h1 with h4 | rfl
   ·have h5:=ih.2 ⟨k,h4,h2,h3⟩
    split
    ·exact List.mem_append_left _ h5
    ·exact h5
   ·rw [if_pos h3,h2];simp
theorem upTo_congr {p q:Nat→Bool}:∀{n:Nat},(∀k,k<n→p k=q k)→upTo p n=upTo q n
 | 0,_=>rfl
 | n+1,h=>by simp only [upTo];rw [h n (by omega),upTo_congr fun k hk=>h k (by omega)]
noncomputable def dB (p:Prop):Bool:=@decide p (Classical.propDecidable p)
theorem dB_iff {p:Prop}:dB p=true↔p:=@decide_eq_true_iff p (Classical.propDecidable p)
theorem dB_t {p:Prop} (h:p):dB p=true:=dB_iff.2 h
theorem dB_f {p:Prop} (h:¬p):dB p=false:=by cases h1:dB p with | false=>rfl | true=>exact absurd (dB_iff.1 h1) h
theorem dB_congr {p q:Prop} (h:p↔q):dB p=dB q:=by rw [propext h]
theorem dB_eq {p:Prop} [Decidable p]:dB p=decide p:=by by_cases h:p<;>simp [h,dB]
theorem tab_congr {α:Type} {f g:Nat→α} {n:Nat} (h:∀k,k<n→f k=g k):tab f n=tab g n:=by
 unfold tab
 exact List.map_congr_left fun k hk=>h k (List.mem_range.1 hk)
theorem tab_set' {α:Type} {f:Nat→α} {n j:Nat} {x:α}:(tab f n).set j x=tab (fun k=>if k=j then x else f k) n:=by
 apply List.ext_getElem
 ·simp [tab]
 ·intro i h1 h2
  simp only [tab,List.length_set,List.length_map,List.length_range] at h1 h2
  rw [List.getElem_set]
  simp only [tab,List.getElem_map,List.getElem_range]
  by_cases h:j=i
  ·rw [if_pos h,if_pos h.symm]
  ·rw [if_neg h,if_neg (fun e=>h e.symm)]
theorem rep_tab {α:Type} {z:α} {n:Nat}:List.replicate n z=tab (fun _=>z) n:=by
 apply List.ext_getElem<;>simp [tab]
def lset (l:List Int) (n:Int):Prop:=∀i,i<l.length→(0≤l.getD i 0∧l.getD i 0≤n - 1)∧(0<i→l.getD (i - 1) 0<l.getD i 0)
instance (l : List Int) (n : Int) : Decidable (lset l n) := by unfold lset; infer_instance
theorem lset_mem {l:List Int} {n:Int} (h:lset l n):∀x∈l,0≤x∧x<n:=by
 intro x hx
 obtain ⟨i,hi,rfl⟩:=List.getElem_of_mem hx
 have:=(h i hi).1
 rw [getD_lt hi] at this
 omega
theorem lset_ge {l:List Int} {n:Int} (h:lset l n):∀i,i<l.length→(i:Int)≤l.getD i 0:=by
 intro i
 induction i with
 | zero=>intro hi;exact (h 0 hi).1.1
 | succ i ih =>
  intro hi
  have h1:=ih (by omega)
  have h2:=(h (i+1) hi).2 (by omega)
  simp only [Nat.add_sub_cancel] at h2
  omega
theorem lset_len {l:List Int} {n:Int} (h:lset l n) (hn:0≤n):(l.length:Int)≤n:=by
 rcases Nat.eq_zero_or_pos l.length with h0 | h0
 ·omega
 ·have h1:=lset_ge h (l.length - 1) (by omega)
  have h2:=(h (l.length - 1) (by omega)).1.2
  omega
theorem lset_snoc {l:List Int} {n x:Int} (h:lset l n) (hx:0≤x∧x<n) (hl:∀y∈l,y<x):lset (l++[x]) n:=by
 intro i hi
 simp only [List.length_append,List.length_cons,List.length_nil,Nat.zero_add] at hi
 rw [getD_snoc,getD_snoc]
 by_cases h1:i<l.length
 ·rw [if_pos h1,if_pos (by omega)];exact h i h1
 ·have h2:i=l.length:=by omega
  rw [if_neg h1,if_pos h2]
  refine ⟨by omega,fun h3=>?_⟩
  rw [if_pos (by omega)]
  exact hl _ (getD_mem (by omega))
theorem upTo_lt {p:Nat→Bool} {n:Nat}:∀x∈upTo p n,x<n:=fun x hx=>by obtain ⟨k,h1,h2,_⟩:=upTo_mem.1 hx;omega
theorem upTo_lset {p:Nat→Bool} {m:Nat}:∀{n:Nat},n≤m→lset (upTo p n) m
 | 0,_=>fun i hi=>absurd hi (Nat.not_lt_zero _)
 | n+1,h=>by
  simp only [upTo]
  split
  ·exact lset_snoc (upTo_lset (by omega)) (by omega) upTo_lt
  ·exact upTo_lset (by omega)
theorem mem_take_next {l:List Int} {i:Nat} {x:Int} (h:i<l.length):x∈l.take (i+1)↔x∈l.take i∨x=l.getD i 0:=by
 rw [←take_next (d:=0) h];simp
theorem C_spec_l4List (l:List Bool) (hl:l.length≤1048576) (Q:List AV→Prop):mc.C f_spec_l4List [⟨L B,l⟩] Q=Q [⟨L I,upTo (fun k=>l.getD k false) l.length⟩]:=by
 refine Mc.Ends.c (mc.ends F_spec_l4List ?_)
 simp+contextual(maxSteps:=1000000)(disch:=omega)only[↓Sd,↓So,↓Sk,↓den,↓denA,Sa,Sb,Sc,Se,O1.d,O2.d,O3.d,cmI,arI,envOf,putN,↓reduceIte,Nat.reduceLT,Nat.reduceSub,Nat.reduceAdd,Int.reduceAdd,Int.reduceEq,Int.reduceLT,Int.reduceLE,arr_pos,arr_neg,tr_spec_l4List]
 refine mc.lp_for (List Int) (fun i o=>[⟨L B,l⟩,⟨I,(i:Int)⟩,⟨L I,o⟩]) (fun i o=>o=upTo (fun k=>l.getD k false) i) l.length 0 [] _ rfl (Nat.zero_le _) rfl ?_ ?_
 ·rintro i o hi rfl
  have h1:=@upTo_len (fun k=>l.getD k false) i
  simp+contextual(maxSteps:=1000000)(disch:=omega)only[↓Sd,↓So,↓Sk,↓den,↓denA,Sa,Sb,Sc,Se,O1.d,O2.d,O3.d,cmI,arI,envOf,putN,↓reduceIte,Nat.reduceLT,Nat.reduceSub,Nat.reduceAdd,Int.reduceAdd,Int.reduceEq,Int.reduceLT,Int.reduceLE,arr_pos,arr_neg,↓wpJoin,]
  exact ⟨fun g=>(upTo_s g).symm,fun g=>(upTo_n g).symm⟩
 ·rintro o rfl
  simp+contextual(maxSteps:=1000000)(disch:=omega)only[↓Sd,↓So,↓Sk,↓den,↓denA,Sa,Sb,Sc,Se,O1.d,O2.d,O3.d,cmI,arI,envOf,putN,↓reduceIte,Nat.reduceLT,Nat.reduceSub,Nat.reduceAdd,Int.reduceAdd,Int.reduceEq,Int.reduceLT,Int.reduceLE,arr_pos,arr_neg,]
theorem C_spec_l4List_tab (p:Nat→Bool) (n:Nat) (hn:n≤1048576) (Q:List AV→Prop):mc.C f_spec_l4List [⟨L B,tab p n⟩] Q=Q [⟨L I,upTo p n⟩]:=by
 rw [C_spec_l4List _ (by rw [tab_len];exact hn),tab_len,upTo_congr fun k hk=>tab_get hk]
def behind (T:List (List Int)) (p:Nat→Bool) (n:Nat) (k:Nat):Prop:=∃a,a<n∧p a=true∧(k:Int)∈T.getD a []
theorem dB_upTo {p:Nat→Bool} {n k:Nat}:dB ((k:Int)∈upTo p n)=(decide (k<n)&&p k):=by
 by_cases h:k<n∧p k=true
 ·rw [dB_t (upTo_mem.2 ⟨k,h.1,rfl,h.2⟩)];simp [h]
 ·rw [dB_f]
  ·by_cases h1:k<n
   ·have:p k=false:=by cases h2:p k with | false=>rfl | true=>exact absurd ⟨h1,h2⟩ h
    simp [this]
   ·simp [h1]
  ·intro h1
   obtain ⟨j,h2,h3,h4⟩:=upTo_mem.1 h1
   have:k=j:=by omega
   subst this
   exact h ⟨h2,h4⟩
theorem upTo_mono {p q:Nat→Bool}:∀{n:Nat},(∀k,k<n→p k=true→q k=true)→(upTo p n).length≤(upTo q n).length∧((upTo q n).length≤(upTo p n).length→∀k,k<n→q k=true→p k=true)
 | 0,_=>⟨Nat.le_refl _,fun _ k hk=>absurd hk (Nat.not_lt_zero _)⟩
 | n+1,h=>by
  obtain ⟨h1,h2⟩:=upTo_mono (n:=n) fun k hk=>h k (by omega)
  by_cases hp:p n=true
  ·have hq:=h n (by omega) hp
   rw [upTo_s hp,upTo_s hq]
   simp only [List.length_append,List.length_cons,List.length_nil]
   refine ⟨by omega,fun h3 k hk hqk=>?_⟩
   rcases Nat.lt_succ_iff_lt_or_eq.1 hk with h4 | rfl
   ·exact h2 (by omega) k h4 hqk
   ·exact hp
  ·rw [upTo_n hp]
   by_cases hq:q n=true
   ·rw [upTo_s hq]
    simp only [List.length_append,List.length_cons,List.length_nil]
    exact ⟨by omega,fun h3=>absurd h3 (by omega)⟩
   ·rw [upTo_n hq]
    refine ⟨h1,fun h3 k hk hqk=>?_⟩
    rcases Nat.lt_succ_iff_lt_or_eq.1 hk with h4 | rfl
    ·exact h2 h3 k h4 hqk
    ·exact absurd hqk hq
inductive Rch (T:List (List Int)) (F:List Int):Nat→Prop
 | base {k:Nat}:(k:Int)∈F→Rch T F k
 | step {a k:Nat}:Rch T F a→(k:Int)∈T.getD a []→Rch T F k
def Tbl (T:List (List Int)) (n:Nat):Prop:=T.length=n∧∀r∈T,r.length≤1048576∧∀x∈r,0≤x∧x<n
theorem Tbl.row {T:List (List Int)} {n i:Nat} (h:Tbl T n):∀x∈T.getD i [],0≤x∧x<n:=by
 intro x hx
 by_cases hi:i<T.length
 ·exact (h.2 _ (getD_mem hi)).2 x hx
 ·rw [List.getD_eq_getElem?_getD,List.getElem?_eq_none (by omega)] at hx
  cases hx
theorem steps_tbl {s:Sy} (h:valid s):Tbl (steps s) (szn s.1):=by
 have hz:=szn_eq h
 refine ⟨tab_len,fun r hr=>?_⟩
 simp only [steps,tab,List.mem_map,List.mem_range] at hr
 obtain ⟨i,hi,rfl⟩:=hr
 refine ⟨by simp only [stepR,List.length_map];exact Nat.le_trans (nxt_len h) (by omega),fun x hx=>?_⟩
 simp only [stepR,List.mem_map] at hx
 obtain ⟨y,hy,rfl⟩:=hx
 have:=num_bd h.2.2.1 (nxt_in y hy)
 omega
theorem upTo_nil {p:Nat→Bool} {n:Nat}:(upTo p n).length=0↔∀k,k<n→p k=false:=by
 constructor
 ·intro h k hk
  cases hp:p k with
  | false=>rfl
  | true =>
   have:=(upTo_mem (p:=p) (n:=n) (x:=k)).2 ⟨k,hk,rfl,hp⟩
   rw [List.eq_nil_of_length_eq_zero h] at this
   cases this
 ·intro h
  cases hl:upTo p n with
  | nil=>rfl
  | cons x l =>
   obtain ⟨k,h1,_,h3⟩:=(upTo_mem (p:=p) (n:=n) (x:=x)).1 (by rw [hl];simp)
   rw [h k h1] at h3
   cases h3
theorem C_impl_listOf (l:List Bool) (hl:l.length≤1048576) (Q:List AV→Prop):mc.C f_impl_listOf [⟨L B,l⟩] Q=Q [⟨L I,upTo (fun k=>l.getD k false) l.length⟩]:=by
 refine Mc.Ends.c (mc.ends F_impl_listOf ?_)
 simp+contextual(maxSteps:=1000000)(disch:=omega)only[↓Sd,↓So,↓Sk,↓den,↓denA,Sa,Sb,Sc,Se,O1.d,O2.d,O3.d,cmI,arI,envOf,putN,↓reduceIte,Nat.reduceLT,Nat.reduceSub,Nat.reduceAdd,Int.reduceAdd,Int.reduceEq,Int.reduceLT,Int.reduceLE,arr_pos,arr_neg,tr_impl_listOf]
 refine mc.lp_for (List Int) (fun i o=>[⟨L B,l⟩,⟨I,(l.length:Int)⟩,⟨I,(i:Int)⟩,⟨L I,o⟩]) (fun i o=>o=upTo (fun k=>l.getD k false) i) l.length 0 [] _ rfl (Nat.zero_le _) rfl ?_ ?_
 ·rintro i o hi rfl
  have h1:=@upTo_len (fun k=>l.getD k false) i
  simp+contextual(maxSteps:=1000000)(disch:=omega)only[↓Sd,↓So,↓Sk,↓den,↓denA,Sa,Sb,Sc,Se,O1.d,O2.d,O3.d,cmI,arI,envOf,putN,↓reduceIte,Nat.reduceLT,Nat.reduceSub,Nat.reduceAdd,Int.reduceAdd,Int.reduceEq,Int.reduceLT,Int.reduceLE,arr_pos,arr_neg,↓wpJoin,]
  exact ⟨fun g=>(upTo_s g).symm,fun g=>(upTo_n g).symm⟩
 ·rintro o rfl
  have h1:=@upTo_len (fun k=>l.getD k false) l.length
  simp+contextual(maxSteps:=1000000)(disch:=omega)only[↓Sd,↓So,↓Sk,↓den,↓denA,Sa,Sb,Sc,Se,O1.d,O2.d,O3.d,cmI,arI,envOf,putN,↓reduceIte,Nat.reduceLT,Nat.reduceSub,Nat.reduceAdd,Int.reduceAdd,Int.reduceEq,Int.reduceLT,Int.reduceLE,arr_pos,arr_neg,C_impl_clone_int (upTo (fun k=>l.getD k false) l.length) (by omega)]
theorem C_impl_listOf_tab (p:Nat→Bool) (n:Nat) (hn:n≤1048576) (Q:List AV→Prop):mc.C f_impl_listOf [⟨L B,tab p n⟩] Q=Q [⟨L I,upTo p n⟩]:=by
 rw [C_impl_listOf _ (by rw [tab_len];exact hn),tab_len,upTo_congr fun k hk=>tab_get hk]
theorem C_impl_marks (l:List Int) (n:Nat) (hn:n≤1048576) (hl:l.length≤1048576) (h:∀x∈l,0≤x∧x<n) (Q:List AV→Prop):mc.C f_impl_marks [⟨L I,l⟩,⟨I,(n:Int)⟩] Q=Q [⟨L B,tab (fun k=>dB ((k:Int)∈l)) n⟩]:=by
 refine Mc.Ends.c (mc.ends F_impl_marks ?_)
 simp+contextual(maxSteps:=1000000)(disch:=omega)only[↓Sd,↓So,↓Sk,↓den,↓denA,Sa,Sb,Sc,Se,O1.d,O2.d,O3.d,cmI,arI,envOf,putN,↓reduceIte,Nat.reduceLT,Nat.reduceSub,Nat.reduceAdd,Int.reduceAdd,Int.reduceEq,Int.reduceLT,Int.reduceLE,arr_pos,arr_neg,tr_impl_marks]
 refine mc.lp_for (List Bool) (fun i o=>[⟨L I,l⟩,⟨I,(l.length:Int)⟩,⟨I,(i:Int)⟩,⟨L B,o⟩]) (fun i o=>o=tab (fun k=>dB ((k:Int)∈l.take i)) n) l.length 0 (List.replicate n false) _ rfl (Nat.zero_le _) ?_ ?_ ?_
 ·rw [rep_tab];exact tab_congr fun k _=>(dB_f (by simp)).symm
 ·rintro i o hi rfl
  have hx:=h _ (getD_mem (d:=0) hi)
  simp+contextual(maxSteps:=1000000)(disch:=omega)only[↓Sd,↓So,↓Sk,↓den,↓denA,Sa,Sb,Sc,Se,O1.d,O2.d,O3.d,cmI,arI,envOf,putN,↓reduceIte,Nat.reduceLT,Nat.reduceSub,Nat.reduceAdd,Int.reduceAdd,Int.reduceEq,Int.reduceLT,Int.reduceLE,arr_pos,arr_neg,tab_len,tab_set']
  refine tab_congr fun k hk=>?_
  by_cases hk2:k=(l.getD i 0).toNat
  ·rw [if_pos hk2,dB_t];exact (mem_take_next hi).2 (.inr (by omega))
  ·rw [if_neg hk2];refine dB_congr ?_
   rw [mem_take_next hi]
   exact ⟨.inl,fun h=>h.elim id fun h=>absurd h (by omega)⟩
 ·rintro o rfl
  rw [List.take_length]
  simp+contextual(maxSteps:=1000000)(disch:=omega)only[↓Sd,↓So,↓Sk,↓den,↓denA,Sa,Sb,Sc,Se,O1.d,O2.d,O3.d,cmI,arI,envOf,putN,↓reduceIte,Nat.reduceLT,Nat.reduceSub,Nat.reduceAdd,Int.reduceAdd,Int.reduceEq,Int.reduceLT,Int.reduceLE,arr_pos,arr_neg,]
theorem C_impl_marks_i (l:List Int) (m:Int) (n:Nat) (e:m=n) (hn:n≤1048576) (hl:l.length≤1048576) (h:∀x∈l,0≤x∧x<n) (Q:List AV→Prop):mc.C f_impl_marks [⟨L I,l⟩,⟨I,m⟩] Q=Q [⟨L B,tab (fun k=>dB ((k:Int)∈l)) n⟩]:=e▸C_impl_marks l n hn hl h Q
theorem C_impl_setOk (l:List Int) (m:Int) (hm:0≤m∧m≤1048576) (hl:l.length≤1048576) (Q:List AV→Prop):mc.C f_impl_setOk [⟨L I,l⟩,⟨I,m⟩] Q=Q [⟨B,decide (lset l m)⟩]:=by
 refine Mc.Ends.c (mc.ends F_impl_setOk ?_)
 generalize hK:decide (lset l m)=K
 simp+contextual(maxSteps:=1000000)(disch:=omega)only[↓Sd,↓So,↓Sk,↓den,↓denA,Sa,Sb,Sc,Se,O1.d,O2.d,O3.d,cmI,arI,envOf,putN,↓reduceIte,Nat.reduceLT,Nat.reduceSub,Nat.reduceAdd,Int.reduceAdd,Int.reduceEq,Int.reduceLT,Int.reduceLE,arr_pos,arr_neg,tr_impl_setOk]
 refine lp_all (fun i=>[⟨L I,l⟩,⟨I,m⟩,⟨L I,l⟩,⟨I,(l.length:Int)⟩,⟨I,(i:Int)⟩]) (fun i=>(0≤l.getD i 0∧l.getD i 0≤m - 1)∧(0<i→l.getD (i - 1) 0<l.getD i 0)) l.length _ rfl ?_ ?_
 ·intro i hi
  have hno:¬((0≤l.getD i 0∧l.getD i 0≤m - 1)∧(0<i→l.getD (i - 1) 0<l.getD i 0))→false=K:=fun h=>by rw [←hK,decide_eq_false];exact fun h1=>h (h1 i hi)
  simp+contextual(maxSteps:=1000000)(disch:=omega)only[↓Sd,↓So,↓Sk,↓den,↓denA,Sa,Sb,Sc,Se,O1.d,O2.d,O3.d,cmI,arI,envOf,putN,↓reduceIte,Nat.reduceLT,Nat.reduceSub,Nat.reduceAdd,Int.reduceAdd,Int.reduceEq,Int.reduceLT,Int.reduceLE,arr_pos,arr_neg,↓wpJoin,C_impl_in]
  grind
 ·intro h
  simp+contextual(maxSteps:=1000000)(disch:=omega)only[↓Sd,↓So,↓Sk,↓den,↓denA,Sa,Sb,Sc,Se,O1.d,O2.d,O3.d,cmI,arI,envOf,putN,↓reduceIte,Nat.reduceLT,Nat.reduceSub,Nat.reduceAdd,Int.reduceAdd,Int.reduceEq,Int.reduceLT,Int.reduceLE,arr_pos,arr_neg,]
  rw [←hK,decide_eq_true];exact h
def setV (s:Sy) (l:List Int):Prop:=valid s∧lset l (sz s.1)
instance (s : Sy) (l : List Int) : Decidable (setV s l) := by unfold setV; infer_instance
theorem setV.n {s:Sy} {l:List Int} (h:setV s l):lset l (szn s.1):=by rw [(szn_eq h.1).1];exact h.2
theorem setV.mem {s:Sy} {l:List Int} (h:setV s l):∀x∈l,0≤x∧x<(szn s.1:Int):=lset_mem h.n
theorem sz_ok {s:Sy} (h:valid s):1≤sz s.1∧sz s.1≤400:=by have:=szn_eq h;omega
theorem C_impl_SetValid (s:Sy) (l:List Int) (hs:FewSy s) (hl:l.length≤1048576) (Q:List AV→Prop):mc.C f_impl_SetValid [⟨L V3,s.1⟩,⟨L TR,s.2⟩,⟨L I,l⟩] Q=Q [⟨B,decide (setV s l)⟩]:=by
 refine Mc.Ends.c (mc.ends F_impl_SetValid ?_)
 generalize hK:decide (setV s l)=K
 simp+contextual(maxSteps:=1000000)(disch:=omega)only[↓Sd,↓So,↓Sk,↓den,↓denA,Sa,Sb,Sc,Se,O1.d,O2.d,O3.d,cmI,arI,envOf,putN,↓reduceIte,Nat.reduceLT,Nat.reduceSub,Nat.reduceAdd,Int.reduceAdd,Int.reduceEq,Int.reduceLT,Int.reduceLE,arr_pos,arr_neg,tr_impl_SetValid,C_impl_SystemValid s hs]
 refine ⟨fun h=>?_,fun h=>?_⟩
 ·have hz:=sz_ok h
  simp+contextual(maxSteps:=1000000)(disch:=omega)only[↓Sd,↓So,↓Sk,↓den,↓denA,Sa,Sb,Sc,Se,O1.d,O2.d,O3.d,cmI,arI,envOf,putN,↓reduceIte,Nat.reduceLT,Nat.reduceSub,Nat.reduceAdd,Int.reduceAdd,Int.reduceEq,Int.reduceLT,Int.reduceLE,arr_pos,arr_neg,C_impl_size s.1 h.1.2 h.2.2.1,C_impl_setOk l (sz s.1) (by omega) hl]
  rw [←hK];exact decide_eq_decide.2 ⟨fun g=>⟨h,g⟩,fun g=>g.2⟩
 ·rw [←hK,decide_eq_false fun g=>h g.1]
def Tb8 (T:List (List Int)) (n:Nat):Prop:=Tbl T n∧n≤400∧∀r∈T,r.length≤8
theorem steps_tb8 {s:Sy} (h:valid s):Tb8 (steps s) (szn s.1):=by
 refine ⟨steps_tbl h,(szn_eq h).2.2,fun r hr=>?_⟩
 simp only [steps,tab,List.mem_map,List.mem_range] at hr
 obtain ⟨i,hi,rfl⟩:=hr
 simp only [stepR,List.length_map]
 exact nxt_len h
noncomputable def ovr (T:List (List Int)) (l:List Int) (k:Nat):Bool:=dB (∃x∈l,(k:Int)∈T.getD x.toNat [])
theorem C_impl_over (T:List (List Int)) (l:List Int) (n:Nat) (hn:n≤1000) (ht:Tbl T n) (hl:l.length≤1048576) (h:∀x∈l,0≤x∧x<n) (Q:List AV→Prop):mc.C f_impl_over [⟨L (L I),T⟩,⟨L I,l⟩] Q=Q [⟨L I,upTo (ovr T l) n⟩]:=by
 have hT:=ht.1
 refine Mc.Ends.c (mc.ends F_impl_over ?_)
 simp+contextual(maxSteps:=1000000)(disch:=omega)only[↓Sd,↓So,↓Sk,↓den,↓denA,Sa,Sb,Sc,Se,O1.d,O2.d,O3.d,cmI,arI,envOf,putN,↓reduceIte,Nat.reduceLT,Nat.reduceSub,Nat.reduceAdd,Int.reduceAdd,Int.reduceEq,Int.reduceLT,Int.reduceLE,arr_pos,arr_neg,tr_impl_over,hT]
 refine mc.lp_for (List Bool) (fun i o=>[⟨L (L I),T⟩,⟨L I,l⟩,⟨I,(l.length:Int)⟩,⟨I,(i:Int)⟩,⟨L B,o⟩]) (fun i o=>o=tab (ovr T (l.take i)) n) l.length 0 (List.replicate n false) _ rfl (Nat.zero_le _) ?_ ?_ ?_
 ·rw [rep_tab];exact tab_congr fun k _=>(dB_f (by simp)).symm
 ·rintro i o hi rfl
  have hx:=h _ (getD_mem (d:=0) hi)
  obtain ⟨x,hxe⟩:∃x:Nat,l.getD i 0=x:=⟨(l.getD i 0).toNat,by omega⟩
  have hxn:x<n:=by omega
  have hrow:=ht.row (i:=x)
  have hrl:(T.getD x []).length≤1048576:=(ht.2 _ (getD_mem (by omega))).1
  simp+contextual(maxSteps:=1000000)(disch:=omega)only[↓Sd,↓So,↓Sk,↓den,↓denA,Sa,Sb,Sc,Se,O1.d,O2.d,O3.d,cmI,arI,envOf,putN,↓reduceIte,Nat.reduceLT,Nat.reduceSub,Nat.reduceAdd,Int.reduceAdd,Int.reduceEq,Int.reduceLT,Int.reduceLE,arr_pos,arr_neg,hT,hxe]
  refine mc.lp_for (List Bool) (fun j o=>[⟨L (L I),T⟩,⟨L I,l⟩,⟨I,(l.length:Int)⟩,⟨I,(i:Int)⟩,⟨L I,T.getD x []⟩,⟨I,((T.getD x []).length:Int)⟩,⟨I,(j:Int)⟩,⟨L B,o⟩]) (fun j o=>o=tab (fun k=>dB (ovr T (l.take i) k=true∨(k:Int)∈(T.getD x []).take j)) n) (T.getD x []).length 0 _ _ rfl (Nat.zero_le _) ?_ ?_ ?_
  ·exact tab_congr fun k _=>by simp [dB_eq]
  ·rintro j o hj rfl
   have hy:=hrow _ (getD_mem (d:=0) hj)
   simp+contextual(maxSteps:=1000000)(disch:=omega)only[↓Sd,↓So,↓Sk,↓den,↓denA,Sa,Sb,Sc,Se,O1.d,O2.d,O3.d,cmI,arI,envOf,putN,↓reduceIte,Nat.reduceLT,Nat.reduceSub,Nat.reduceAdd,Int.reduceAdd,Int.reduceEq,Int.reduceLT,Int.reduceLE,arr_pos,arr_neg,tab_len,tab_set']
   refine tab_congr fun k hk=>?_
   by_cases hk2:k=((T.getD x []).getD j 0).toNat
   ·rw [if_pos hk2,dB_t];exact .inr ((mem_take_next hj).2 (.inr (by omega)))
   ·rw [if_neg hk2];refine dB_congr ?_
    rw [mem_take_next hj]
    exact ⟨fun h=>h.elim .inl fun h=>.inr (.inl h),fun h=>h.elim .inl fun h=>.inr (h.elim id fun h=>absurd h (by omega))⟩
  ·rintro o rfl
   rw [List.take_length]
   simp+contextual(maxSteps:=1000000)(disch:=omega)only[↓Sd,↓So,↓Sk,↓den,↓denA,Sa,Sb,Sc,Se,O1.d,O2.d,O3.d,cmI,arI,envOf,putN,↓reduceIte,Nat.reduceLT,Nat.reduceSub,Nat.reduceAdd,Int.reduceAdd,Int.reduceEq,Int.reduceLT,Int.reduceLE,arr_pos,arr_neg,]
   refine tab_congr fun k hk=>dB_congr ⟨?_,?_⟩
   ·rintro (h | h)
    ·obtain ⟨y,h1,h2⟩:=dB_iff.1 h
     exact ⟨y,(mem_take_next hi).2 (.inl h1),h2⟩
    ·exact ⟨(x:Int),(mem_take_next hi).2 (.inr hxe.symm),by simpa using h⟩
   ·rintro ⟨y,h1,h2⟩
    rcases (mem_take_next hi).1 h1 with h | h
    ·exact .inl (dB_t ⟨y,h,h2⟩)
    ·rw [h,hxe] at h2;exact .inr (by simpa using h2)
 ·rintro o rfl
  rw [List.take_length]
  simp+contextual(maxSteps:=1000000)(disch:=omega)only[↓Sd,↓So,↓Sk,↓den,↓denA,Sa,Sb,Sc,Se,O1.d,O2.d,O3.d,cmI,arI,envOf,putN,↓reduceIte,Nat.reduceLT,Nat.reduceSub,Nat.reduceAdd,Int.reduceAdd,Int.reduceEq,Int.reduceLT,Int.reduceLE,arr_pos,arr_neg,C_impl_listOf_tab (ovr T l) n (by omega)]
def ahead (T:List (List Int)) (p:Nat→Bool) (n:Nat) (k:Nat):Prop:=∃b,b<n∧p b=true∧(b:Int)∈T.getD k []
theorem C_spec_l4Ahead (T:List (List Int)) (p:Nat→Bool) (n:Nat) (hn:n≤1048576) (ht:Tbl T n) (Q:List AV→Prop):mc.C f_spec_l4Ahead [⟨L (L I),T⟩,⟨L B,tab p n⟩] Q=Q [⟨L B,tab (fun k=>dB (ahead T p n k)) n⟩]:=by
 have hT:=ht.1
 refine Mc.Ends.c (mc.ends F_spec_l4Ahead ?_)
 simp+contextual(maxSteps:=1000000)(disch:=omega)only[↓Sd,↓So,↓Sk,↓den,↓denA,Sa,Sb,Sc,Se,O1.d,O2.d,O3.d,cmI,arI,envOf,putN,↓reduceIte,Nat.reduceLT,Nat.reduceSub,Nat.reduceAdd,Int.reduceAdd,Int.reduceEq,Int.reduceLT,Int.reduceLE,arr_pos,arr_neg,tr_spec_l4Ahead,hT]
 refine mc.lp_for (List Bool) (fun i o=>[⟨L (L I),T⟩,⟨L B,tab p n⟩,⟨I,(i:Int)⟩,⟨L B,o⟩]) (fun i o=>o=tab (fun k=>decide (k<i)&&dB (ahead T p n k)) n) n 0 (List.replicate n false) _ rfl (Nat.zero_le _) ?_ ?_ ?_
 ·rw [rep_tab];exact tab_congr fun k _=>by simp
 ·rintro i o hi rfl
  have hrow:=ht.row (i:=i)
  have hrl:(T.getD i []).length≤1048576:=(ht.2 _ (getD_mem (by omega))).1
  simp+contextual(maxSteps:=1000000)(disch:=omega)only[↓Sd,↓So,↓Sk,↓den,↓denA,Sa,Sb,Sc,Se,O1.d,O2.d,O3.d,cmI,arI,envOf,putN,↓reduceIte,Nat.reduceLT,Nat.reduceSub,Nat.reduceAdd,Int.reduceAdd,Int.reduceEq,Int.reduceLT,Int.reduceLE,arr_pos,arr_neg,hT]
  refine mc.lp_for (List Bool) (fun j o=>[⟨L (L I),T⟩,⟨L B,tab p n⟩,⟨I,(i:Int)⟩,⟨I,(j:Int)⟩,⟨L B,o⟩]) (fun j o=>o=tab (fun k=>(decide (k<i)&&dB (ahead T p n k))||decide (k=i)&&dB (∃b,b<n∧p b=true∧(b:Int)∈(T.getD i []).take j)) n) (T.getD i []).length 0 _ _ rfl (Nat.zero_le _) ?_ ?_ ?_
  ·exact tab_congr fun k _=>by rw [dB_f (p:=∃b,b<n∧p b=true∧(b:Int)∈(T.getD i []).take 0) (by simp)];simp
  ·rintro j o hj rfl
   have hy:=hrow _ (getD_mem (d:=0) hj)
   obtain ⟨y,hye⟩:∃y:Nat,(T.getD i []).getD j 0=y:=⟨((T.getD i []).getD j 0).toNat,by omega⟩
   have hyn:y<n:=by omega
   simp+contextual(maxSteps:=1000000)(disch:=omega)only[↓Sd,↓So,↓Sk,↓den,↓denA,Sa,Sb,Sc,Se,O1.d,O2.d,O3.d,cmI,arI,envOf,putN,↓reduceIte,Nat.reduceLT,Nat.reduceSub,Nat.reduceAdd,Int.reduceAdd,Int.reduceEq,Int.reduceLT,Int.reduceLE,arr_pos,arr_neg,↓wpJoin,hT,hye,tab_len,tab_get hyn,tab_set']
   refine ⟨fun g=>tab_congr fun k hk=>?_,fun g=>tab_congr fun k hk=>?_⟩
   ·by_cases hki:k=i
    ·subst hki
     rw [if_pos rfl,dB_t (p:=∃b,b<n∧p b=true∧(b:Int)∈(T.getD k []).take (j+1)) ⟨y,hyn,g,(mem_take_next hj).2 (.inr hye.symm)⟩]
     simp
    ·simp [hki]
   ·congr 2
    refine dB_congr ⟨fun ⟨b,h1,h2,h3⟩=>⟨b,h1,h2,(mem_take_next hj).2 (.inl h3)⟩,fun ⟨b,h1,h2,h3⟩=>⟨b,h1,h2,?_⟩⟩
    rcases (mem_take_next hj).1 h3 with h | h
    ·exact h
    ·have:b=y:=by omega
     subst this;exact absurd h2 g
  ·rintro o rfl
   rw [List.take_length]
   simp+contextual(maxSteps:=1000000)(disch:=omega)only[↓Sd,↓So,↓Sk,↓den,↓denA,Sa,Sb,Sc,Se,O1.d,O2.d,O3.d,cmI,arI,envOf,putN,↓reduceIte,Nat.reduceLT,Nat.reduceSub,Nat.reduceAdd,Int.reduceAdd,Int.reduceEq,Int.reduceLT,Int.reduceLE,arr_pos,arr_neg,hT]
   refine tab_congr fun k hk=>?_
   by_cases hki:k=i
   ·subst hki;simp;rfl
   ·by_cases hlt:k<i
    ·simp [hki,hlt,show k<i+1 by omega]
    ·simp [hki,hlt,show ¬k<i+1 by omega]
 ·rintro o rfl
  simp+contextual(maxSteps:=1000000)(disch:=omega)only[↓Sd,↓So,↓Sk,↓den,↓denA,Sa,Sb,Sc,Se,O1.d,O2.d,O3.d,cmI,arI,envOf,putN,↓reduceIte,Nat.reduceLT,Nat.reduceSub,Nat.reduceAdd,Int.reduceAdd,Int.reduceEq,Int.reduceLT,Int.reduceLE,arr_pos,arr_neg,hT]
  exact tab_congr fun k hk=>by simp [hk]
theorem behind_mem {T:List (List Int)} {l:List Int} {n k:Nat} (h:∀x∈l,0≤x∧x<(n:Int)):behind T (fun k=>dB ((k:Int)∈l)) n k↔∃x∈l,(k:Int)∈T.getD x.toNat []:=by
 constructor
 ·rintro ⟨a,h1,h2,h3⟩
  exact ⟨(a:Int),dB_iff.1 h2,by simpa using h3⟩
 ·rintro ⟨x,h1,h2⟩
  have:=h x h1
  exact ⟨x.toNat,by omega,dB_t (by rw [show ((x.toNat:Nat):Int)=x by omega];exact h1),h2⟩
theorem ovr_mem {T:List (List Int)} {l:List Int} {n k:Nat} (h:∀x∈l,0≤x∧x<(n:Int)):ovr T l k=dB (behind T (fun k=>dB ((k:Int)∈l)) n k):=dB_congr (behind_mem h).symm
noncomputable def nextN (s:Sy) (l:List Int):List Int:=upTo (fun k=>dB (behind (steps s) (fun k=>dB ((k:Int)∈l)) (szn s.1) k)) (szn s.1)
theorem C_impl_NextNumbers (s:Sy) (l:List Int) (hs:FewSy s) (hl:l.length≤1048576) (Q:List AV→Prop):mc.C f_impl_NextNumbers [⟨L V3,s.1⟩,⟨L TR,s.2⟩,⟨L I,l⟩] Q=Q [⟨L I,if setV s l then nextN s l else []⟩]:=by
 refine Mc.Ends.c (mc.ends F_impl_NextNumbers ?_)
 simp+contextual(maxSteps:=1000000)(disch:=omega)only[↓Sd,↓So,↓Sk,↓den,↓denA,Sa,Sb,Sc,Se,O1.d,O2.d,O3.d,cmI,arI,envOf,putN,↓reduceIte,Nat.reduceLT,Nat.reduceSub,Nat.reduceAdd,Int.reduceAdd,Int.reduceEq,Int.reduceLT,Int.reduceLE,arr_pos,arr_neg,tr_impl_NextNumbers,C_impl_SetValid s l hs hl]
 intro h
 have hz:=szn_eq h.1
 simp+contextual(maxSteps:=1000000)(disch:=omega)only[↓Sd,↓So,↓Sk,↓den,↓denA,Sa,Sb,Sc,Se,O1.d,O2.d,O3.d,cmI,arI,envOf,putN,↓reduceIte,Nat.reduceLT,Nat.reduceSub,Nat.reduceAdd,Int.reduceAdd,Int.reduceEq,Int.reduceLT,Int.reduceLE,arr_pos,arr_neg,C_impl_nexts s h.1,C_impl_over (steps s) l (szn s.1) (by omega) (steps_tbl h.1) hl h.mem,if_pos h]
 exact upTo_congr fun k hk=>ovr_mem h.mem
theorem getD_set_ne {α:Type} {l:List α} {i j:Nat} {x d:α} (h:i≠j):(l.set i x).getD j d=l.getD j d:=by
 simp [List.getD_eq_getElem?_getD,List.getElem?_set,h]
def Same {α:Type} (l s:List α) (d:α) (i:Nat):Prop:=s.length=l.length∧∀j,i≤j→s.getD j d=l.getD j d
theorem Same.set {α:Type} {l s:List α} {d x:α} {i:Nat} (h:Same l s d i):Same l (s.set i x) d (i+1) :=
 ⟨by rw [List.length_set];exact h.1,fun j hj=>by rw [getD_set_ne (by omega)];exact h.2 j (by omega)⟩
theorem iD {k:IntKind} {a b:Int} (h:a=b):@Eq (Ty.int k).D a b:=h
theorem upTo_pos {p:Nat→Bool} {n:Nat}:0<(upTo p n).length↔∃k,k<n∧p k=true:=by
 constructor
 ·intro h
  obtain ⟨k,h1,_,h3⟩:=upTo_mem.1 (getD_mem (d:=0) h)
  exact ⟨k,h1,h3⟩
 ·rintro ⟨k,h1,h2⟩
  exact List.length_pos_of_mem (upTo_mem.2 ⟨k,h1,rfl,h2⟩)
theorem Rch.trans {T:List (List Int)} {a b c:Nat} (h:Rch T [(a:Int)] b) (h2:Rch T [(b:Int)] c):Rch T [(a:Int)] c:=by
 induction h2 with
 | base h3=>simp only [List.mem_singleton] at h3;have h3:=Int.ofNat_inj.1 h3;subst h3;exact h
 | step _ h3 ih=>exact .step ih h3
abbrev RD:Ty:=P (L U) I
def Byt (b:List Int):Prop:=∀x∈b,0≤x∧x≤255
def Rdy (b:List Int):Prop:=Byt b∧b.length≤2000
theorem Byt.get {b:List Int} (h:Byt b) (i:Nat):0≤b.getD i 0∧b.getD i 0≤255:=by
 by_cases hi:i<b.length
 ·exact h _ (getD_mem hi)
 ·rw [List.getD_eq_getElem?_getD,List.getElem?_eq_none (by omega)];simp
theorem xor_bd {x y:Int} (hx:0≤x∧x<1099511627776) (hy:0≤y∧y<1099511627776):0≤IntKind.i64.wrap ((BitVec.ofInt IntKind.i64.bits x ^^^ BitVec.ofInt IntKind.i64.bits y).toNat:Int):=by
 have e:∀z:Int,0≤z∧z<1099511627776→(BitVec.ofInt IntKind.i64.bits z).toNat<2 ^ 40:=by
  intro z hz
  rw [BitVec.toNat_ofInt]
  show Int.toNat (z % (2:Int) ^ 64)<2 ^ 40
  omega
 have h:(BitVec.ofInt IntKind.i64.bits x ^^^ BitVec.ofInt IntKind.i64.bits y).toNat<2 ^ 40:=by
  rw [BitVec.toNat_xor]
  exact Nat.xor_lt_two_pow (e x hx) (e y hy)
 rw [wrap_id (by omega) (by omega)]
 omega
theorem D_pick (b:List Int) (p n:Int) (hb:Rdy b) (hp:0≤p∧p≤1000000000) {Q:List AV→Prop} (h:∀v:Int,0≤v→(1≤n→v<n)→Q [⟨I,v⟩,⟨RD,(b,p+1)⟩]):mc.C f_spec_l40Rd_pick [⟨RD,(b,p)⟩,⟨I,n⟩] Q:=by
 refine mc.c_of F_spec_l40Rd_pick ?_
 have hl:=hb.2
 simp+contextual(maxSteps:=1000000)(disch:=omega)only[↓Sd,↓So,↓Sk,↓den,↓denA,Sa,Sb,Sc,Se,O1.d,O2.d,O3.d,cmI,arI,envOf,putN,↓reduceIte,Nat.reduceLT,Nat.reduceSub,Nat.reduceAdd,Int.reduceAdd,Int.reduceEq,Int.reduceLT,Int.reduceLE,arr_pos,arr_neg,tr_spec_l40Rd_pick]
 refine ⟨fun g=>h 0 (by omega) (by omega),fun g=>⟨fun g2=>h 0 (by omega) (by omega),fun g2=>?_⟩⟩
 have hn:1≤n:=by omega
 have hlb:0<(b.length:Int):=by omega
 refine ⟨fun g3=>?_,fun g3=>?_⟩
 ·have h1:=hb.1.get p.toNat
  rw [wrap_id (by omega) (by omega),Int.tmod_eq_emod_of_nonneg h1.1]
  exact h _ (Int.emod_nonneg _ (by omega)) fun _=>Int.emod_lt_of_pos _ (by omega)
 ·have a1:=Int.emod_nonneg p (show (b.length:Int)≠0 by omega)
  have a2:=Int.emod_lt_of_pos p hlb
  have a3:=Int.emod_nonneg (p * 7+3) (show (b.length:Int)≠0 by omega)
  have a4:=Int.emod_lt_of_pos (p * 7+3) hlb
  have a5:=Int.ediv_nonneg hp.1 (Int.le_of_lt hlb)
  have a6:=Int.ediv_le_self (b.length:Int) hp.1
  have h1:=hb.1.get (p % (b.length:Int)).toNat
  have h2:=hb.1.get ((p * 7+3) % (b.length:Int)).toNat
  refine ⟨a1,a2,a3,a4,?_⟩
  generalize b.getD (p % (b.length:Int)).toNat 0=x1 at *
  generalize b.getD ((p * 7+3) % (b.length:Int)).toNat 0=x2 at *
  generalize p / (b.length:Int)=x3 at *
  rw [wrap_id (x:=x1) (by omega) (by omega),wrap_id (x:=x2) (by omega) (by omega),wrap_id (x:=x3) (by omega) (by omega),wrap_id (x:=x1 * 131) (by omega) (by omega),wrap_id (x:=x2 * 1117) (by omega) (by omega),wrap_id (x:=x1 * 131+x2 * 1117) (by omega) (by omega),wrap_id (x:=x1 * 131+x2 * 1117+p * 29) (by omega) (by omega),wrap_id (x:=x3 * 53) (by omega) (by omega),wrap_id (x:=x1 * 131+x2 * 1117+p * 29+x3 * 53) (by omega) (by omega)]
  obtain ⟨y,hy⟩:∃y,x1 * 131+x2 * 1117+p * 29+x3 * 53=y:=⟨_,rfl⟩
  have hyb:0≤y∧y<1099511627776:=by omega
  rw [hy,Int.tdiv_eq_ediv_of_nonneg hyb.1,wrap_id (x:=y / 64) (by omega) (by omega)]
  have h4:=xor_bd hyb (y:=y / 64) (by omega)
  rw [Int.tmod_eq_emod_of_nonneg h4]
  exact h _ (Int.emod_nonneg _ (by omega)) fun _=>Int.emod_lt_of_pos _ (by omega)
theorem D_pick1 (b:List Int) (p n:Int) (hb:Rdy b) (hp:0≤p∧p≤1000000000) (hn:1≤n) {Q:List AV→Prop} (h:∀v:Int,0≤v→v<n→Q [⟨I,v⟩,⟨RD,(b,p+1)⟩]):mc.C f_spec_l40Rd_pick [⟨RD,(b,p)⟩,⟨I,n⟩] Q:=D_pick b p n hb hp fun v h0 h1=>h v h0 (h1 hn)
theorem D_num (b:List Int) (p:Int) (l:List Int) (hb:Rdy b) (hp:0≤p∧p≤1000000000) (hl:l≠[]) (hl2:l.length≤1048576) {Q:List AV→Prop} (h:∀v:Int,v∈l→Q [⟨I,v⟩,⟨RD,(b,p+1)⟩]):mc.C f_spec_l40Rd_num [⟨RD,(b,p)⟩,⟨L I,l⟩] Q:=by
 have hl1:0<l.length:=List.length_pos_iff.2 hl
 refine mc.c_of F_spec_l40Rd_num ?_
 simp+contextual(maxSteps:=1000000)(disch:=omega)only[↓Sd,↓So,↓Sk,↓den,↓denA,Sa,Sb,Sc,Se,O1.d,O2.d,O3.d,cmI,arI,envOf,putN,↓reduceIte,Nat.reduceLT,Nat.reduceSub,Nat.reduceAdd,Int.reduceAdd,Int.reduceEq,Int.reduceLT,Int.reduceLE,arr_pos,arr_neg,tr_spec_l40Rd_num]
 refine D_pick1 b p _ hb hp (by omega) fun v h0 h1=>?_
 simp+contextual(maxSteps:=1000000)(disch:=omega)only[↓Sd,↓So,↓Sk,↓den,↓denA,Sa,Sb,Sc,Se,O1.d,O2.d,O3.d,cmI,arI,envOf,putN,↓reduceIte,Nat.reduceLT,Nat.reduceSub,Nat.reduceAdd,Int.reduceAdd,Int.reduceEq,Int.reduceLT,Int.reduceLE,arr_pos,arr_neg,]
 exact h _ (getD_mem (by omega))
theorem D_open (b:List Int) (hb:Byt b) (hl:Lt63 b) {Q:List AV→Prop} (h:∀b',Rdy b'→Q [⟨RD,(b',0)⟩]):mc.C f_spec_l40Open [⟨L U,b⟩] Q:=by
 unfold Lt63 at hl
 refine mc.c_of F_spec_l40Open ?_
 simp+contextual(maxSteps:=1000000)(disch:=omega)only[↓Sd,↓So,↓Sk,↓den,↓denA,Sa,Sb,Sc,Se,O1.d,O2.d,O3.d,cmI,arI,envOf,putN,↓reduceIte,Nat.reduceLT,Nat.reduceSub,Nat.reduceAdd,Int.reduceAdd,Int.reduceEq,Int.reduceLT,Int.reduceLE,arr_pos,arr_neg,↓wpJoin,tr_spec_l40Open]
 refine ⟨fun g=>?_,fun g=>h b ⟨hb,by omega⟩⟩
 refine h _ ⟨fun x hx=>hb x ?_,?_⟩
 ·exact List.mem_of_mem_take hx
 ·rw [List.length_take];omega
theorem D_l1Number (b:List Int) (p:Int) (hb:Rdy b) (hp:0≤p∧p≤900000000) {Q:List AV→Prop} (h:∀v p':Int,p≤p'∧p'≤p+6→Q [⟨I,v⟩,⟨RD,(b,p')⟩]):mc.C f_spec_l1Number [⟨RD,(b,p)⟩] Q:=by
 refine mc.c_of F_spec_l1Number ?_
 simp+contextual(maxSteps:=1000000)(disch:=omega)only[↓Sd,↓So,↓Sk,↓den,↓denA,Sa,Sb,Sc,Se,O1.d,O2.d,O3.d,cmI,arI,envOf,putN,↓reduceIte,Nat.reduceLT,Nat.reduceSub,Nat.reduceAdd,Int.reduceAdd,Int.reduceEq,Int.reduceLT,Int.reduceLE,arr_pos,arr_neg,tr_spec_l1Number]
 refine D_pick1 _ _ _ hb (by omega) (by omega) fun v1 v10 v11=>?_;simp+contextual(maxSteps:=1000000)(disch:=omega)only[↓Sd,↓So,↓Sk,↓den,↓denA,Sa,Sb,Sc,Se,O1.d,O2.d,O3.d,cmI,arI,envOf,putN,↓reduceIte,Nat.reduceLT,Nat.reduceSub,Nat.reduceAdd,Int.reduceAdd,Int.reduceEq,Int.reduceLT,Int.reduceLE,arr_pos,arr_neg,]
 refine D_pick1 _ _ _ hb (by omega) (by omega) fun v2 v20 v21=>?_;simp+contextual(maxSteps:=1000000)(disch:=omega)only[↓Sd,↓So,↓Sk,↓den,↓denA,Sa,Sb,Sc,Se,O1.d,O2.d,O3.d,cmI,arI,envOf,putN,↓reduceIte,Nat.reduceLT,Nat.reduceSub,Nat.reduceAdd,Int.reduceAdd,Int.reduceEq,Int.reduceLT,Int.reduceLE,arr_pos,arr_neg,]
 refine D_pick1 _ _ _ hb (by omega) (by omega) fun v3 v30 v31=>?_;simp+contextual(maxSteps:=1000000)(disch:=omega)only[↓Sd,↓So,↓Sk,↓den,↓denA,Sa,Sb,Sc,Se,O1.d,O2.d,O3.d,cmI,arI,envOf,putN,↓reduceIte,Nat.reduceLT,Nat.reduceSub,Nat.reduceAdd,Int.reduceAdd,Int.reduceEq,Int.reduceLT,Int.reduceLE,arr_pos,arr_neg,]
 refine D_pick1 _ _ _ hb (by omega) (by omega) fun v4 v40 v41=>?_;simp+contextual(maxSteps:=1000000)(disch:=omega)only[↓Sd,↓So,↓Sk,↓den,↓denA,Sa,Sb,Sc,Se,O1.d,O2.d,O3.d,cmI,arI,envOf,putN,↓reduceIte,Nat.reduceLT,Nat.reduceSub,Nat.reduceAdd,Int.reduceAdd,Int.reduceEq,Int.reduceLT,Int.reduceLE,arr_pos,arr_neg,]
 refine D_pick1 _ _ _ hb (by omega) (by omega) fun v5 v50 v51=>?_;simp+contextual(maxSteps:=1000000)(disch:=omega)only[↓Sd,↓So,↓Sk,↓den,↓denA,Sa,Sb,Sc,Se,O1.d,O2.d,O3.d,cmI,arI,envOf,putN,↓reduceIte,Nat.reduceLT,Nat.reduceSub,Nat.reduceAdd,Int.reduceAdd,Int.reduceEq,Int.reduceLT,Int.reduceLE,arr_pos,arr_neg,]
 refine D_num _ _ _ hb (by omega) (by simp) (by simp) fun v v0=>?_;simp+contextual(maxSteps:=1000000)(disch:=omega)only[↓Sd,↓So,↓Sk,↓den,↓denA,Sa,Sb,Sc,Se,O1.d,O2.d,O3.d,cmI,arI,envOf,putN,↓reduceIte,Nat.reduceLT,Nat.reduceSub,Nat.reduceAdd,Int.reduceAdd,Int.reduceEq,Int.reduceLT,Int.reduceLE,arr_pos,arr_neg,]
 exact h v _ (by omega)
theorem D_l1Pick (b:List Int) (p:Int) (ks:List Int) (kind:Int) (hb:Rdy b) (hp:0≤p∧p≤900000000) (hk:0<ks.length) (hk2:ks.length≤1000) {Q:List AV→Prop} (h:∀v:Int,-1≤v∧v<ks.length→Q [⟨I,v⟩,⟨RD,(b,p+1)⟩]):mc.C f_spec_l1Pick [⟨RD,(b,p)⟩,⟨L I,ks⟩,⟨I,kind⟩] Q:=by
 refine mc.c_of F_spec_l1Pick ?_
 simp+contextual(maxSteps:=1000000)(disch:=omega)only[↓Sd,↓So,↓Sk,↓den,↓denA,Sa,Sb,Sc,Se,O1.d,O2.d,O3.d,cmI,arI,envOf,putN,↓reduceIte,Nat.reduceLT,Nat.reduceSub,Nat.reduceAdd,Int.reduceAdd,Int.reduceEq,Int.reduceLT,Int.reduceLE,arr_pos,arr_neg,tr_spec_l1Pick]
 refine D_pick1 _ _ _ hb (by omega) (by omega) fun a a0 a1=>?_;simp+contextual(maxSteps:=1000000)(disch:=omega)only[↓Sd,↓So,↓Sk,↓den,↓denA,Sa,Sb,Sc,Se,O1.d,O2.d,O3.d,cmI,arI,envOf,putN,↓reduceIte,Nat.reduceLT,Nat.reduceSub,Nat.reduceAdd,Int.reduceAdd,Int.reduceEq,Int.reduceLT,Int.reduceLE,arr_pos,arr_neg,]
 refine mc.lp_for Unit (fun i _=>[⟨L I,ks⟩,⟨I,kind⟩,⟨I,a⟩,⟨I,(i:Int)⟩,⟨L U,b⟩,⟨I,p+1⟩]) (fun _ _=>True) ks.length 0 () _ rfl (Nat.zero_le _) trivial ?_ ?_
 ·rintro i - hi -
  have a1:=Int.emod_nonneg (a+(i:Int)) (show (ks.length:Int)≠0 by omega)
  have a2:=Int.emod_lt_of_pos (a+(i:Int)) (show 0<(ks.length:Int) by omega)
  simp+contextual(maxSteps:=1000000)(disch:=omega)only[↓Sd,↓So,↓Sk,↓den,↓denA,Sa,Sb,Sc,Se,O1.d,O2.d,O3.d,cmI,arI,envOf,putN,↓reduceIte,Nat.reduceLT,Nat.reduceSub,Nat.reduceAdd,Int.reduceAdd,Int.reduceEq,Int.reduceLT,Int.reduceLE,arr_pos,arr_neg,]
  exact fun _=>h _ (by omega)
 ·rintro - -
  simp+contextual(maxSteps:=1000000)(disch:=omega)only[↓Sd,↓So,↓Sk,↓den,↓denA,Sa,Sb,Sc,Se,O1.d,O2.d,O3.d,cmI,arI,envOf,putN,↓reduceIte,Nat.reduceLT,Nat.reduceSub,Nat.reduceAdd,Int.reduceAdd,Int.reduceEq,Int.reduceLT,Int.reduceLE,arr_pos,arr_neg,]
  exact h _ (by omega)
theorem C_spec_l2VarOf (n:Int) (Q:List AV→Prop):mc.C f_spec_l2VarOf [⟨I,n⟩] Q=Q [⟨I,1⟩,⟨I,n⟩,⟨I,0⟩,⟨I,0⟩]:=Mc.Ends.c (mc.ends F_spec_l2VarOf (by simp+contextual(maxSteps:=1000000)(disch:=omega)only[↓Sd,↓So,↓Sk,↓den,↓denA,Sa,Sb,Sc,Se,O1.d,O2.d,O3.d,cmI,arI,envOf,putN,↓reduceIte,Nat.reduceLT,Nat.reduceSub,Nat.reduceAdd,Int.reduceAdd,Int.reduceEq,Int.reduceLT,Int.reduceLE,arr_pos,arr_neg,tr_spec_l2VarOf]))
theorem C_spec_l2Const (n:Int) (Q:List AV→Prop):mc.C f_spec_l2Const [⟨I,n⟩] Q=Q [⟨I,0⟩,⟨I,n⟩,⟨I,0⟩,⟨I,0⟩]:=Mc.Ends.c (mc.ends F_spec_l2Const (by simp+contextual(maxSteps:=1000000)(disch:=omega)only[↓Sd,↓So,↓Sk,↓den,↓denA,Sa,Sb,Sc,Se,O1.d,O2.d,O3.d,cmI,arI,envOf,putN,↓reduceIte,Nat.reduceLT,Nat.reduceSub,Nat.reduceAdd,Int.reduceAdd,Int.reduceEq,Int.reduceLT,Int.reduceLE,arr_pos,arr_neg,tr_spec_l2Const]))
theorem D_l2Cond (b:List Int) (p:Int) (v:Vr) (at_:Int) (hb:Rdy b) (hp:0≤p∧p≤900000000) {Q:List AV→Prop} (h:∀(l:List Tm) (p':Int),p≤p'∧p'≤p+3→l.length≤4→Q [⟨L T4,l⟩,⟨RD,(b,p')⟩]):mc.C f_spec_l2Cond [⟨RD,(b,p)⟩,⟨I,v.1⟩,⟨I,v.2.1⟩,⟨I,v.2.2⟩,⟨I,at_⟩] Q:=by
 refine mc.c_of F_spec_l2Cond ?_
 simp+contextual(maxSteps:=1000000)(disch:=omega)only[↓Sd,↓So,↓Sk,↓den,↓denA,Sa,Sb,Sc,Se,O1.d,O2.d,O3.d,cmI,arI,envOf,putN,↓reduceIte,Nat.reduceLT,Nat.reduceSub,Nat.reduceAdd,Int.reduceAdd,Int.reduceEq,Int.reduceLT,Int.reduceLE,arr_pos,arr_neg,tr_spec_l2Cond]
 refine D_pick _ _ _ hb (by omega) fun n _ _=>?_
 simp+contextual(maxSteps:=1000000)(disch:=omega)only[↓Sd,↓So,↓Sk,↓den,↓denA,Sa,Sb,Sc,Se,O1.d,O2.d,O3.d,cmI,arI,envOf,putN,↓reduceIte,Nat.reduceLT,Nat.reduceSub,Nat.reduceAdd,Int.reduceAdd,Int.reduceEq,Int.reduceLT,Int.reduceLE,arr_pos,arr_neg,↓wpJoin,]
 refine D_num _ _ _ hb (by omega) (by simp) (by simp) fun o o0=>?_;simp+contextual(maxSteps:=1000000)(disch:=omega)only[↓Sd,↓So,↓Sk,↓den,↓denA,Sa,Sb,Sc,Se,O1.d,O2.d,O3.d,cmI,arI,envOf,putN,↓reduceIte,Nat.reduceLT,Nat.reduceSub,Nat.reduceAdd,Int.reduceAdd,Int.reduceEq,Int.reduceLT,Int.reduceLE,arr_pos,arr_neg,]
 simp+contextual(maxSteps:=1000000)(disch:=omega)only[↓Sd,↓So,↓Sk,↓den,↓denA,Sa,Sb,Sc,Se,O1.d,O2.d,O3.d,cmI,arI,envOf,putN,↓reduceIte,Nat.reduceLT,Nat.reduceSub,Nat.reduceAdd,Int.reduceAdd,Int.reduceEq,Int.reduceLT,Int.reduceLE,arr_pos,arr_neg,↓wpJoin,C_spec_l2VarOf,C_spec_l2Const]
 refine D_pick1 _ _ _ hb (by omega) (by omega) fun k k0 k1=>?_;simp+contextual(maxSteps:=1000000)(disch:=omega)only[↓Sd,↓So,↓Sk,↓den,↓denA,Sa,Sb,Sc,Se,O1.d,O2.d,O3.d,cmI,arI,envOf,putN,↓reduceIte,Nat.reduceLT,Nat.reduceSub,Nat.reduceAdd,Int.reduceAdd,Int.reduceEq,Int.reduceLT,Int.reduceLE,arr_pos,arr_neg,]
 exact ⟨fun _=>h _ _ (by omega) (by simp),fun _=>h _ _ (by omega) (by simp)⟩
def mvT (t:Tm) (n:Int):Tm:=if 2≤t.1 then (t.1,0,IntKind.i64.wrap (t.2.2.1+n),IntKind.i64.wrap (t.2.2.2+n)) else t
theorem C_spec_l1Moved (t:Tm) (n:Int) (Q:List AV→Prop):mc.C f_spec_l1Moved [⟨I,t.1⟩,⟨I,t.2.1⟩,⟨I,t.2.2.1⟩,⟨I,t.2.2.2⟩,⟨I,n⟩] Q=Q [⟨I,(mvT t n).1⟩,⟨I,(mvT t n).2.1⟩,⟨I,(mvT t n).2.2.1⟩,⟨I,(mvT t n).2.2.2⟩]:=by
 refine Mc.Ends.c (mc.ends F_spec_l1Moved ?_)
 unfold mvT
 by_cases g:2≤t.1
 ·rw [if_pos g]
  simp+contextual(maxSteps:=1000000)(disch:=omega)only[↓Sd,↓So,↓Sk,↓den,↓denA,Sa,Sb,Sc,Se,O1.d,O2.d,O3.d,cmI,arI,envOf,putN,↓reduceIte,Nat.reduceLT,Nat.reduceSub,Nat.reduceAdd,Int.reduceAdd,Int.reduceEq,Int.reduceLT,Int.reduceLE,arr_pos,arr_neg,tr_spec_l1Moved]
 ·rw [if_neg g]
  simp+contextual(maxSteps:=1000000)(disch:=omega)only[↓Sd,↓So,↓Sk,↓den,↓denA,Sa,Sb,Sc,Se,O1.d,O2.d,O3.d,cmI,arI,envOf,putN,↓reduceIte,Nat.reduceLT,Nat.reduceSub,Nat.reduceAdd,Int.reduceAdd,Int.reduceEq,Int.reduceLT,Int.reduceLE,arr_pos,arr_neg,tr_spec_l1Moved]
theorem C_spec_TermsValid (l:List Tm) (vars:Int) (hl:Few l) (Q:List AV→Prop):mc.C f_spec_TermsValid [⟨L T4,l⟩,⟨I,vars⟩] Q=Q [⟨B,decide (((kdsOf l vars).length:Int) > 0)⟩]:=by
 refine Mc.Ends.c (mc.ends F_spec_TermsValid ?_)
 simp+contextual(maxSteps:=1000000)(disch:=omega)only[↓Sd,↓So,↓Sk,↓den,↓denA,Sa,Sb,Sc,Se,O1.d,O2.d,O3.d,cmI,arI,envOf,putN,↓reduceIte,Nat.reduceLT,Nat.reduceSub,Nat.reduceAdd,Int.reduceAdd,Int.reduceEq,Int.reduceLT,Int.reduceLE,arr_pos,arr_neg,tr_spec_TermsValid,C_spec_KindsOf l vars hl]
theorem D_Joined (o:Int) (l m:List Tm) (vars:Int) (hl:l.length≤1000) (hm:m.length≤1000) {Q:List AV→Prop} (h:∀(r:List Tm),r.length≤l.length+m.length+1→Q [⟨L T4,r⟩]):mc.C f_spec_Joined [⟨I,o⟩,⟨L T4,l⟩,⟨L T4,m⟩,⟨I,vars⟩] Q:=by
 have h1:Few l:=by unfold Few;omega
 have h2:Few m:=by unfold Few;omega
 refine mc.c_of F_spec_Joined ?_
 simp+contextual(maxSteps:=1000000)(disch:=omega)only[↓Sd,↓So,↓Sk,↓den,↓denA,Sa,Sb,Sc,Se,O1.d,O2.d,O3.d,cmI,arI,envOf,putN,↓reduceIte,Nat.reduceLT,Nat.reduceSub,Nat.reduceAdd,Int.reduceAdd,Int.reduceEq,Int.reduceLT,Int.reduceLE,arr_pos,arr_neg,tr_spec_Joined,C_spec_TermsValid l vars h1,C_spec_TermsValid m vars h2]
 refine ⟨fun _=>h _ (by simp),fun _=>⟨fun _=>h _ (by simp),fun _=>?_⟩⟩
 refine mc.lp_for (List Tm) (fun i s=>[⟨I,o⟩,⟨L T4,l⟩,⟨L T4,m⟩,⟨I,vars⟩,⟨I,(i:Int)⟩,⟨L T4,s⟩]) (fun i s=>s.length=i) l.length 0 [] _ rfl (Nat.zero_le _) rfl ?_ ?_
 ·rintro i s hi hs
  simp+contextual(maxSteps:=1000000)(disch:=omega)only[↓Sd,↓So,↓Sk,↓den,↓denA,Sa,Sb,Sc,Se,O1.d,O2.d,O3.d,cmI,arI,envOf,putN,↓reduceIte,Nat.reduceLT,Nat.reduceSub,Nat.reduceAdd,Int.reduceAdd,Int.reduceEq,Int.reduceLT,Int.reduceLE,arr_pos,arr_neg,]
  omega
 rintro s hs
 simp+contextual(maxSteps:=1000000)(disch:=omega)only[↓Sd,↓So,↓Sk,↓den,↓denA,Sa,Sb,Sc,Se,O1.d,O2.d,O3.d,cmI,arI,envOf,putN,↓reduceIte,Nat.reduceLT,Nat.reduceSub,Nat.reduceAdd,Int.reduceAdd,Int.reduceEq,Int.reduceLT,Int.reduceLE,arr_pos,arr_neg,↓wpJoin,]
 refine mc.lp_for (List Tm) (fun i s=>[⟨I,o⟩,⟨L T4,l⟩,⟨L T4,m⟩,⟨I,vars⟩,⟨I,(i:Int)⟩,⟨L T4,s⟩]) (fun i s=>s.length≤l.length+i) m.length 0 s _ rfl (Nat.zero_le _) (by omega) ?_ ?_
 ·rintro i s hi hs
  simp+contextual(maxSteps:=1000000)(disch:=omega)only[↓Sd,↓So,↓Sk,↓den,↓denA,Sa,Sb,Sc,Se,O1.d,O2.d,O3.d,cmI,arI,envOf,putN,↓reduceIte,Nat.reduceLT,Nat.reduceSub,Nat.reduceAdd,Int.reduceAdd,Int.reduceEq,Int.reduceLT,Int.reduceLE,arr_pos,arr_neg,C_spec_l1One,C_spec_l1Moved]
  refine ⟨fun _=>by omega,fun g=>?_⟩
  have hf:Few (s++[((7:Int),(0:Int),(l.length:Int) - 1,(s.length:Int) - 1)]):=by unfold Few;simp only [List.length_append,List.length_singleton];omega
  simp+contextual(maxSteps:=1000000)(disch:=omega)only[↓Sd,↓So,↓Sk,↓den,↓denA,Sa,Sb,Sc,Se,O1.d,O2.d,O3.d,cmI,arI,envOf,putN,↓reduceIte,Nat.reduceLT,Nat.reduceSub,Nat.reduceAdd,Int.reduceAdd,Int.reduceEq,Int.reduceLT,Int.reduceLE,arr_pos,arr_neg,C_spec_TermsValid _ vars hf]
  exact ⟨fun _=>h _ (by simp),fun _=>h _ (by simp only [List.length_append,List.length_singleton];omega)⟩
 ·rintro s hs
  simp+contextual(maxSteps:=1000000)(disch:=omega)only[↓Sd,↓So,↓Sk,↓den,↓denA,Sa,Sb,Sc,Se,O1.d,O2.d,O3.d,cmI,arI,envOf,putN,↓reduceIte,Nat.reduceLT,Nat.reduceSub,Nat.reduceAdd,Int.reduceAdd,Int.reduceEq,Int.reduceLT,Int.reduceLE,arr_pos,arr_neg,]
  refine ⟨fun _=>h _ (by simp),fun _=>?_⟩
  have hf:Few (s++[(o,(0:Int),(l.length:Int) - 1,(s.length:Int) - 1)]):=by unfold Few;simp only [List.length_append,List.length_singleton];omega
  simp+contextual(maxSteps:=1000000)(disch:=omega)only[↓Sd,↓So,↓Sk,↓den,↓denA,Sa,Sb,Sc,Se,O1.d,O2.d,O3.d,cmI,arI,envOf,putN,↓reduceIte,Nat.reduceLT,Nat.reduceSub,Nat.reduceAdd,Int.reduceAdd,Int.reduceEq,Int.reduceLT,Int.reduceLE,arr_pos,arr_neg,C_spec_TermsValid _ vars hf]
  exact ⟨fun _=>h _ (by simp),fun _=>h _ (by simp only [List.length_append,List.length_singleton];omega)⟩
theorem D_l2When (b:List Int) (p:Int) (vs:List Vr) (hb:Rdy b) (hp:0≤p∧p≤800000000) (hv:1≤vs.length) (hv2:vs.length≤1000) {Q:List AV→Prop} (h:∀(l:List Tm) (p':Int),p≤p'∧p'≤p+10→l.length≤9→Q [⟨L T4,l⟩,⟨RD,(b,p')⟩]):mc.C f_spec_l2When [⟨RD,(b,p)⟩,⟨L V3,vs⟩] Q:=by
 refine mc.c_of F_spec_l2When ?_
 simp+contextual(maxSteps:=1000000)(disch:=omega)only[↓Sd,↓So,↓Sk,↓den,↓denA,Sa,Sb,Sc,Se,O1.d,O2.d,O3.d,cmI,arI,envOf,putN,↓reduceIte,Nat.reduceLT,Nat.reduceSub,Nat.reduceAdd,Int.reduceAdd,Int.reduceEq,Int.reduceLT,Int.reduceLE,arr_pos,arr_neg,tr_spec_l2When]
 refine D_pick1 _ _ _ hb (by omega) (by omega) fun i i0 i1=>?_;simp+contextual(maxSteps:=1000000)(disch:=omega)only[↓Sd,↓So,↓Sk,↓den,↓denA,Sa,Sb,Sc,Se,O1.d,O2.d,O3.d,cmI,arI,envOf,putN,↓reduceIte,Nat.reduceLT,Nat.reduceSub,Nat.reduceAdd,Int.reduceAdd,Int.reduceEq,Int.reduceLT,Int.reduceLE,arr_pos,arr_neg,]
 refine D_l2Cond _ _ (vs.getD i.toNat (0,0,0)) _ hb (by omega) fun l p1 hp1 hl=>?_
 simp+contextual(maxSteps:=1000000)(disch:=omega)only[↓Sd,↓So,↓Sk,↓den,↓denA,Sa,Sb,Sc,Se,O1.d,O2.d,O3.d,cmI,arI,envOf,putN,↓reduceIte,Nat.reduceLT,Nat.reduceSub,Nat.reduceAdd,Int.reduceAdd,Int.reduceEq,Int.reduceLT,Int.reduceLE,arr_pos,arr_neg,↓wpJoin,]
 refine D_pick1 _ _ _ hb (by omega) (by omega) fun k k0 k1=>?_;simp+contextual(maxSteps:=1000000)(disch:=omega)only[↓Sd,↓So,↓Sk,↓den,↓denA,Sa,Sb,Sc,Se,O1.d,O2.d,O3.d,cmI,arI,envOf,putN,↓reduceIte,Nat.reduceLT,Nat.reduceSub,Nat.reduceAdd,Int.reduceAdd,Int.reduceEq,Int.reduceLT,Int.reduceLE,arr_pos,arr_neg,]
 refine ⟨fun _=>?_,fun _=>h _ _ (by omega) (by omega)⟩
 refine D_pick1 _ _ _ hb (by omega) (by omega) fun j j0 j1=>?_;simp+contextual(maxSteps:=1000000)(disch:=omega)only[↓Sd,↓So,↓Sk,↓den,↓denA,Sa,Sb,Sc,Se,O1.d,O2.d,O3.d,cmI,arI,envOf,putN,↓reduceIte,Nat.reduceLT,Nat.reduceSub,Nat.reduceAdd,Int.reduceAdd,Int.reduceEq,Int.reduceLT,Int.reduceLE,arr_pos,arr_neg,]
 refine D_num _ _ _ hb (by omega) (by simp) (by simp) fun o o0=>?_;simp+contextual(maxSteps:=1000000)(disch:=omega)only[↓Sd,↓So,↓Sk,↓den,↓denA,Sa,Sb,Sc,Se,O1.d,O2.d,O3.d,cmI,arI,envOf,putN,↓reduceIte,Nat.reduceLT,Nat.reduceSub,Nat.reduceAdd,Int.reduceAdd,Int.reduceEq,Int.reduceLT,Int.reduceLE,arr_pos,arr_neg,]
 refine D_l2Cond _ _ (vs.getD j.toNat (0,0,0)) _ hb (by omega) fun m p2 hp2 hm=>?_
 simp+contextual(maxSteps:=1000000)(disch:=omega)only[↓Sd,↓So,↓Sk,↓den,↓denA,Sa,Sb,Sc,Se,O1.d,O2.d,O3.d,cmI,arI,envOf,putN,↓reduceIte,Nat.reduceLT,Nat.reduceSub,Nat.reduceAdd,Int.reduceAdd,Int.reduceEq,Int.reduceLT,Int.reduceLE,arr_pos,arr_neg,]
 refine D_Joined _ _ _ _ (by omega) (by omega) fun r hr=>?_
 simp+contextual(maxSteps:=1000000)(disch:=omega)only[↓Sd,↓So,↓Sk,↓den,↓denA,Sa,Sb,Sc,Se,O1.d,O2.d,O3.d,cmI,arI,envOf,putN,↓reduceIte,Nat.reduceLT,Nat.reduceSub,Nat.reduceAdd,Int.reduceAdd,Int.reduceEq,Int.reduceLT,Int.reduceLE,arr_pos,arr_neg,↓wpJoin,]
 exact h _ _ (by omega) (by omega)
theorem D_l1Terms (b:List Int) (p vars kind most:Int) (hb:Rdy b) (hp:0≤p∧p≤800000000) (hv:0≤vars∧vars≤5) (hm:1≤most∧most≤12) {Q:List AV→Prop} (h:∀(l:List Tm) (p':Int),p≤p'∧p'≤p+400→1≤l.length→l.length≤16→Q [⟨L T4,l⟩,⟨RD,(b,p')⟩]):mc.C f_spec_l1Terms [⟨RD,(b,p)⟩,⟨I,vars⟩,⟨I,kind⟩,⟨I,most⟩] Q:=by
 refine mc.c_of F_spec_l1Terms ?_
 simp+contextual(maxSteps:=1000000)(disch:=omega)only[↓Sd,↓So,↓Sk,↓den,↓denA,Sa,Sb,Sc,Se,O1.d,O2.d,O3.d,cmI,arI,envOf,putN,↓reduceIte,Nat.reduceLT,Nat.reduceSub,Nat.reduceAdd,Int.reduceAdd,Int.reduceEq,Int.reduceLT,Int.reduceLE,arr_pos,arr_neg,tr_spec_l1Terms]
 refine D_pick1 _ _ _ hb (by omega) (by omega) fun n n0 n1=>?_;simp+contextual(maxSteps:=1000000)(disch:=omega)only[↓Sd,↓So,↓Sk,↓den,↓denA,Sa,Sb,Sc,Se,O1.d,O2.d,O3.d,cmI,arI,envOf,putN,↓reduceIte,Nat.reduceLT,Nat.reduceSub,Nat.reduceAdd,Int.reduceAdd,Int.reduceEq,Int.reduceLT,Int.reduceLE,arr_pos,arr_neg,]
 obtain ⟨N,hN⟩:∃N:Nat,n=N:=⟨n.toNat,by omega⟩
 subst hN
 refine mc.lp_inv (fun k us=>∃(p1:Int) (l:List Tm) (ks:List Int),us=[⟨I,vars⟩,⟨I,kind⟩,⟨I,(k:Int)⟩,⟨L U,b⟩,⟨I,p1⟩,⟨L T4,l⟩,⟨L I,ks⟩]∧l.length=ks.length∧l.length+k≤2+N∧p≤p1∧p1+20 * k≤p+1+20 * (2+N)) (2+N) _ ⟨p+1,[],[],by simp,rfl,by simp,by omega,by omega⟩ ?_
 rintro k us ⟨p1,l,ks,rfl,i1,i2,i3,i4⟩
 cases k with
 | zero =>
  simp+contextual(maxSteps:=1000000)(disch:=omega)only[↓Sd,↓So,↓Sk,↓den,↓denA,Sa,Sb,Sc,Se,O1.d,O2.d,O3.d,cmI,arI,envOf,putN,↓reduceIte,Nat.reduceLT,Nat.reduceSub,Nat.reduceAdd,Int.reduceAdd,Int.reduceEq,Int.reduceLT,Int.reduceLE,arr_pos,arr_neg,]
  refine mc.wp_join (fun us=>∃(l:List Tm) (ks:List Int),us=[⟨I,kind⟩,⟨L U,b⟩,⟨I,p1⟩,⟨L T4,l⟩,⟨L I,ks⟩]∧l.length=ks.length∧1≤l.length∧l.length≤14) ?_ ?_
  ·simp+contextual(maxSteps:=1000000)(disch:=omega)only[↓Sd,↓So,↓Sk,↓den,↓denA,Sa,Sb,Sc,Se,O1.d,O2.d,O3.d,cmI,arI,envOf,putN,↓reduceIte,Nat.reduceLT,Nat.reduceSub,Nat.reduceAdd,Int.reduceAdd,Int.reduceEq,Int.reduceLT,Int.reduceLE,arr_pos,arr_neg,]
   refine ⟨fun g=>⟨_,_,⟨rfl,rfl⟩,by simp [i1],by simp,?_⟩,fun g=>⟨l,ks,⟨rfl,rfl⟩,i1,by omega,by omega⟩⟩
   simp only [List.length_append,List.length_singleton];omega
  ·rintro us ⟨l,ks,rfl,a1,a2,a3⟩
   refine mc.wp_join (fun us=>∃(p2:Int) (l:List Tm),us=[⟨L U,b⟩,⟨I,p2⟩,⟨L T4,l⟩]∧p≤p2∧p2≤p+390∧1≤l.length∧l.length≤16) ?_ ?_
   ·have ln1:∀x:Tm,1≤(l++[x]).length∧(l++[x]).length≤16:=fun x=>by simp only [List.length_append,List.length_singleton];omega
    simp+contextual(maxSteps:=1000000)(disch:=omega)only[↓Sd,↓So,↓Sk,↓den,↓denA,Sa,Sb,Sc,Se,O1.d,O2.d,O3.d,cmI,arI,envOf,putN,↓reduceIte,Nat.reduceLT,Nat.reduceSub,Nat.reduceAdd,Int.reduceAdd,Int.reduceEq,Int.reduceLT,Int.reduceLE,arr_pos,arr_neg,]
    refine ⟨fun _=>⟨fun _=>?_,fun _=>⟨_,_,⟨rfl,rfl⟩,by omega,by omega,by omega,by omega⟩⟩,fun _=>⟨fun _=>⟨fun _=>?_,fun _=>⟨_,_,⟨rfl,rfl⟩,by omega,by omega,by omega,by omega⟩⟩,fun _=>⟨_,_,⟨rfl,rfl⟩,by omega,by omega,by omega,by omega⟩⟩⟩
    ·refine D_num _ _ _ hb (by omega) (by simp) (by simp) fun o o0=>?_;simp+contextual(maxSteps:=1000000)(disch:=omega)only[↓Sd,↓So,↓Sk,↓den,↓denA,Sa,Sb,Sc,Se,O1.d,O2.d,O3.d,cmI,arI,envOf,putN,↓reduceIte,Nat.reduceLT,Nat.reduceSub,Nat.reduceAdd,Int.reduceAdd,Int.reduceEq,Int.reduceLT,Int.reduceLE,arr_pos,arr_neg,]
     refine D_l1Pick _ _ _ _ hb (by omega) (by omega) (by omega) fun x hx=>?_
     simp+contextual(maxSteps:=1000000)(disch:=omega)only[↓Sd,↓So,↓Sk,↓den,↓denA,Sa,Sb,Sc,Se,O1.d,O2.d,O3.d,cmI,arI,envOf,putN,↓reduceIte,Nat.reduceLT,Nat.reduceSub,Nat.reduceAdd,Int.reduceAdd,Int.reduceEq,Int.reduceLT,Int.reduceLE,arr_pos,arr_neg,]
     exact ⟨_,_,⟨rfl,rfl⟩,by omega,by omega,(ln1 _).1,(ln1 _).2⟩
    ·refine D_l1Pick _ _ _ _ hb (by omega) (by omega) (by omega) fun x hx=>?_
     simp+contextual(maxSteps:=1000000)(disch:=omega)only[↓Sd,↓So,↓Sk,↓den,↓denA,Sa,Sb,Sc,Se,O1.d,O2.d,O3.d,cmI,arI,envOf,putN,↓reduceIte,Nat.reduceLT,Nat.reduceSub,Nat.reduceAdd,Int.reduceAdd,Int.reduceEq,Int.reduceLT,Int.reduceLE,arr_pos,arr_neg,]
     refine D_num _ _ _ hb (by omega) (by simp) (by simp) fun o o0=>?_;simp+contextual(maxSteps:=1000000)(disch:=omega)only[↓Sd,↓So,↓Sk,↓den,↓denA,Sa,Sb,Sc,Se,O1.d,O2.d,O3.d,cmI,arI,envOf,putN,↓reduceIte,Nat.reduceLT,Nat.reduceSub,Nat.reduceAdd,Int.reduceAdd,Int.reduceEq,Int.reduceLT,Int.reduceLE,arr_pos,arr_neg,]
     refine D_l1Pick _ _ _ _ hb (by omega) (by omega) (by omega) fun y hy=>?_
     simp+contextual(maxSteps:=1000000)(disch:=omega)only[↓Sd,↓So,↓Sk,↓den,↓denA,Sa,Sb,Sc,Se,O1.d,O2.d,O3.d,cmI,arI,envOf,putN,↓reduceIte,Nat.reduceLT,Nat.reduceSub,Nat.reduceAdd,Int.reduceAdd,Int.reduceEq,Int.reduceLT,Int.reduceLE,arr_pos,arr_neg,]
     exact ⟨_,_,⟨rfl,rfl⟩,by omega,by omega,(ln1 _).1,(ln1 _).2⟩
   ·rintro us ⟨p2,l,rfl,c1,c2,c3,c4⟩
    simp+contextual(maxSteps:=1000000)(disch:=omega)only[↓Sd,↓So,↓Sk,↓den,↓denA,Sa,Sb,Sc,Se,O1.d,O2.d,O3.d,cmI,arI,envOf,putN,↓reduceIte,Nat.reduceLT,Nat.reduceSub,Nat.reduceAdd,Int.reduceAdd,Int.reduceEq,Int.reduceLT,Int.reduceLE,arr_pos,arr_neg,]
    exact h _ _ (by omega) (by omega) (by omega)
 | succ k =>
  simp+contextual(maxSteps:=1000000)(disch:=omega)only[↓Sd,↓So,↓Sk,↓den,↓denA,Sa,Sb,Sc,Se,O1.d,O2.d,O3.d,cmI,arI,envOf,putN,↓reduceIte,Nat.reduceLT,Nat.reduceSub,Nat.reduceAdd,Int.reduceAdd,Int.reduceEq,Int.reduceLT,Int.reduceLE,arr_pos,arr_neg,]
  refine mc.wp_join (fun us=>∃(p2:Int) (l:List Tm) (ks:List Int),us=[⟨I,vars⟩,⟨I,kind⟩,⟨I,(k:Int)+1⟩,⟨L U,b⟩,⟨I,p2⟩,⟨L T4,l⟩,⟨L I,ks⟩]∧l.length=ks.length∧l.length+k≤2+N∧p≤p2∧p2+20 * k≤p+1+20 * (2+N)) ?_ ?_
  ·simp+contextual(maxSteps:=1000000)(disch:=omega)only[↓Sd,↓So,↓Sk,↓den,↓denA,Sa,Sb,Sc,Se,O1.d,O2.d,O3.d,cmI,arI,envOf,putN,↓reduceIte,Nat.reduceLT,Nat.reduceSub,Nat.reduceAdd,Int.reduceAdd,Int.reduceEq,Int.reduceLT,Int.reduceLE,arr_pos,arr_neg,]
   refine D_num _ _ _ hb (by omega) (by simp) (by simp) fun o o0=>?_;simp+contextual(maxSteps:=1000000)(disch:=omega)only[↓Sd,↓So,↓Sk,↓den,↓denA,Sa,Sb,Sc,Se,O1.d,O2.d,O3.d,cmI,arI,envOf,putN,↓reduceIte,Nat.reduceLT,Nat.reduceSub,Nat.reduceAdd,Int.reduceAdd,Int.reduceEq,Int.reduceLT,Int.reduceLE,arr_pos,arr_neg,]
   refine mc.wp_join (fun us=>∃(p2:Int) (t:Tm),us=[⟨I,vars⟩,⟨I,kind⟩,⟨I,(k:Int)+1⟩,⟨L U,b⟩,⟨I,p2⟩,⟨L T4,l⟩,⟨L I,ks⟩,⟨I,t.1⟩,⟨I,t.2.1⟩,⟨I,t.2.2.1⟩,⟨I,t.2.2.2⟩]∧p≤p2∧p2≤p1+10) ?_ ?_
   ·simp+contextual(maxSteps:=1000000)(disch:=omega)only[↓Sd,↓So,↓Sk,↓den,↓denA,Sa,Sb,Sc,Se,O1.d,O2.d,O3.d,cmI,arI,envOf,putN,↓reduceIte,Nat.reduceLT,Nat.reduceSub,Nat.reduceAdd,Int.reduceAdd,Int.reduceEq,Int.reduceLT,Int.reduceLE,arr_pos,arr_neg,]
    refine ⟨fun g=>?_,fun g=>⟨fun g2=>?_,fun g2=>?_⟩⟩
    ·refine D_l1Number _ _ hb (by omega) fun x p2 hp2=>?_
     simp+contextual(maxSteps:=1000000)(disch:=omega)only[↓Sd,↓So,↓Sk,↓den,↓denA,Sa,Sb,Sc,Se,O1.d,O2.d,O3.d,cmI,arI,envOf,putN,↓reduceIte,Nat.reduceLT,Nat.reduceSub,Nat.reduceAdd,Int.reduceAdd,Int.reduceEq,Int.reduceLT,Int.reduceLE,arr_pos,arr_neg,]
     refine ⟨fun _=>⟨fun _=>?_,fun _=>⟨_,((0:Int),x,(0:Int),(0:Int)),⟨rfl,rfl,rfl,rfl,rfl⟩,by omega,by omega⟩⟩,fun _=>⟨_,((0:Int),x,(0:Int),(0:Int)),⟨rfl,rfl,rfl,rfl,rfl⟩,by omega,by omega⟩⟩
     refine D_pick1 _ _ _ hb (by omega) (by omega) fun y y0 y1=>?_;simp+contextual(maxSteps:=1000000)(disch:=omega)only[↓Sd,↓So,↓Sk,↓den,↓denA,Sa,Sb,Sc,Se,O1.d,O2.d,O3.d,cmI,arI,envOf,putN,↓reduceIte,Nat.reduceLT,Nat.reduceSub,Nat.reduceAdd,Int.reduceAdd,Int.reduceEq,Int.reduceLT,Int.reduceLE,arr_pos,arr_neg,]
     exact ⟨_,((1:Int),y,(0:Int),(0:Int)),⟨rfl,rfl,rfl,rfl,rfl⟩,by omega,by omega⟩
    ·refine D_l1Number _ _ hb (by omega) fun x p2 hp2=>?_
     simp+contextual(maxSteps:=1000000)(disch:=omega)only[↓Sd,↓So,↓Sk,↓den,↓denA,Sa,Sb,Sc,Se,O1.d,O2.d,O3.d,cmI,arI,envOf,putN,↓reduceIte,Nat.reduceLT,Nat.reduceSub,Nat.reduceAdd,Int.reduceAdd,Int.reduceEq,Int.reduceLT,Int.reduceLE,arr_pos,arr_neg,]
     refine ⟨fun _=>⟨fun _=>?_,fun _=>⟨_,((0:Int),x,(0:Int),(0:Int)),⟨rfl,rfl,rfl,rfl,rfl⟩,by omega,by omega⟩⟩,fun _=>⟨_,((0:Int),x,(0:Int),(0:Int)),⟨rfl,rfl,rfl,rfl,rfl⟩,by omega,by omega⟩⟩
     refine D_pick1 _ _ _ hb (by omega) (by omega) fun y y0 y1=>?_;simp+contextual(maxSteps:=1000000)(disch:=omega)only[↓Sd,↓So,↓Sk,↓den,↓denA,Sa,Sb,Sc,Se,O1.d,O2.d,O3.d,cmI,arI,envOf,putN,↓reduceIte,Nat.reduceLT,Nat.reduceSub,Nat.reduceAdd,Int.reduceAdd,Int.reduceEq,Int.reduceLT,Int.reduceLE,arr_pos,arr_neg,]
     exact ⟨_,((1:Int),y,(0:Int),(0:Int)),⟨rfl,rfl,rfl,rfl,rfl⟩,by omega,by omega⟩
    ·refine mc.wp_join (fun us=>∃w:Int,us=[⟨I,vars⟩,⟨I,kind⟩,⟨I,(k:Int)+1⟩,⟨I,o⟩,⟨I,w⟩,⟨L U,b⟩,⟨I,p1+1⟩,⟨L T4,l⟩,⟨L I,ks⟩,⟨I,o⟩,⟨I,(0:Int)⟩,⟨I,(0:Int)⟩,⟨I,(0:Int)⟩]) ?_ ?_
     ·simp+contextual(maxSteps:=1000000)(disch:=omega)only[↓Sd,↓So,↓Sk,↓den,↓denA,Sa,Sb,Sc,Se,O1.d,O2.d,O3.d,cmI,arI,envOf,putN,↓reduceIte,Nat.reduceLT,Nat.reduceSub,Nat.reduceAdd,Int.reduceAdd,Int.reduceEq,Int.reduceLT,Int.reduceLE,arr_pos,arr_neg,]
      exact ⟨fun _=>⟨2,rfl⟩,fun _=>⟨1,rfl⟩⟩
     ·rintro us ⟨w,rfl⟩
      simp+contextual(maxSteps:=1000000)(disch:=omega)only[↓Sd,↓So,↓Sk,↓den,↓denA,Sa,Sb,Sc,Se,O1.d,O2.d,O3.d,cmI,arI,envOf,putN,↓reduceIte,Nat.reduceLT,Nat.reduceSub,Nat.reduceAdd,Int.reduceAdd,Int.reduceEq,Int.reduceLT,Int.reduceLE,arr_pos,arr_neg,]
      refine D_l1Pick _ _ _ _ hb (by omega) (by omega) (by omega) fun x hx=>?_
      simp+contextual(maxSteps:=1000000)(disch:=omega)only[↓Sd,↓So,↓Sk,↓den,↓denA,Sa,Sb,Sc,Se,O1.d,O2.d,O3.d,cmI,arI,envOf,putN,↓reduceIte,Nat.reduceLT,Nat.reduceSub,Nat.reduceAdd,Int.reduceAdd,Int.reduceEq,Int.reduceLT,Int.reduceLE,arr_pos,arr_neg,]
      refine D_l1Pick _ _ _ _ hb (by omega) (by omega) (by omega) fun y hy=>?_
      simp+contextual(maxSteps:=1000000)(disch:=omega)only[↓Sd,↓So,↓Sk,↓den,↓denA,Sa,Sb,Sc,Se,O1.d,O2.d,O3.d,cmI,arI,envOf,putN,↓reduceIte,Nat.reduceLT,Nat.reduceSub,Nat.reduceAdd,Int.reduceAdd,Int.reduceEq,Int.reduceLT,Int.reduceLE,arr_pos,arr_neg,C_spec_l1One]
      exact ⟨fun _=>⟨_,((7:Int),(0:Int),x,x),⟨rfl,rfl,rfl,rfl,rfl⟩,by omega,by omega⟩,fun _=>⟨_,(o,(0:Int),x,y),⟨rfl,rfl,rfl,rfl,rfl⟩,by omega,by omega⟩⟩
   ·rintro us ⟨p2,t,rfl,c1,c2⟩
    simp+contextual(maxSteps:=1000000)(disch:=omega)only[↓Sd,↓So,↓Sk,↓den,↓denA,Sa,Sb,Sc,Se,O1.d,O2.d,O3.d,cmI,arI,envOf,putN,↓reduceIte,Nat.reduceLT,Nat.reduceSub,Nat.reduceAdd,Int.reduceAdd,Int.reduceEq,Int.reduceLT,Int.reduceLE,arr_pos,arr_neg,C_spec_l1Kind t ks vars hv (by omega)]
    refine ⟨fun _=>⟨_,_,_,⟨rfl,rfl,rfl⟩,?_,?_,by omega,by omega⟩,fun _=>⟨_,_,_,⟨rfl,rfl,rfl⟩,i1,by omega,by omega,by omega⟩⟩
    ·simp only [List.length_append,List.length_singleton];omega
    ·simp only [List.length_append,List.length_singleton];omega
  ·rintro us ⟨p2,l,ks,rfl,a1,a2,a3,a4⟩
   simp+contextual(maxSteps:=1000000)(disch:=omega)only[↓Sd,↓So,↓Sk,↓den,↓denA,Sa,Sb,Sc,Se,O1.d,O2.d,O3.d,cmI,arI,envOf,putN,↓reduceIte,Nat.reduceLT,Nat.reduceSub,Nat.reduceAdd,Int.reduceAdd,Int.reduceEq,Int.reduceLT,Int.reduceLE,arr_pos,arr_neg,]
   exact ⟨k,by omega,p2,l,ks,⟨rfl,rfl,rfl,rfl⟩,a1,a2,a3,a4⟩
theorem D_l2Value (b:List Int) (p:Int) (vs:List Vr) (k:Int) (i:Nat) (hk:k=i) (hb:Rdy b) (hp:0≤p∧p≤700000000) (hv:vs.length≤5) (hi:i<vs.length) {Q:List AV→Prop} (h:∀(l:List Tm) (p':Int),p≤p'∧p'≤p+500→l.length≤16→Q [⟨L T4,l⟩,⟨RD,(b,p')⟩]):mc.C f_spec_l2Value [⟨RD,(b,p)⟩,⟨L V3,vs⟩,⟨I,k⟩] Q:=by
 subst hk
 refine mc.c_of F_spec_l2Value ?_
 simp+contextual(maxSteps:=1000000)(disch:=omega)only[↓Sd,↓So,↓Sk,↓den,↓denA,Sa,Sb,Sc,Se,O1.d,O2.d,O3.d,cmI,arI,envOf,putN,↓reduceIte,Nat.reduceLT,Nat.reduceSub,Nat.reduceAdd,Int.reduceAdd,Int.reduceEq,Int.reduceLT,Int.reduceLE,arr_pos,arr_neg,tr_spec_l2Value]
 refine D_pick1 _ _ _ hb (by omega) (by omega) fun k k0 k1=>?_;simp+contextual(maxSteps:=1000000)(disch:=omega)only[↓Sd,↓So,↓Sk,↓den,↓denA,Sa,Sb,Sc,Se,O1.d,O2.d,O3.d,cmI,arI,envOf,putN,↓reduceIte,Nat.reduceLT,Nat.reduceSub,Nat.reduceAdd,Int.reduceAdd,Int.reduceEq,Int.reduceLT,Int.reduceLE,arr_pos,arr_neg,]
 refine ⟨fun _=>?_,fun _=>⟨fun _=>?_,fun _=>⟨fun _=>?_,fun _=>?_⟩⟩⟩
 ·simp+contextual(maxSteps:=1000000)(disch:=omega)only[↓Sd,↓So,↓Sk,↓den,↓denA,Sa,Sb,Sc,Se,O1.d,O2.d,O3.d,cmI,arI,envOf,putN,↓reduceIte,Nat.reduceLT,Nat.reduceSub,Nat.reduceAdd,Int.reduceAdd,Int.reduceEq,Int.reduceLT,Int.reduceLE,arr_pos,arr_neg,C_spec_l2VarOf,C_spec_l2Const]
  refine D_num _ _ _ hb (by omega) (by simp) (by simp) fun o o0=>?_;simp+contextual(maxSteps:=1000000)(disch:=omega)only[↓Sd,↓So,↓Sk,↓den,↓denA,Sa,Sb,Sc,Se,O1.d,O2.d,O3.d,cmI,arI,envOf,putN,↓reduceIte,Nat.reduceLT,Nat.reduceSub,Nat.reduceAdd,Int.reduceAdd,Int.reduceEq,Int.reduceLT,Int.reduceLE,arr_pos,arr_neg,]
  exact h _ _ (by omega) (by simp)
 ·refine D_pick _ _ _ hb (by omega) fun n _ _=>?_
  simp+contextual(maxSteps:=1000000)(disch:=omega)only[↓Sd,↓So,↓Sk,↓den,↓denA,Sa,Sb,Sc,Se,O1.d,O2.d,O3.d,cmI,arI,envOf,putN,↓reduceIte,Nat.reduceLT,Nat.reduceSub,Nat.reduceAdd,Int.reduceAdd,Int.reduceEq,Int.reduceLT,Int.reduceLE,arr_pos,arr_neg,↓wpJoin,C_spec_l2Const]
  exact h _ _ (by omega) (by simp)
 ·refine D_pick1 _ _ _ hb (by omega) (by omega) fun n n0 n1=>?_;simp+contextual(maxSteps:=1000000)(disch:=omega)only[↓Sd,↓So,↓Sk,↓den,↓denA,Sa,Sb,Sc,Se,O1.d,O2.d,O3.d,cmI,arI,envOf,putN,↓reduceIte,Nat.reduceLT,Nat.reduceSub,Nat.reduceAdd,Int.reduceAdd,Int.reduceEq,Int.reduceLT,Int.reduceLE,arr_pos,arr_neg,]
  simp+contextual(maxSteps:=1000000)(disch:=omega)only[↓Sd,↓So,↓Sk,↓den,↓denA,Sa,Sb,Sc,Se,O1.d,O2.d,O3.d,cmI,arI,envOf,putN,↓reduceIte,Nat.reduceLT,Nat.reduceSub,Nat.reduceAdd,Int.reduceAdd,Int.reduceEq,Int.reduceLT,Int.reduceLE,arr_pos,arr_neg,C_spec_l2VarOf]
  exact h _ _ (by omega) (by simp)
 ·refine D_l1Terms _ _ _ _ _ hb (by omega) (by omega) (by omega) fun l p2 h1 h2 h3=>?_
  simp+contextual(maxSteps:=1000000)(disch:=omega)only[↓Sd,↓So,↓Sk,↓den,↓denA,Sa,Sb,Sc,Se,O1.d,O2.d,O3.d,cmI,arI,envOf,putN,↓reduceIte,Nat.reduceLT,Nat.reduceSub,Nat.reduceAdd,Int.reduceAdd,Int.reduceEq,Int.reduceLT,Int.reduceLE,arr_pos,arr_neg,]
  exact h _ _ (by omega) (by omega)
def SmRu (r:Ru):Prop:=r.1.length≤100∧r.2.1.length≤100∧r.2.2.length≤100∧∀x∈r.2.2,x.length≤100
def SmR5 (r:Ru):Prop:=r.1.length≤50∧r.2.1.length≤50∧r.2.2.length≤50∧∀x∈r.2.2,x.length≤50
theorem SmR5.sm {r:Ru} (h:SmR5 r):SmRu r:=⟨by have:=h.1;omega,by have:=h.2.1;omega,by have:=h.2.2.1;omega,fun x hx=>by have:=h.2.2.2 x hx;omega⟩
def SmSy (s:Sy):Prop:=s.1.length≤3∧s.2.length≤9∧∀r∈s.2,SmRu r
theorem SmSy.few {s:Sy} (h:SmSy s):FewSy s:=by
 refine ⟨by have:=h.1;unfold Few;omega,by have:=h.2.1;unfold Few;omega,fun r hr=>?_⟩
 have h1:=h.2.2 r hr
 exact ⟨by have:=h1.1;unfold Few;omega,by have:=h1.2.1;unfold Few;omega,by have:=h1.2.2.1;unfold Few;omega,fun x hx=>by have:=h1.2.2.2 x hx;unfold Few;omega⟩
end Go.Proofs.YtifkpliahhodoaaGreat
