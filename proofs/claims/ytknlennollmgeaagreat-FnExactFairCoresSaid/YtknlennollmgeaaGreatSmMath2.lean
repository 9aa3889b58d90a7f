/- What the trees come to: plain mathematics; no condition. -/
import Derived.Test.YtknlennollmgeaaGreatSmMath1
namespace Go.Proofs.YtknlennollmgeaaGreat
open Go Go.Sm Go.Sm.Q
set_option linter.unusedSimpArgs false
set_option linter.unusedVariables false
theorem dj_len:∀{n:Nat} {L:List (List Int)},L.Pairwise (fun c d=>∀x∈c,x∉d)→(∀c∈L,c≠[]∧∀x∈c,0≤x∧x<(n:Int))→L.length≤n
 | 0,L,_,h=>by
  cases L with
  | nil=>exact Nat.le_refl _
  | cons c L =>
   obtain ⟨h1,h2⟩:=h c (List.mem_cons_self ..)
   cases c with
   | nil=>exact absurd rfl h1
   | cons x c=>have:=h2 x (List.mem_cons_self ..);omega
 | n+1,L,hp,h=>by
  have h1:=dj_one (n:=(n:Int)) hp
  have h2:=dj_len (n:=n) (hp.filter fun c=>!decide ((n:Int)∈c)) fun c hc=>by
   obtain ⟨g1,g2⟩:=List.mem_filter.1 hc
   obtain ⟨g3,g4⟩:=h c g1
   refine ⟨g3,fun x hx=>?_⟩
   have g5:=g4 x hx
   have:x≠(n:Int):=fun he=>by simp at g2;exact g2 (he▸hx)
   omega
  omega
theorem crs_len {s:Sy} {weak strong:List Int} {f:Nat} {p:Nat→Bool}:(crs s weak strong f p).length≤szn s.1:=by
 have h:=crs_of (s:=s) (weak:=weak) (strong:=strong) (f:=f) (p:=p)
 refine dj_len h.dj fun c hc=>?_
 obtain ⟨q,rfl,h2,_⟩:=h.sub c hc
 exact ⟨h2,fun x hx=>by obtain ⟨a,h1,rfl,_⟩:=upTo_mem.1 hx;omega⟩
theorem flat_take {α β:Type} (l:List α) (f:α→List β) (i:Nat):((l.take i).flatMap f).length≤(l.flatMap f).length:=by
 have h:l.flatMap f=(l.take i++l.drop i).flatMap f:=by rw [List.take_append_drop]
 rw [h,List.flatMap_append,List.length_append]
 omega
theorem flatm_next {β:Type} {l:List Int} {i:Nat} (h:i<l.length) (f:Int→List β):(l.take (i+1)).flatMap f=(l.take i).flatMap f++f (l.getD i 0):=by
 rw [←take_next (d:=0) h,List.flatMap_append]
 simp
theorem crs_flat {s:Sy} {weak strong:List Int} {f:Nat} {p:Nat→Bool} (i:Nat) :
  ((((upTo p (szn s.1)).filter fun x=>isR s p x.toNat).take i).flatMap fun x=>cor2 s weak strong (crs s weak strong f) (isP s p x.toNat)).length≤szn s.1 :=
 Nat.le_trans (flat_take _ _ i) (crs_len (f:=f+1))
theorem left_lt {s:Sy} {strong:List Int} {q:Nat→Bool} (h:¬(upTo (sleft s strong q) (szn s.1)).length=(upTo q (szn s.1)).length):(upTo (sleft s strong q) (szn s.1)).length<(upTo q (szn s.1)).length:=by
 have:=(upTo_mono (p:=sleft s strong q) (q:=q) (n:=szn s.1) fun k _ hk=>sleft_sub hk).1
 omega
theorem C_spec_l23Cores (s:Sy) (hs:FewSy s) (h:valid s) (weak strong:List Int) (hw:rlist s weak) (hst:rlist s strong) (hwl:weak.length≤1048576) (hsl:strong.length≤1048576) :
  ∀(f:Nat) (p:Nat→Bool),(upTo p (szn s.1)).length≤f→∀(Q:List AV→Prop),
  mc.C f_spec_l23Cores [⟨L V3,s.1⟩,⟨L TR,s.2⟩,⟨L (L I),steps s⟩,⟨L (L B),tab (fun k=>tab (rub s k) (szn s.1)) s.2.length⟩,⟨L I,weak⟩,⟨L I,strong⟩,⟨L I,upTo p (szn s.1)⟩] Q=Q [⟨L (L I),crs s weak strong (f+1) p⟩]:=by
 have hz:=szn_eq h
 intro f
 induction f with
 | zero =>
  intro p hf Q
  refine Mc.Ends.c (mc.ends F_spec_l23Cores ?_)
  have hnil:upTo p (szn s.1)=[]:=List.eq_nil_of_length_eq_zero (by omega)
  have hP:=fun Q=>C_spec_l23Parts s h p Q
  have hpr:prts s p []=[]:=rfl
  have hcr:crs s weak strong 1 p=[]:=by unfold crs;rw [hnil];rfl
  rw [hnil] at hP ⊢
  rw [hpr] at hP
  simp+contextual(maxSteps:=1000000)(disch:=omega)only[↓Sd,↓So,↓Sk,↓den,↓denA,Sa,Sb,Sc,Se,O1.d,O2.d,O3.d,cmI,arI,envOf,putN,↓reduceIte,Nat.reduceLT,Nat.reduceSub,Nat.reduceAdd,Int.reduceAdd,Int.reduceEq,Int.reduceLT,Int.reduceLE,arr_pos,arr_neg,tr_spec_l23Cores,hP]
  refine mc.lp_step ?_
  simp+contextual(maxSteps:=1000000)(disch:=omega)only[↓Sd,↓So,↓Sk,↓den,↓denA,Sa,Sb,Sc,Se,O1.d,O2.d,O3.d,cmI,arI,envOf,putN,↓reduceIte,Nat.reduceLT,Nat.reduceSub,Nat.reduceAdd,Int.reduceAdd,Int.reduceEq,Int.reduceLT,Int.reduceLE,arr_pos,arr_neg,List.length_nil,hcr]
 | succ f ih =>
  intro p hf Q
  refine Mc.Ends.c (mc.ends F_spec_l23Cores ?_)
  simp+contextual(maxSteps:=1000000)(disch:=omega)only[↓Sd,↓So,↓Sk,↓den,↓denA,Sa,Sb,Sc,Se,O1.d,O2.d,O3.d,cmI,arI,envOf,putN,↓reduceIte,Nat.reduceLT,Nat.reduceSub,Nat.reduceAdd,Int.reduceAdd,Int.reduceEq,Int.reduceLT,Int.reduceLE,arr_pos,arr_neg,tr_spec_l23Cores,C_spec_l23Parts s h p]
  have hpl:(prts s p (upTo p (szn s.1))).length=((upTo p (szn s.1)).filter fun x=>isR s p x.toNat).length:=by unfold prts;rw [List.length_map]
  have hFl:((upTo p (szn s.1)).filter fun x=>isR s p x.toNat).length≤szn s.1:=Nat.le_trans (List.length_filter_le ..) upTo_len
  have hpg:∀i,i<((upTo p (szn s.1)).filter fun x=>isR s p x.toNat).length→(prts s p (upTo p (szn s.1))).getD i []=upTo (isP s p (((upTo p (szn s.1)).filter fun x=>isR s p x.toNat).getD i 0).toNat) (szn s.1):=by
   intro i hi
   unfold prts
   rw [List.getD_eq_getElem?_getD,List.getElem?_map,List.getD_eq_getElem?_getD,List.getElem?_eq_getElem hi]
   rfl
  have hb:=fun i=>crs_flat (s:=s) (weak:=weak) (strong:=strong) (f:=f+1) (p:=p) i
  have hfin:crs s weak strong (f+1+1) p=((upTo p (szn s.1)).filter fun x=>isR s p x.toNat).flatMap fun x=>cor2 s weak strong (crs s weak strong (f+1)) (isP s p x.toNat):=rfl
  rw [hfin]
  generalize (upTo p (szn s.1)).filter (fun x=>isR s p x.toNat)=F at hpl hFl hpg hb
  generalize prts s p (upTo p (szn s.1))=PR at hpl hpg
  obtain ⟨UB,hUB⟩:∃UB,tab (fun k=>tab (rub s k) (szn s.1)) s.2.length=UB:=⟨_,rfl⟩
  have hStr:=fun q Q=>C_spec_l23Strong s hs h strong hst hsl q Q
  have hWk:=fun q Q=>C_spec_l23Weak s hs h weak hw hwl q Q
  rw [hUB] at hStr hWk ih ⊢
  refine mc.lp_for (List (List Int)) (fun i o=>[⟨L (L I),steps s⟩,⟨L (L B),UB⟩,⟨L I,weak⟩,⟨L I,strong⟩,⟨L (L I),PR⟩,⟨I,(i:Int)⟩,⟨L V3,s.1⟩,⟨L TR,s.2⟩,⟨L (L I),o⟩])
   (fun i o=>o=(F.take i).flatMap fun x=>cor2 s weak strong (crs s weak strong (f+1)) (isP s p x.toNat)) F.length 0 [] _ rfl (Nat.zero_le _) rfl ?_ ?_
  ·rintro i o hi rfl
   have hg:=hpg i hi
   have hnx:=flatm_next hi fun x=>cor2 s weak strong (crs s weak strong (f+1)) (isP s p x.toNat)
   have hb1:=hb i
   have hb2:=hb (i+1)
   have hql:(upTo (isP s p (F.getD i 0).toNat) (szn s.1)).length≤f+1:=Nat.le_trans (upTo_mono fun k _ hk=>(isP_sub hk).1).1 hf
   rw [hnx] at hb2
   rw [List.length_append] at hb2
   generalize (F.getD i 0).toNat=m at hg hnx hb2 hql
   generalize isP s p m=q at hg hnx hb2 hql
   generalize hO:((F.take i).flatMap fun x=>cor2 s weak strong (crs s weak strong (f+1)) (isP s p x.toNat))=O at hnx hb1 hb2
   by_cases hd:wdead s weak q=true
   ·have hc2:cor2 s weak strong (crs s weak strong (f+1)) q=[]:=if_pos hd
    rw [hc2,List.append_nil] at hnx
    by_cases he:(upTo (sleft s strong q) (szn s.1)).length=(upTo q (szn s.1)).length
    ·simp+contextual(maxSteps:=1000000)(disch:=omega)only[↓Sd,↓So,↓Sk,↓den,↓denA,Sa,Sb,Sc,Se,O1.d,O2.d,O3.d,cmI,arI,envOf,putN,↓reduceIte,Nat.reduceLT,Nat.reduceSub,Nat.reduceAdd,Int.reduceAdd,Int.reduceEq,Int.reduceLT,Int.reduceLE,arr_pos,arr_neg,↓wpJoin,hpl,hg,hStr,he,hWk,hd,Bool.not_true]
     exact hnx.symm
    ·simp+contextual(maxSteps:=1000000)(disch:=omega)only[↓Sd,↓So,↓Sk,↓den,↓denA,Sa,Sb,Sc,Se,O1.d,O2.d,O3.d,cmI,arI,envOf,putN,↓reduceIte,Nat.reduceLT,Nat.reduceSub,Nat.reduceAdd,Int.reduceAdd,Int.reduceEq,Int.reduceLT,Int.reduceLE,arr_pos,arr_neg,↓wpJoin,hpl,hg,hStr,he,hWk,hd,Bool.not_true]
     exact hnx.symm
   ·have hd':wdead s weak q=false:=by simpa using hd
    by_cases he:(upTo (sleft s strong q) (szn s.1)).length=(upTo q (szn s.1)).length
    ·have hc2:cor2 s weak strong (crs s weak strong (f+1)) q=[upTo q (szn s.1)]:=by unfold cor2;rw [if_neg hd,if_pos he]
     rw [hc2] at hnx hb2
     simp only [List.length_singleton] at hb2
     simp+contextual(maxSteps:=1000000)(disch:=omega)only[↓Sd,↓So,↓Sk,↓den,↓denA,Sa,Sb,Sc,Se,O1.d,O2.d,O3.d,cmI,arI,envOf,putN,↓reduceIte,Nat.reduceLT,Nat.reduceSub,Nat.reduceAdd,Int.reduceAdd,Int.reduceEq,Int.reduceLT,Int.reduceLE,arr_pos,arr_neg,↓wpJoin,hpl,hg,hStr,he,hWk,hd',Bool.not_false]
     exact hnx.symm
    ·have hc2:cor2 s weak strong (crs s weak strong (f+1)) q=crs s weak strong (f+1) (sleft s strong q):=by unfold cor2;rw [if_neg hd,if_neg he]
     rw [hc2] at hnx hb2
     have hlt:=left_lt he
     have hih:=fun Q=>ih (sleft s strong q) (by omega) Q
     generalize crs s weak strong (f+1) (sleft s strong q)=M at hnx hb2 hih
     simp+contextual(maxSteps:=1000000)(disch:=omega)only[↓Sd,↓So,↓Sk,↓den,↓denA,Sa,Sb,Sc,Se,O1.d,O2.d,O3.d,cmI,arI,envOf,putN,↓reduceIte,Nat.reduceLT,Nat.reduceSub,Nat.reduceAdd,Int.reduceAdd,Int.reduceEq,Int.reduceLT,Int.reduceLE,arr_pos,arr_neg,↓wpJoin,hpl,hg,hStr,he,hWk,hd',Bool.not_false,hih]
     refine mc.lp_for (List (List Int)) (fun j o=>[⟨L (L I),steps s⟩,⟨L (L B),UB⟩,⟨L I,weak⟩,⟨L I,strong⟩,⟨L (L I),PR⟩,⟨I,(i:Int)⟩,⟨I,(j:Int)⟩,⟨L V3,s.1⟩,⟨L TR,s.2⟩,⟨L (L I),o⟩,⟨L (L I),M⟩])
      (fun j o=>o=O++M.take j) M.length 0 O _ rfl (Nat.zero_le _) (by simp) ?_ ?_
     ·rintro j o hj rfl
      have hol:O.length+(M.take j).length≤szn s.1:=by rw [List.length_take];omega
      simp+contextual(maxSteps:=1000000)(disch:=omega)only[↓Sd,↓So,↓Sk,↓den,↓denA,Sa,Sb,Sc,Se,O1.d,O2.d,O3.d,cmI,arI,envOf,putN,↓reduceIte,Nat.reduceLT,Nat.reduceSub,Nat.reduceAdd,Int.reduceAdd,Int.reduceEq,Int.reduceLT,Int.reduceLE,arr_pos,arr_neg,]
      rw [List.append_assoc,take_next hj]
     ·rintro o rfl
      rw [List.take_length]
      simp+contextual(maxSteps:=1000000)(disch:=omega)only[↓Sd,↓So,↓Sk,↓den,↓denA,Sa,Sb,Sc,Se,O1.d,O2.d,O3.d,cmI,arI,envOf,putN,↓reduceIte,Nat.reduceLT,Nat.reduceSub,Nat.reduceAdd,Int.reduceAdd,Int.reduceEq,Int.reduceLT,Int.reduceLE,arr_pos,arr_neg,↓wpJoin,]
      exact hnx.symm
  ·rintro o rfl
   rw [List.take_length]
   simp+contextual(maxSteps:=1000000)(disch:=omega)only[↓Sd,↓So,↓Sk,↓den,↓denA,Sa,Sb,Sc,Se,O1.d,O2.d,O3.d,cmI,arI,envOf,putN,↓reduceIte,Nat.reduceLT,Nat.reduceSub,Nat.reduceAdd,Int.reduceAdd,Int.reduceEq,Int.reduceLT,Int.reduceLE,arr_pos,arr_neg,hpl]
theorem upTo_pre {p:Nat→Bool} {a:Nat}:∀{b:Nat},a≤b→∃r,upTo p b=upTo p a++r
 | 0,h=>⟨[],by rw [Nat.le_zero.1 h];simp⟩
 | b+1,h=>by
  by_cases he:a=b+1
  ·exact ⟨[],by rw [he];simp⟩
  ·obtain ⟨r,hr⟩:=upTo_pre (p:=p) (a:=a) (b:=b) (by omega)
   rw [upTo]
   split
   ·exact ⟨r++[(b:Int)],by rw [hr,List.append_assoc]⟩
   ·exact ⟨r,hr⟩
theorem flat_pre {p:Nat→Bool} {g:Int→Bool} {β:Type} {f:Int→List β} {a b:Nat} (h:a≤b):(((upTo p a).filter g).flatMap f).length≤(((upTo p b).filter g).flatMap f).length:=by
 obtain ⟨r,hr⟩:=upTo_pre (p:=p) h
 rw [hr,List.filter_append,List.flatMap_append,List.length_append]
 omega
theorem sleft_next {s:Sy} {strong:List Int} {q:Nat→Bool} {i k:Nat} (hi:i<strong.length) (hk:strong.getD i 0=(k:Int)) (a:Nat) :
  sleft s (strong.take (i+1)) q a=(sleft s (strong.take i) q a&&!(!leadB s k q&&rub s k a)):=by
 unfold sleft
 rw [Bool.and_assoc]
 congr 1
 by_cases h1:∃k:Nat,(k:Int)∈strong.take i∧leadB s k q=false∧rub s k a=true
 ·obtain ⟨j,j1,j2⟩:=h1
  rw [dB_t (show ∃k:Nat,(k:Int)∈strong.take i∧leadB s k q=false∧rub s k a=true from ⟨j,j1,j2⟩),dB_t (show ∃k:Nat,(k:Int)∈strong.take (i+1)∧leadB s k q=false∧rub s k a=true from ⟨j,(mem_take_next hi).2 (.inl j1),j2⟩)];rfl
 ·rw [dB_f h1]
  by_cases h2:leadB s k q=false∧rub s k a=true
  ·rw [dB_t ⟨k,(mem_take_next hi).2 (.inr hk.symm),h2⟩];simp [h2.1,h2.2]
  ·rw [dB_f]
   ·cases hA:leadB s k q
    ·have:rub s k a=false:=by
      cases hB:rub s k a with
      | false=>rfl
      | true=>exact absurd ⟨hA,hB⟩ h2
     rw [this];rfl
    ·rfl
   ·rintro ⟨j,j1,j2⟩
    rcases (mem_take_next hi).1 j1 with j3 | j3
    ·exact h1 ⟨j,j3,j2⟩
    ·rw [hk] at j3
     have:=Int.ofNat_inj.1 j3
     subst this;exact h2 j2
noncomputable def chgd (s:Sy) (strong:List Int) (q:Nat→Bool):Bool:=dB (∃a,a<szn s.1∧q a=true∧¬sleft s strong q a=true)
theorem chgd_iff {s:Sy} {strong:List Int} {q:Nat→Bool}:chgd s strong q=true↔¬(upTo (sleft s strong q) (szn s.1)).length=(upTo q (szn s.1)).length:=by
 have hm:=upTo_mono (p:=sleft s strong q) (q:=q) (n:=szn s.1) fun k _ hk=>sleft_sub hk
 constructor
 ·intro h he
  obtain ⟨a,h1,h2,h3⟩:=dB_iff.1 h
  exact h3 (hm.2 (by omega) a h1 h2)
 ·intro h
  refine dB_t ?_
  obtain ⟨a,h1,h2,h3⟩:=upTo_more (left_lt h)
  exact ⟨a,h1,h2,h3⟩
theorem C_slices_Clone_bool (l:List Bool) (h:l≠[]) (hl:l.length≤1048576) (Q:List AV→Prop):mc.C f_slices_Clone_Sbool_bool [⟨L B,l⟩] Q=Q [⟨L B,l⟩]:=by
 refine Mc.Ends.c (mc.ends F_slices_Clone_Sbool_bool ?_)
 have h1:l.isEmpty=false:=by cases l with | nil=>exact absurd rfl h | cons=>rfl
 simp+contextual(maxSteps:=1000000)(disch:=omega)only[↓Sd,↓So,↓Sk,↓den,↓denA,Sa,Sb,Sc,Se,O1.d,O2.d,O3.d,cmI,arI,envOf,putN,↓reduceIte,Nat.reduceLT,Nat.reduceSub,Nat.reduceAdd,Int.reduceAdd,Int.reduceEq,Int.reduceLT,Int.reduceLE,arr_pos,arr_neg,tr_slices_Clone_Sbool_bool,h1,List.length_nil,List.nil_append,Bool.not_false]
theorem C_impl_cores (s:Sy) (h:valid s) (weak strong:List Int) (hw:rlist s weak) (hst:rlist s strong) (hwl:weak.length≤1048576) (hsl:strong.length≤1048576) :
  ∀(f:Nat) (p:Nat→Bool),(upTo p (szn s.1)).length≤f→∀(Q:List AV→Prop),
  mc.C f_impl_fairness_cores [⟨FBox,fbx s weak strong⟩,⟨L B,tab p (szn s.1)⟩] Q=Q [⟨L (L I),crs s weak strong (f+1) p⟩,⟨FBox,fbx s weak strong⟩]:=by
 have hz:=szn_eq h
 have ht:=steps_tb8 h
 have hTl:=ht.1.1
 have hg:∀k,k<s.2.length→(toT s).getD k []=tab (rtg s k) (szn s.1):=fun k hk=>tab_get hk
 have hl:(toT s).length=s.2.length:=tab_len
 have hLd:=fun k hk q Q=>C_impl_leads s h weak strong k hk q Q
 intro f
 induction f using Nat.strongRecOn with
 | ind f ih =>
  intro p hf Q
  have hTj:=fun Q=>C_impl_tarjan (steps s) p (szn s.1) ht Q
  refine Mc.Ends.c (mc.ends F_impl_fairness_cores ?_)
  simp+contextual(maxSteps:=1000000)(disch:=omega)only[↓Sd,↓So,↓Sk,↓den,↓denA,Sa,Sb,Sc,Se,O1.d,O2.d,O3.d,cmI,arI,envOf,putN,↓reduceIte,Nat.reduceLT,Nat.reduceSub,Nat.reduceAdd,Int.reduceAdd,Int.reduceEq,Int.reduceLT,Int.reduceLE,arr_pos,arr_neg,tr_impl_fairness_cores,hTj,hTl]
  obtain ⟨PT,hPT⟩:∃PT:Nat→Int,(fun k=>if p k=true then cmp (insT (steps s) p (szn s.1)) (szn s.1) k else -1)=PT:=⟨_,rfl⟩
  have hPTe:∀m a:Nat,decide (PT a=(m:Int))=isP s p m a:=by
   intro m a
   rw [←hPT]
   unfold isP insS
   by_cases hp:p a=true
   ·simp only [hp,if_true,Bool.true_and]
    exact dB_eq.symm
   ·have:p a=false:=by simpa using hp
    simp only [this,Bool.false_and,Bool.false_eq_true,if_false,decide_eq_false_iff_not]
    omega
  rw [hPT]
  have hfin:crs s weak strong (f+1) p=((upTo p (szn s.1)).filter fun x=>isR s p x.toNat).flatMap fun x=>cor2 s weak strong (crs s weak strong f) (isP s p x.toNat):=rfl
  have hbd:∀m,m≤szn s.1→(((upTo p m).filter fun x=>isR s p x.toNat).flatMap fun x=>cor2 s weak strong (crs s weak strong f) (isP s p x.toNat)).length≤szn s.1:=fun m hm=>Nat.le_trans (flat_pre hm) (crs_len (f:=f+1))
  rw [hfin]
  refine mc.lp_for (List (List Int)) (fun m o=>[⟨I,(szn s.1:Int)⟩,⟨I,(m:Int)⟩,⟨L V3,s.1⟩,⟨L TR,s.2⟩,⟨L (L I),steps s⟩,⟨L I,weak⟩,⟨L I,strong⟩,⟨L (L I),toT s⟩,⟨L (L I),o⟩,⟨L I,tab PT (szn s.1)⟩])
   (fun m o=>o=((upTo p m).filter fun x=>isR s p x.toNat).flatMap fun x=>cor2 s weak strong (crs s weak strong f) (isP s p x.toNat)) (szn s.1) 0 [] _ rfl (Nat.zero_le _) rfl ?_ ?_
  ·rintro m o hm rfl
   have hb1:=hbd m (by omega)
   have hb2:=hbd (m+1) (by omega)
   have hnx:((upTo p (m+1)).filter fun x=>isR s p x.toNat).flatMap (fun x=>cor2 s weak strong (crs s weak strong f) (isP s p x.toNat))=((upTo p m).filter fun x=>isR s p x.toNat).flatMap (fun x=>cor2 s weak strong (crs s weak strong f) (isP s p x.toNat))++if p m=true∧isR s p m=true then cor2 s weak strong (crs s weak strong f) (isP s p m) else []:=by
    by_cases hp:p m=true
    ·rw [upTo_s hp,List.filter_append,List.flatMap_append]
     congr 1
     by_cases hr:isR s p m=true
     ·simp [hr,hp]
     ·simp [hr]
    ·rw [upTo_n hp];simp [hp]
   generalize hO:((upTo p m).filter fun x=>isR s p x.toNat).flatMap (fun x=>cor2 s weak strong (crs s weak strong f) (isP s p x.toNat))=O at hb1 hnx ⊢
   rw [hnx,List.length_append] at hb2
   have hPm:(PT m=(m:Int))↔isP s p m m=true:=by rw [←hPTe];simp
   simp+contextual(maxSteps:=1000000)(disch:=omega)only[↓Sd,↓So,↓Sk,↓den,↓denA,Sa,Sb,Sc,Se,O1.d,O2.d,O3.d,cmI,arI,envOf,putN,↓reduceIte,Nat.reduceLT,Nat.reduceSub,Nat.reduceAdd,Int.reduceAdd,Int.reduceEq,Int.reduceLT,Int.reduceLE,arr_pos,arr_neg,]
   refine mc.wp_join (fun us=>us=[⟨I,(szn s.1:Int)⟩,⟨I,(m:Int)⟩,⟨L V3,s.1⟩,⟨L TR,s.2⟩,⟨L (L I),steps s⟩,⟨L I,weak⟩,⟨L I,strong⟩,⟨L (L I),toT s⟩,⟨L (L I),((upTo p (m+1)).filter fun x=>isR s p x.toNat).flatMap (fun x=>cor2 s weak strong (crs s weak strong f) (isP s p x.toNat))⟩,⟨L I,tab PT (szn s.1)⟩]) ?_ ?_
   by_cases hpm:PT m=(m:Int)
   ·have hq:=hPm.1 hpm
    have hpp:=isP_sub hq
    have hTm:((steps s).getD m []).length≤8:=ht.2.2 _ (getD_mem (by omega))
    have hql:(upTo (isP s p m) (szn s.1)).length≤(upTo p (szn s.1)).length:=(upTo_mono fun k _ hk=>(isP_sub hk).1).1
    have hqp:1≤(upTo (isP s p m) (szn s.1)).length:=List.length_pos_iff.2 (upTo_ne hm hq)
    have hRm:isR s p m=dB (1<(upTo (isP s p m) (szn s.1)).length∨(m:Int)∈(steps s).getD m []∨(steps s).getD m []=[]):=by
     unfold isR
     exact dB_congr ⟨fun g=>g.2,fun g=>⟨hpp.2,g⟩⟩
    simp+contextual(maxSteps:=1000000)(disch:=omega)only[↓Sd,↓So,↓Sk,↓den,↓denA,Sa,Sb,Sc,Se,O1.d,O2.d,O3.d,cmI,arI,envOf,putN,↓reduceIte,Nat.reduceLT,Nat.reduceSub,Nat.reduceAdd,Int.reduceAdd,Int.reduceEq,Int.reduceLT,Int.reduceLE,arr_pos,arr_neg,tab_len,tab_get hm,hpm,hTl,List.length_replicate]
    refine mc.lp_for (List Bool) (fun j o=>[⟨I,(m:Int)⟩,⟨I,(szn s.1:Int)⟩,⟨I,(m:Int)⟩,⟨I,(szn s.1:Int)⟩,⟨I,(j:Int)⟩,⟨L V3,s.1⟩,⟨L TR,s.2⟩,⟨L (L I),steps s⟩,⟨L I,weak⟩,⟨L I,strong⟩,⟨L (L I),toT s⟩,⟨L (L I),O⟩,⟨L I,tab PT (szn s.1)⟩,⟨L B,o⟩])
     (fun j o=>o=tab (isP s p m) j++List.replicate (szn s.1 - j) false) (szn s.1) 0 (List.replicate (szn s.1) false) _ rfl (Nat.zero_le _) (by simp [tab]) ?_ ?_
    ·rintro j o hj rfl
     have hlen:(tab (isP s p m) j++List.replicate (szn s.1 - j) false).length=szn s.1:=by simp [tab_len];omega
     simp+contextual(maxSteps:=1000000)(disch:=omega)only[↓Sd,↓So,↓Sk,↓den,↓denA,Sa,Sb,Sc,Se,O1.d,O2.d,O3.d,cmI,arI,envOf,putN,↓reduceIte,Nat.reduceLT,Nat.reduceSub,Nat.reduceAdd,Int.reduceAdd,Int.reduceEq,Int.reduceLT,Int.reduceLE,arr_pos,arr_neg,hlen,tab_len,tab_get hj]
     exact tab_set hj (hPTe m j)
    ·rintro o rfl
     rw [Nat.sub_self,List.replicate_zero,List.append_nil]
     generalize hqq:isP s p m=q at *
     simp+contextual(maxSteps:=1000000)(disch:=omega)only[↓Sd,↓So,↓Sk,↓den,↓denA,Sa,Sb,Sc,Se,O1.d,O2.d,O3.d,cmI,arI,envOf,putN,↓reduceIte,Nat.reduceLT,Nat.reduceSub,Nat.reduceAdd,Int.reduceAdd,Int.reduceEq,Int.reduceLT,Int.reduceLE,arr_pos,arr_neg,C_impl_listOf_tab q (szn s.1) (by omega)]
     have hall:∀j,j<(upTo q (szn s.1)).length→∃a,a<szn s.1∧(upTo q (szn s.1)).getD j 0=(a:Int)∧q a=true:=fun j hj=>upTo_mem.1 (getD_mem (d:=0) hj)
     have hall2:∀a,a<szn s.1→q a=true→(a:Int)∈upTo q (szn s.1):=fun a ha hqa=>upTo_mem.2 ⟨a,ha,rfl,hqa⟩
     have hal:(upTo q (szn s.1)).length≤szn s.1:=upTo_len
     obtain ⟨A,hA⟩:∃A,upTo q (szn s.1)=A:=⟨_,rfl⟩
     refine mc.wp_join (fun us=>us=[⟨I,(szn s.1:Int)⟩,⟨I,(m:Int)⟩,⟨L V3,s.1⟩,⟨L TR,s.2⟩,⟨L (L I),steps s⟩,⟨L I,weak⟩,⟨L I,strong⟩,⟨L (L I),toT s⟩,⟨L (L I),O⟩,⟨L I,tab PT (szn s.1)⟩,⟨L B,tab q (szn s.1)⟩,⟨L I,A⟩]∧isR s p m=true) ?_ ?_
     ·by_cases h1:(upTo q (szn s.1)).length=1
      ·by_cases h2:(steps s).getD m []=[]
       ·have hr1:isR s p m=true:=by rw [hRm];exact dB_t (.inr (.inr h2))
        simp+contextual(maxSteps:=1000000)(disch:=omega)only[↓Sd,↓So,↓Sk,↓den,↓denA,Sa,Sb,Sc,Se,O1.d,O2.d,O3.d,cmI,arI,envOf,putN,↓reduceIte,Nat.reduceLT,Nat.reduceSub,Nat.reduceAdd,Int.reduceAdd,Int.reduceEq,Int.reduceLT,Int.reduceLE,arr_pos,arr_neg,h1,hTl,h2,List.length_nil]
        exact ⟨hA,hr1⟩
       ·have h2':=List.length_pos_iff.2 h2
        by_cases h3:(m:Int)∈(steps s).getD m []
        ·have hr1:isR s p m=true:=by rw [hRm];exact dB_t (.inr (.inl h3))
         simp+contextual(maxSteps:=1000000)(disch:=omega)only[↓Sd,↓So,↓Sk,↓den,↓denA,Sa,Sb,Sc,Se,O1.d,O2.d,O3.d,cmI,arI,envOf,putN,↓reduceIte,Nat.reduceLT,Nat.reduceSub,Nat.reduceAdd,Int.reduceAdd,Int.reduceEq,Int.reduceLT,Int.reduceLE,arr_pos,arr_neg,h1,hTl,C_slices_Contains_int _ _ (show ((steps s).getD m []).length≤1048576 by omega),dB_t h3,Bool.not_true]
         exact ⟨hA,hr1⟩
        ·have hr1:¬isR s p m=true:=by
          rw [hRm,dB_f]
          ·simp
          ·rintro (g | g | g)
           ·omega
           ·exact h3 g
           ·exact h2 g
         rw [if_neg fun g=>hr1 g.2,List.append_nil] at hnx
         simp+contextual(maxSteps:=1000000)(disch:=omega)only[↓Sd,↓So,↓Sk,↓den,↓denA,Sa,Sb,Sc,Se,O1.d,O2.d,O3.d,cmI,arI,envOf,putN,↓reduceIte,Nat.reduceLT,Nat.reduceSub,Nat.reduceAdd,Int.reduceAdd,Int.reduceEq,Int.reduceLT,Int.reduceLE,arr_pos,arr_neg,h1,hTl,C_slices_Contains_int _ _ (show ((steps s).getD m []).length≤1048576 by omega),dB_f h3,Bool.not_false]
         exact hnx.symm
      ·have hr1:isR s p m=true:=by rw [hRm];exact dB_t (.inl (by omega))
       simp+contextual(maxSteps:=1000000)(disch:=omega)only[↓Sd,↓So,↓Sk,↓den,↓denA,Sa,Sb,Sc,Se,O1.d,O2.d,O3.d,cmI,arI,envOf,putN,↓reduceIte,Nat.reduceLT,Nat.reduceSub,Nat.reduceAdd,Int.reduceAdd,Int.reduceEq,Int.reduceLT,Int.reduceLE,arr_pos,arr_neg,h1]
       exact ⟨hA,hr1⟩
     ·rintro us ⟨rfl,hr1⟩
      rw [if_pos ⟨hpp.1,hr1⟩] at hnx hb2
      rw [hA] at hall hall2 hal
      refine mc.wp_join (fun us=>us=[⟨B,wdead s weak q⟩,⟨I,(szn s.1:Int)⟩,⟨I,(m:Int)⟩,⟨L V3,s.1⟩,⟨L TR,s.2⟩,⟨L (L I),steps s⟩,⟨L I,weak⟩,⟨L I,strong⟩,⟨L (L I),toT s⟩,⟨L (L I),O⟩,⟨L I,tab PT (szn s.1)⟩,⟨L B,tab q (szn s.1)⟩,⟨L I,A⟩]) ?_ ?_
      ·simp+contextual(maxSteps:=1000000)(disch:=omega)only[↓Sd,↓So,↓Sk,↓den,↓denA,Sa,Sb,Sc,Se,O1.d,O2.d,O3.d,cmI,arI,envOf,putN,↓reduceIte,Nat.reduceLT,Nat.reduceSub,Nat.reduceAdd,Int.reduceAdd,Int.reduceEq,Int.reduceLT,Int.reduceLE,arr_pos,arr_neg,]
       refine mc.lp_for Unit (fun i _=>[⟨L I,weak⟩,⟨I,(weak.length:Int)⟩,⟨I,(i:Int)⟩,⟨I,(szn s.1:Int)⟩,⟨I,(m:Int)⟩,⟨L V3,s.1⟩,⟨L TR,s.2⟩,⟨L (L I),steps s⟩,⟨L I,weak⟩,⟨L I,strong⟩,⟨L (L I),toT s⟩,⟨L B,tab q (szn s.1)⟩,⟨L I,A⟩,⟨L (L I),O⟩,⟨L I,tab PT (szn s.1)⟩])
        (fun i _=>∀k:Nat,(k:Int)∈weak.take i→¬((∀a,a<szn s.1→q a=true→rub s k a=true)∧leadB s k q=false)) weak.length 0 () _ rfl (Nat.zero_le _) (fun k hk=>by simp at hk) ?_ ?_
       ·rintro i _ hi hI
        have hk:=hw _ (getD_mem (d:=0) hi)
        obtain ⟨k,hk2⟩:∃k:Nat,weak.getD i 0=(k:Int):=⟨_,(Int.toNat_of_nonneg hk.1).symm⟩
        rw [hk2] at hk
        have hkR:k<s.2.length:=Int.ofNat_lt.1 hk.2
        have hnext:¬((∀a,a<szn s.1→q a=true→rub s k a=true)∧leadB s k q=false)→∀k:Nat,(k:Int)∈weak.take (i+1)→¬((∀a,a<szn s.1→q a=true→rub s k a=true)∧leadB s k q=false):=by
         intro h1 j hj
         rcases (mem_take_next hi).1 hj with h2 | h2
         ·exact hI j h2
         ·rw [hk2] at h2
          have:=Int.ofNat_inj.1 h2
          subst this;exact h1
        by_cases hL:leadB s k q=true
        ·simp+contextual(maxSteps:=1000000)(disch:=omega)only[↓Sd,↓So,↓Sk,↓den,↓denA,Sa,Sb,Sc,Se,O1.d,O2.d,O3.d,cmI,arI,envOf,putN,↓reduceIte,Nat.reduceLT,Nat.reduceSub,Nat.reduceAdd,Int.reduceAdd,Int.reduceEq,Int.reduceLT,Int.reduceLE,arr_pos,arr_neg,↓wpJoin,hk2,hLd k hkR,hL,Bool.not_true]
         exact hnext fun g=>by rw [hL] at g;exact absurd g.2 (by simp)
        ·have hL':leadB s k q=false:=by simpa using hL
         simp+contextual(maxSteps:=1000000)(disch:=omega)only[↓Sd,↓So,↓Sk,↓den,↓denA,Sa,Sb,Sc,Se,O1.d,O2.d,O3.d,cmI,arI,envOf,putN,↓reduceIte,Nat.reduceLT,Nat.reduceSub,Nat.reduceAdd,Int.reduceAdd,Int.reduceEq,Int.reduceLT,Int.reduceLE,arr_pos,arr_neg,↓wpJoin,hk2,hLd k hkR,hL',Bool.not_false]
         refine mc.lp_for Unit (fun j _=>[⟨I,(A.length:Int)⟩,⟨I,(j:Int)⟩,⟨L I,weak⟩,⟨I,(i:Int)⟩,⟨I,(weak.length:Int)⟩,⟨I,(i:Int)⟩,⟨I,(szn s.1:Int)⟩,⟨I,(m:Int)⟩,⟨L V3,s.1⟩,⟨L TR,s.2⟩,⟨L (L I),steps s⟩,⟨L I,weak⟩,⟨L I,strong⟩,⟨L (L I),toT s⟩,⟨L I,A⟩,⟨I,(k:Int)⟩,⟨L B,tab q (szn s.1)⟩,⟨L (L I),O⟩,⟨L I,tab PT (szn s.1)⟩])
          (fun j _=>∀x∈A.take j,rub s k x.toNat=true) A.length 0 () _ rfl (Nat.zero_le _) (fun x hx=>by simp at hx) ?_ ?_
         ·rintro j _ hj hJ
          obtain ⟨a,ha,hja,hqa⟩:=hall j hj
          by_cases hu:rub s k a=true
          ·have hr:=(rtg_nn h).2 hu
           simp+contextual(maxSteps:=1000000)(disch:=omega)only[↓Sd,↓So,↓Sk,↓den,↓denA,Sa,Sb,Sc,Se,O1.d,O2.d,O3.d,cmI,arI,envOf,putN,↓reduceIte,Nat.reduceLT,Nat.reduceSub,Nat.reduceAdd,Int.reduceAdd,Int.reduceEq,Int.reduceLT,Int.reduceLE,arr_pos,arr_neg,↓wpJoin,hja,hl,hg k hkR,tab_len,tab_get ha]
           intro x hx
           rcases (mem_take_next hj).1 hx with h2 | h2
           ·exact hJ x h2
           ·rw [h2,hja];exact hu
          ·have hr:=rtg_no h hu
           simp+contextual(maxSteps:=1000000)(disch:=omega)only[↓Sd,↓So,↓Sk,↓den,↓denA,Sa,Sb,Sc,Se,O1.d,O2.d,O3.d,cmI,arI,envOf,putN,↓reduceIte,Nat.reduceLT,Nat.reduceSub,Nat.reduceAdd,Int.reduceAdd,Int.reduceEq,Int.reduceLT,Int.reduceLE,arr_pos,arr_neg,↓wpJoin,hja,hl,hg k hkR,tab_len,tab_get ha,hr,Bool.not_true,decide_eq_true (show (j:Int)≥0 by omega)]
           exact hnext fun g=>hu (g.1 a ha hqa)
         ·rintro _ hJ
          rw [List.take_length] at hJ
          have hD:wdead s weak q=true:=dB_t ⟨k,by rw [←hk2];exact getD_mem hi,fun a ha hqa=>hJ (a:Int) (hall2 a ha hqa),hL'⟩
          simp+contextual(maxSteps:=1000000)(disch:=omega)only[↓Sd,↓So,↓Sk,↓den,↓denA,Sa,Sb,Sc,Se,O1.d,O2.d,O3.d,cmI,arI,envOf,putN,↓reduceIte,Nat.reduceLT,Nat.reduceSub,Nat.reduceAdd,Int.reduceAdd,Int.reduceEq,Int.reduceLT,Int.reduceLE,arr_pos,arr_neg,↓wpJoin,hD,decide_eq_false (show ¬(-1:Int)≥0 by omega),Bool.not_false,decide_eq_true (show (i:Int)≥0 by omega)]
          exact fun hx=>absurd (decide_eq_false (by omega)) hx
       ·rintro _ hI
        rw [List.take_length] at hI
        have hD:wdead s weak q=false:=dB_f fun ⟨k,h1,h2⟩=>hI k h1 h2
        simp+contextual(maxSteps:=1000000)(disch:=omega)only[↓Sd,↓So,↓Sk,↓den,↓denA,Sa,Sb,Sc,Se,O1.d,O2.d,O3.d,cmI,arI,envOf,putN,↓reduceIte,Nat.reduceLT,Nat.reduceSub,Nat.reduceAdd,Int.reduceAdd,Int.reduceEq,Int.reduceLT,Int.reduceLE,arr_pos,arr_neg,hD]
        exact decide_eq_false (by omega)
      ·rintro us rfl
       by_cases hD:wdead s weak q=true
       ·have hc2:cor2 s weak strong (crs s weak strong f) q=[]:=if_pos hD
        rw [hc2,List.append_nil] at hnx
        simp+contextual(maxSteps:=1000000)(disch:=omega)only[↓Sd,↓So,↓Sk,↓den,↓denA,Sa,Sb,Sc,Se,O1.d,O2.d,O3.d,cmI,arI,envOf,putN,↓reduceIte,Nat.reduceLT,Nat.reduceSub,Nat.reduceAdd,Int.reduceAdd,Int.reduceEq,Int.reduceLT,Int.reduceLE,arr_pos,arr_neg,hD]
        exact hnx.symm
       ·have hD':wdead s weak q=false:=by simpa using hD
        simp+contextual(maxSteps:=1000000)(disch:=omega)only[↓Sd,↓So,↓Sk,↓den,↓denA,Sa,Sb,Sc,Se,O1.d,O2.d,O3.d,cmI,arI,envOf,putN,↓reduceIte,Nat.reduceLT,Nat.reduceSub,Nat.reduceAdd,Int.reduceAdd,Int.reduceEq,Int.reduceLT,Int.reduceLE,arr_pos,arr_neg,hD',C_slices_Clone_bool (tab q (szn s.1)) (fun g=>by have:=congrArg List.length g;rw [tab_len] at this;simp at this;omega) (by rw [tab_len];omega)]
        refine mc.lp_for (Bool×(Nat→Bool)) (fun i z=>[⟨B,z.1⟩,⟨I,(szn s.1:Int)⟩,⟨I,(m:Int)⟩,⟨L I,strong⟩,⟨I,(strong.length:Int)⟩,⟨I,(i:Int)⟩,⟨L V3,s.1⟩,⟨L TR,s.2⟩,⟨L (L I),steps s⟩,⟨L I,weak⟩,⟨L I,strong⟩,⟨L (L I),toT s⟩,⟨L (L I),O⟩,⟨L I,tab PT (szn s.1)⟩,⟨L B,tab q (szn s.1)⟩,⟨L I,A⟩,⟨L B,tab z.2 (szn s.1)⟩])
         (fun i z=>(∀a,a<szn s.1→z.2 a=sleft s (strong.take i) q a)∧z.1=chgd s (strong.take i) q) strong.length 0 (false,q) _ rfl (Nat.zero_le _) ⟨fun a _=>?_,?_⟩ ?_ ?_
        ·unfold sleft
         rw [dB_f]
         ·simp
         ·rintro ⟨k,h1,-⟩;simp at h1
        ·refine (dB_f ?_).symm
         rintro ⟨a,-,h2,h3⟩
         refine h3 ?_
         unfold sleft
         rw [dB_f]
         ·simp [h2]
         ·rintro ⟨k,h1,-⟩;simp at h1
        ·rintro i ⟨cg,lf⟩ hi ⟨hz1,hz2⟩
         dsimp only at hz1 hz2
         have hk:=hst _ (getD_mem (d:=0) hi)
         obtain ⟨k,hk2⟩:∃k:Nat,strong.getD i 0=(k:Int):=⟨_,(Int.toNat_of_nonneg hk.1).symm⟩
         rw [hk2] at hk
         have hkR:k<s.2.length:=Int.ofNat_lt.1 hk.2
         have hsn:=fun a=>sleft_next (s:=s) (q:=q) hi hk2 a
         by_cases hL:leadB s k q=true
         ·have hsn2:∀a,sleft s (strong.take (i+1)) q a=sleft s (strong.take i) q a:=fun a=>by rw [hsn,hL];simp
          simp+contextual(maxSteps:=1000000)(disch:=omega)only[↓Sd,↓So,↓Sk,↓den,↓denA,Sa,Sb,Sc,Se,O1.d,O2.d,O3.d,cmI,arI,envOf,putN,↓reduceIte,Nat.reduceLT,Nat.reduceSub,Nat.reduceAdd,Int.reduceAdd,Int.reduceEq,Int.reduceLT,Int.reduceLE,arr_pos,arr_neg,↓wpJoin,hk2,hLd k hkR,hL]
          refine ⟨(cg,lf),⟨rfl,rfl⟩,fun a ha=>by rw [hsn2];exact hz1 a ha,?_⟩
          dsimp only
          rw [hz2]
          exact dB_congr (by simp only [hsn2])
         ·have hL':leadB s k q=false:=by simpa using hL
          have hsn2:∀a,sleft s (strong.take (i+1)) q a=(sleft s (strong.take i) q a&&!rub s k a):=fun a=>by rw [hsn,hL'];simp
          simp+contextual(maxSteps:=1000000)(disch:=omega)only[↓Sd,↓So,↓Sk,↓den,↓denA,Sa,Sb,Sc,Se,O1.d,O2.d,O3.d,cmI,arI,envOf,putN,↓reduceIte,Nat.reduceLT,Nat.reduceSub,Nat.reduceAdd,Int.reduceAdd,Int.reduceEq,Int.reduceLT,Int.reduceLE,arr_pos,arr_neg,↓wpJoin,hk2,hLd k hkR,hL']
          refine mc.lp_for (Bool×(Nat→Bool)) (fun j z=>[⟨B,z.1⟩,⟨I,(k:Int)⟩,⟨I,(szn s.1:Int)⟩,⟨I,(m:Int)⟩,⟨L I,strong⟩,⟨I,(strong.length:Int)⟩,⟨I,(i:Int)⟩,⟨I,(A.length:Int)⟩,⟨I,(j:Int)⟩,⟨L V3,s.1⟩,⟨L TR,s.2⟩,⟨L (L I),steps s⟩,⟨L I,weak⟩,⟨L I,strong⟩,⟨L (L I),toT s⟩,⟨L (L I),O⟩,⟨L I,tab PT (szn s.1)⟩,⟨L B,tab q (szn s.1)⟩,⟨L I,A⟩,⟨L B,tab z.2 (szn s.1)⟩])
           (fun j z=>(∀a,a<szn s.1→z.2 a=(lf a&&!(rub s k a&&dB ((a:Int)∈A.take j))))∧z.1=(cg||dB (∃x∈A.take j,rub s k x.toNat=true))) A.length 0 (cg,lf) _ rfl (Nat.zero_le _) ⟨fun a _=>?_,?_⟩ ?_ ?_
          ·rw [dB_f (by simp)];simp
          ·rw [dB_f (by simp)];simp
          ·rintro j ⟨cg2,lf2⟩ hj ⟨hy1,hy2⟩
           dsimp only at hy1 hy2
           obtain ⟨a,ha,hja,hqa⟩:=hall j hj
           have hmn:∀b:Nat,(b:Int)∈A.take (j+1)↔(b:Int)∈A.take j∨b=a:=fun b=>by
            rw [mem_take_next hj,hja]
            exact or_congr Iff.rfl ⟨fun g=>Int.ofNat_inj.1 g,fun g=>by rw [g]⟩
           by_cases hu:rub s k a=true
           ·have hr:=(rtg_nn h).2 hu
            simp+contextual(maxSteps:=1000000)(disch:=omega)only[↓Sd,↓So,↓Sk,↓den,↓denA,Sa,Sb,Sc,Se,O1.d,O2.d,O3.d,cmI,arI,envOf,putN,↓reduceIte,Nat.reduceLT,Nat.reduceSub,Nat.reduceAdd,Int.reduceAdd,Int.reduceEq,Int.reduceLT,Int.reduceLE,arr_pos,arr_neg,↓wpJoin,hja,hl,hg k hkR,tab_len,tab_get ha,tab_set']
            refine ⟨(true,fun b=>if b=a then false else lf2 b),⟨rfl,rfl⟩,fun b hb=>?_,?_⟩
            ·dsimp only
             by_cases he:b=a
             ·subst he
              rw [if_pos rfl,hu,dB_t ((hmn b).2 (.inr rfl))];simp
             ·rw [if_neg he,hy1 b hb,dB_congr (show (b:Int)∈A.take (j+1)↔(b:Int)∈A.take j from ⟨fun g=>((hmn b).1 g).resolve_right he,fun g=>(hmn b).2 (.inl g)⟩)]
            ·dsimp only
             rw [dB_t (show ∃x∈A.take (j+1),rub s k x.toNat=true from ⟨(a:Int),(hmn a).2 (.inr rfl),hu⟩)];simp
           ·have hr:=rtg_no h hu
            simp+contextual(maxSteps:=1000000)(disch:=omega)only[↓Sd,↓So,↓Sk,↓den,↓denA,Sa,Sb,Sc,Se,O1.d,O2.d,O3.d,cmI,arI,envOf,putN,↓reduceIte,Nat.reduceLT,Nat.reduceSub,Nat.reduceAdd,Int.reduceAdd,Int.reduceEq,Int.reduceLT,Int.reduceLE,arr_pos,arr_neg,↓wpJoin,hja,hl,hg k hkR,tab_len,tab_get ha,hr]
            refine ⟨(cg2,lf2),⟨rfl,rfl⟩,fun b hb=>?_,?_⟩
            ·dsimp only
             rw [hy1 b hb]
             by_cases he:b=a
             ·subst he
              have:rub s k b=false:=by simpa using hu
              rw [this];simp
             ·rw [dB_congr (show (b:Int)∈A.take (j+1)↔(b:Int)∈A.take j from ⟨fun g=>((hmn b).1 g).resolve_right he,fun g=>(hmn b).2 (.inl g)⟩)]
            ·dsimp only
             rw [hy2]
             congr 1
             refine dB_congr ⟨?_,?_⟩
             ·rintro ⟨x,h1,h2⟩;exact ⟨x,(mem_take_next hj).2 (.inl h1),h2⟩
             ·rintro ⟨x,h1,h2⟩
              rcases (mem_take_next hj).1 h1 with h3 | h3
              ·exact ⟨x,h3,h2⟩
              ·rw [h3,hja] at h2;exact absurd h2 hu
          ·rintro ⟨cg2,lf2⟩ ⟨hy1,hy2⟩
           dsimp only at hy1 hy2
           rw [List.take_length] at hy1 hy2
           simp+contextual(maxSteps:=1000000)(disch:=omega)only[↓Sd,↓So,↓Sk,↓den,↓denA,Sa,Sb,Sc,Se,O1.d,O2.d,O3.d,cmI,arI,envOf,putN,↓reduceIte,Nat.reduceLT,Nat.reduceSub,Nat.reduceAdd,Int.reduceAdd,Int.reduceEq,Int.reduceLT,Int.reduceLE,arr_pos,arr_neg,↓wpJoin,]
           refine ⟨(cg2,lf2),⟨rfl,rfl⟩,fun a ha=>?_,?_⟩
           ·dsimp only
            rw [hy1 a ha,hsn2,hz1 a ha]
            by_cases hqa:q a=true
            ·rw [dB_t (hall2 a ha hqa),Bool.and_true]
            ·have:sleft s (strong.take i) q a=false:=by
              cases hs:sleft s (strong.take i) q a with
              | false=>rfl
              | true=>exact absurd (sleft_sub hs) hqa
             rw [this];rfl
           ·dsimp only
            rw [hy2,hz2]
            by_cases h1:chgd s (strong.take i) q=true
            ·obtain ⟨a,a1,a2,a3⟩:=dB_iff.1 h1
             rw [h1,Bool.true_or]
             exact (dB_t ⟨a,a1,a2,by rw [hsn2];simp only [Bool.and_eq_true,not_and];exact fun g=>absurd g a3⟩).symm
            ·have h1':chgd s (strong.take i) q=false:=by simpa using h1
             rw [h1',Bool.false_or]
             refine dB_congr ⟨?_,?_⟩
             ·rintro ⟨x,x1,x2⟩
              obtain ⟨jj,hjj,rfl⟩:=List.getElem_of_mem x1
              obtain ⟨a,b1,b2,b3⟩:=hall jj hjj
              rw [List.getD_eq_getElem?_getD,List.getElem?_eq_getElem hjj,Option.getD_some] at b2
              rw [b2] at x2
              simp only [Int.toNat_natCast] at x2
              exact ⟨a,b1,b3,by rw [hsn2,x2];simp⟩
             ·rintro ⟨a,a1,a2,a3⟩
              have h4:sleft s (strong.take i) q a=true:=by
               cases hs:sleft s (strong.take i) q a with
               | true=>rfl
               | false=>exact absurd (dB_t ⟨a,a1,a2,by rw [hs];simp⟩) h1
              refine ⟨(a:Int),hall2 a a1 a2,?_⟩
              rw [hsn2,h4] at a3
              simpa using a3
        ·rintro ⟨cg,lf⟩ ⟨hz1,hz2⟩
         dsimp only at hz1 hz2
         rw [List.take_length] at hz1 hz2
         have hlf:tab lf (szn s.1)=tab (sleft s strong q) (szn s.1):=tab_congr hz1
         by_cases hC:chgd s strong q=true
         ·have hne:=chgd_iff.1 hC
          have hc2:cor2 s weak strong (crs s weak strong f) q=crs s weak strong f (sleft s strong q):=by unfold cor2;rw [if_neg hD,if_neg hne]
          rw [hc2] at hnx hb2
          have hlt:=left_lt hne
          rw [hA] at hlt hql hqp
          obtain ⟨f',rfl⟩:∃f',f=f'+1:=⟨f - 1,by omega⟩
          have hih:=fun Q=>ih f' (Nat.lt_succ_self _) (sleft s strong q) (by omega) Q
          simp+contextual(maxSteps:=1000000)(disch:=omega)only[↓Sd,↓So,↓Sk,↓den,↓denA,Sa,Sb,Sc,Se,O1.d,O2.d,O3.d,cmI,arI,envOf,putN,↓reduceIte,Nat.reduceLT,Nat.reduceSub,Nat.reduceAdd,Int.reduceAdd,Int.reduceEq,Int.reduceLT,Int.reduceLE,arr_pos,arr_neg,hz2,hC,hlf,hih]
          exact hnx.symm
         ·have hC':chgd s strong q=false:=by simpa using hC
          have hc2:cor2 s weak strong (crs s weak strong f) q=[A]:=by
           unfold cor2
           rw [if_neg hD,if_pos (Classical.not_not.1 fun g=>hC (chgd_iff.2 g)),hA]
          rw [hc2] at hnx hb2
          simp only [List.length_singleton] at hb2
          simp+contextual(maxSteps:=1000000)(disch:=omega)only[↓Sd,↓So,↓Sk,↓den,↓denA,Sa,Sb,Sc,Se,O1.d,O2.d,O3.d,cmI,arI,envOf,putN,↓reduceIte,Nat.reduceLT,Nat.reduceSub,Nat.reduceAdd,Int.reduceAdd,Int.reduceEq,Int.reduceLT,Int.reduceLE,arr_pos,arr_neg,hz2,hC']
          exact hnx.symm
   ·have hno:¬(p m=true∧isR s p m=true):=fun g=>hpm (hPm.2 (isR_self g.1 g.2))
    rw [if_neg hno,List.append_nil] at hnx
    simp+contextual(maxSteps:=1000000)(disch:=omega)only[↓Sd,↓So,↓Sk,↓den,↓denA,Sa,Sb,Sc,Se,O1.d,O2.d,O3.d,cmI,arI,envOf,putN,↓reduceIte,Nat.reduceLT,Nat.reduceSub,Nat.reduceAdd,Int.reduceAdd,Int.reduceEq,Int.reduceLT,Int.reduceLE,arr_pos,arr_neg,tab_len,tab_get hm,hpm]
    exact hnx.symm
   ·rintro us rfl
    simp+contextual(maxSteps:=1000000)(disch:=omega)only[↓Sd,↓So,↓Sk,↓den,↓denA,Sa,Sb,Sc,Se,O1.d,O2.d,O3.d,cmI,arI,envOf,putN,↓reduceIte,Nat.reduceLT,Nat.reduceSub,Nat.reduceAdd,Int.reduceAdd,Int.reduceEq,Int.reduceLT,Int.reduceLE,arr_pos,arr_neg,]
  ·rintro o rfl
   simp+contextual(maxSteps:=1000000)(disch:=omega)only[↓Sd,↓So,↓Sk,↓den,↓denA,Sa,Sb,Sc,Se,O1.d,O2.d,O3.d,cmI,arI,envOf,putN,↓reduceIte,Nat.reduceLT,Nat.reduceSub,Nat.reduceAdd,Int.reduceAdd,Int.reduceEq,Int.reduceLT,Int.reduceLE,arr_pos,arr_neg,]
theorem C_spec_RulesSet (s:Sy) (l:List Int) (hs:FewSy s) (hl:l.length≤1048576) (Q:List AV→Prop):mc.C f_spec_RulesSet [⟨L V3,s.1⟩,⟨L TR,s.2⟩,⟨L I,l⟩] Q=Q [⟨B,decide (lset l (s.2.length:Int)∧valid s)⟩]:=by
 refine Mc.Ends.c (mc.ends F_spec_RulesSet ?_)
 generalize hK:decide (lset l (s.2.length:Int)∧valid s)=K
 have hR:s.2.length≤1048576:=hs.2.1
 simp+contextual(maxSteps:=1000000)(disch:=omega)only[↓Sd,↓So,↓Sk,↓den,↓denA,Sa,Sb,Sc,Se,O1.d,O2.d,O3.d,cmI,arI,envOf,putN,↓reduceIte,Nat.reduceLT,Nat.reduceSub,Nat.reduceAdd,Int.reduceAdd,Int.reduceEq,Int.reduceLT,Int.reduceLE,arr_pos,arr_neg,tr_spec_RulesSet]
 refine lp_all (fun i=>[⟨L I,l⟩,⟨I,(i:Int)⟩,⟨L V3,s.1⟩,⟨L TR,s.2⟩]) (fun i=>(0≤l.getD i 0∧l.getD i 0≤(s.2.length:Int) - 1)∧(0<i→l.getD (i - 1) 0<l.getD i 0)) l.length _ rfl ?_ ?_
 ·intro i hi
  have hno:¬((0≤l.getD i 0∧l.getD i 0≤(s.2.length:Int) - 1)∧(0<i→l.getD (i - 1) 0<l.getD i 0))→false=K:=fun h=>by rw [←hK,decide_eq_false];exact fun h1=>h (h1.1 i hi)
  simp+contextual(maxSteps:=1000000)(disch:=omega)only[↓Sd,↓So,↓Sk,↓den,↓denA,Sa,Sb,Sc,Se,O1.d,O2.d,O3.d,cmI,arI,envOf,putN,↓reduceIte,Nat.reduceLT,Nat.reduceSub,Nat.reduceAdd,Int.reduceAdd,Int.reduceEq,Int.reduceLT,Int.reduceLE,arr_pos,arr_neg,↓wpJoin,C_spec_l1In]
  grind
 ·intro h
  simp+contextual(maxSteps:=1000000)(disch:=omega)only[↓Sd,↓So,↓Sk,↓den,↓denA,Sa,Sb,Sc,Se,O1.d,O2.d,O3.d,cmI,arI,envOf,putN,↓reduceIte,Nat.reduceLT,Nat.reduceSub,Nat.reduceAdd,Int.reduceAdd,Int.reduceEq,Int.reduceLT,Int.reduceLE,arr_pos,arr_neg,C_spec_SystemValid s hs]
  rw [←hK];exact decide_eq_decide.2 ⟨fun g=>⟨h,g⟩,fun g=>g.2⟩
def fairOk (s:Sy) (weak strong l:List Int):Prop:=setV s l∧lset weak (s.2.length:Int)∧lset strong (s.2.length:Int)
theorem fairOk.rl {s:Sy} {weak strong l:List Int} (h:fairOk s weak strong l):rlist s weak∧rlist s strong:=⟨fun x hx=>lset_mem h.2.1 x hx,fun x hx=>lset_mem h.2.2 x hx⟩
noncomputable def mks (l:List Int) (k:Nat):Bool:=dB ((k:Int)∈l)
theorem lset_upTo {l:List Int} {n:Nat} (h:lset l n):upTo (mks l) n=l:=by
 have key:∀m,m≤n→upTo (mks l) m=l.filter fun x=>decide (x<(m:Int)):=by
  intro m
  induction m with
  | zero =>
   intro _
   refine (List.filter_eq_nil_iff.2 fun x hx=>?_).symm
   have:=lset_mem h x hx
   simp;omega
  | succ m ih =>
   intro hm
   have hp:l.Pairwise (fun a b=>a<b):=by
    rw [List.pairwise_iff_getElem]
    intro i j hi hj hij
    have:∀d,i+d+1<l.length→l.getD i 0<l.getD (i+d+1) 0:=by
     intro d
     induction d with
     | zero=>intro hd;exact (h (i+1) hd).2 (by omega)
     | succ d ihd =>
      intro hd
      have h1:=ihd (by omega)
      have h2:=(h (i+(d+1)+1) hd).2 (by omega)
      rw [show i+(d+1)+1 - 1=i+d+1 by omega] at h2
      omega
    have h3 := this (j - i - 1) (by omega)
    rw [show i + (j - i - 1) + 1 = j by omega] at h3
    rwa [List.getD_eq_getElem?_getD,List.getD_eq_getElem?_getD,List.getElem?_eq_getElem hi,List.getElem?_eq_getElem hj] at h3
   rw [upTo,ih (by omega)]
   clear ih
   unfold mks
   have hcl:∀(l:List Int),l.Pairwise (fun a b=>a<b)→l.filter (fun x=>decide (x<((m+1:Nat):Int)))=l.filter (fun x=>decide (x<(m:Int)))++if (m:Int)∈l then [(m:Int)] else []:=by
    intro l
    induction l with
    | nil=>intro _;simp
    | cons x l ihl =>
     intro hq
     obtain ⟨q1,q2⟩:=List.pairwise_cons.1 hq
     have e:=ihl q2
     by_cases hx:x<(m:Int)
     ·have hx2:x<((m+1:Nat):Int):=by omega
      have hne:¬(m:Int)=x:=by omega
      rw [List.filter_cons_of_pos (by simpa using hx2),List.filter_cons_of_pos (by simpa using hx),e]
      simp [hne]
     ·by_cases he:x=(m:Int)
      ·subst he
       have h0:l.filter (fun x=>decide (x<((m+1:Nat):Int)))=[]:=List.filter_eq_nil_iff.2 fun y hy=>by have:=q1 y hy;simp;omega
       have h1:l.filter (fun x=>decide (x<(m:Int)))=[]:=List.filter_eq_nil_iff.2 fun y hy=>by have:=q1 y hy;simp;omega
       rw [List.filter_cons_of_pos (by simp;omega),List.filter_cons_of_neg (by simp),h0,h1]
       simp
      ·have h0:∀y∈x::l,(m:Int)<y:=fun y hy=>by
        rcases List.mem_cons.1 hy with rfl | hy
        ·omega
        ·have:=q1 y hy;omega
       have h1:(x::l).filter (fun x=>decide (x<((m+1:Nat):Int)))=[]:=List.filter_eq_nil_iff.2 fun y hy=>by have:=h0 y hy;simp;omega
       have h2:(x::l).filter (fun x=>decide (x<(m:Int)))=[]:=List.filter_eq_nil_iff.2 fun y hy=>by have:=h0 y hy;simp;omega
       rw [h1,h2,if_neg fun g=>by have:=h0 _ g;omega];rfl
   rw [hcl l hp]
   by_cases hm2:(m:Int)∈l
   ·rw [if_pos (dB_t hm2),if_pos hm2]
   ·rw [if_neg (by rw [dB_f hm2];simp),if_neg hm2,List.append_nil]
 rw [key n (Nat.le_refl _)]
 exact List.filter_eq_self.2 fun x hx=>by have:=lset_mem h x hx;simpa using this.2
noncomputable def cors (s:Sy) (weak strong l:List Int):List (List Int):=crs s weak strong (szn s.1+1) (mks l)
noncomputable def corsR (s:Sy) (weak strong l:List Int):List (List Int):=if dB (fairOk s weak strong l)=true then cors s weak strong l else []
theorem cors_sm {s:Sy} {weak strong l:List Int} (h:valid s):SmSS (cors s weak strong l):=by
 have hz:=szn_eq h
 have h1:=crs_len (s:=s) (weak:=weak) (strong:=strong) (f:=szn s.1+1) (p:=mks l)
 have h2:=crs_of (s:=s) (weak:=weak) (strong:=strong) (f:=szn s.1+1) (p:=mks l)
 refine ⟨by unfold cors;omega,fun c hc=>?_⟩
 obtain ⟨q,rfl,-,-⟩:=h2.sub c hc
 have:=@upTo_len q (szn s.1)
 omega
theorem corsR_sm {s:Sy} {weak strong l:List Int}:SmSS (corsR s weak strong l):=by
 unfold corsR
 split
 ·rename_i h;exact cors_sm (dB_iff.1 h).1.1
 ·exact ⟨by simp,fun c hc=>by simp at hc⟩
theorem C_spec_l23Asked (s:Sy) (weak strong:List Int) (hs:FewSy s) (hwl:weak.length≤1048576) (hsl:strong.length≤1048576) (Q:List AV→Prop) :
  mc.C f_spec_l23Asked [⟨L V3,s.1⟩,⟨L TR,s.2⟩,⟨L I,weak⟩,⟨L I,strong⟩] Q=Q [⟨B,decide (valid s∧lset weak (s.2.length:Int)∧lset strong (s.2.length:Int))⟩]:=by
 refine Mc.Ends.c (mc.ends F_spec_l23Asked ?_)
 generalize hK:decide (valid s∧lset weak (s.2.length:Int)∧lset strong (s.2.length:Int))=K
 simp+contextual(maxSteps:=1000000)(disch:=omega)only[↓Sd,↓So,↓Sk,↓den,↓denA,Sa,Sb,Sc,Se,O1.d,O2.d,O3.d,cmI,arI,envOf,putN,↓reduceIte,Nat.reduceLT,Nat.reduceSub,Nat.reduceAdd,Int.reduceAdd,Int.reduceEq,Int.reduceLT,Int.reduceLE,arr_pos,arr_neg,tr_spec_l23Asked,C_spec_RulesSet s weak hs hwl,C_spec_RulesSet s strong hs hsl]
 rw [←hK]
 refine ⟨fun h1=>?_,fun h1=>?_⟩
 ·have h2:=h1.1
  have h3:=h1.2
  refine Eq.symm (decide_eq_decide.2 ⟨fun g=>?_,fun g=>?_⟩)
  ·first | exact g.2.2 | exact ⟨g.2.2,g.1⟩
  ·first | exact ⟨h3,h2,g⟩ | exact ⟨g.2,h2,g.1⟩
 ·exact (decide_eq_false fun g=>h1 ⟨g.2.1,g.1⟩).symm
theorem C_spec_FairCores (s:Sy) (weak strong l:List Int) (hs:FewSy s) (hwl:weak.length≤1048576) (hsl:strong.length≤1048576) (hl:l.length≤1048576) (Q:List AV→Prop) :
  mc.C f_spec_FairCores [⟨L V3,s.1⟩,⟨L TR,s.2⟩,⟨L I,weak⟩,⟨L I,strong⟩,⟨L I,l⟩] Q=Q [⟨L (L I),corsR s weak strong l⟩]:=by
 refine Mc.Ends.c (mc.ends F_spec_FairCores ?_)
 by_cases hok:fairOk s weak strong l
 ·have hv:=hok.1.1
  have hz:=szn_eq hv
  have hlu:upTo (mks l) (szn s.1)=l:=lset_upTo hok.1.n
  have hco:corsR s weak strong l=cors s weak strong l:=by unfold corsR;rw [if_pos (dB_t hok)]
  have hC:=fun Q=>C_spec_l23Cores s hs hv weak strong hok.rl.1 hok.rl.2 hwl hsl (szn s.1) (mks l) upTo_len Q
  rw [hlu] at hC
  have hCe:crs s weak strong (szn s.1+1) (mks l)=cors s weak strong l:=rfl
  have hsm:=cors_sm (weak:=weak) (strong:=strong) (l:=l) hv
  rw [hco]
  rw [hCe] at hC
  generalize cors s weak strong l=M at hC hsm
  have h1:=hsm.1
  simp+contextual(maxSteps:=1000000)(disch:=omega)only[↓Sd,↓So,↓Sk,↓den,↓denA,Sa,Sb,Sc,Se,O1.d,O2.d,O3.d,cmI,arI,envOf,putN,↓reduceIte,Nat.reduceLT,Nat.reduceSub,Nat.reduceAdd,Int.reduceAdd,Int.reduceEq,Int.reduceLT,Int.reduceLE,arr_pos,arr_neg,tr_spec_FairCores,C_spec_l23Asked s weak strong hs hwl hsl,decide_eq_true (show valid s∧lset weak (s.2.length:Int)∧lset strong (s.2.length:Int) from ⟨hv,hok.2⟩),Bool.not_true,C_spec_SetValid s l hs hl,decide_eq_true hok.1,C_spec_l4Steps s hs hv,C_spec_l23Usable s hs hv,hC]
  refine mc.lp_for (List (List Int)) (fun i o=>[⟨I,(i:Int)⟩,⟨L (L I),o⟩,⟨L (L I),M⟩]) (fun i o=>o=M.take i) M.length 0 [] _ rfl (Nat.zero_le _) rfl ?_ ?_
  ·rintro i o hi rfl
   have h2:=hsm.row i
   have h3:(M.take i).length≤4000:=by rw [List.length_take];omega
   simp+contextual(maxSteps:=1000000)(disch:=omega)only[↓Sd,↓So,↓Sk,↓den,↓denA,Sa,Sb,Sc,Se,O1.d,O2.d,O3.d,cmI,arI,envOf,putN,↓reduceIte,Nat.reduceLT,Nat.reduceSub,Nat.reduceAdd,Int.reduceAdd,Int.reduceEq,Int.reduceLT,Int.reduceLE,arr_pos,arr_neg,C_spec_l3Copy (M.getD i []) (by omega)]
   exact take_next hi
  ·rintro o rfl
   rw [List.take_length]
   simp+contextual(maxSteps:=1000000)(disch:=omega)only[↓Sd,↓So,↓Sk,↓den,↓denA,Sa,Sb,Sc,Se,O1.d,O2.d,O3.d,cmI,arI,envOf,putN,↓reduceIte,Nat.reduceLT,Nat.reduceSub,Nat.reduceAdd,Int.reduceAdd,Int.reduceEq,Int.reduceLT,Int.reduceLE,arr_pos,arr_neg,]
 ·have hco:corsR s weak strong l=[]:=by unfold corsR;rw [if_neg (by rw [dB_f hok];simp)]
  rw [hco]
  by_cases h1:valid s∧lset weak (s.2.length:Int)∧lset strong (s.2.length:Int)
  ·have h2:¬setV s l:=fun g=>hok ⟨g,h1.2⟩
   simp+contextual(maxSteps:=1000000)(disch:=omega)only[↓Sd,↓So,↓Sk,↓den,↓denA,Sa,Sb,Sc,Se,O1.d,O2.d,O3.d,cmI,arI,envOf,putN,↓reduceIte,Nat.reduceLT,Nat.reduceSub,Nat.reduceAdd,Int.reduceAdd,Int.reduceEq,Int.reduceLT,Int.reduceLE,arr_pos,arr_neg,tr_spec_FairCores,C_spec_l23Asked s weak strong hs hwl hsl,decide_eq_true h1,Bool.not_true,C_spec_SetValid s l hs hl,decide_eq_false h2,Bool.not_false]
  ·simp+contextual(maxSteps:=1000000)(disch:=omega)only[↓Sd,↓So,↓Sk,↓den,↓denA,Sa,Sb,Sc,Se,O1.d,O2.d,O3.d,cmI,arI,envOf,putN,↓reduceIte,Nat.reduceLT,Nat.reduceSub,Nat.reduceAdd,Int.reduceAdd,Int.reduceEq,Int.reduceLT,Int.reduceLE,arr_pos,arr_neg,tr_spec_FairCores,C_spec_l23Asked s weak strong hs hwl hsl,decide_eq_false h1,Bool.not_false]
theorem C_impl_fairSet (s:Sy) (weak strong l:List Int) (hs:FewSy s) (hwl:weak.length≤1048576) (hsl:strong.length≤1048576) (hl:l.length≤1048576) (Q:List AV→Prop) :
  mc.C f_impl_fairSet [⟨L V3,s.1⟩,⟨L TR,s.2⟩,⟨L I,weak⟩,⟨L I,strong⟩,⟨L I,l⟩] Q=Q [⟨B,dB (fairOk s weak strong l)⟩]:=by
 have hR:s.2.length≤1048576:=hs.2.1
 have hro:∀(x:List Int) (hx:x.length≤1048576) (Q:List AV→Prop),mc.C f_impl_rulesOk [⟨L V3,s.1⟩,⟨L TR,s.2⟩,⟨L I,x⟩] Q=Q [⟨B,decide (lset x (s.2.length:Int))⟩]:=by
  intro x hx Q
  refine Mc.Ends.c (mc.ends F_impl_rulesOk ?_)
  simp+contextual(maxSteps:=1000000)(disch:=omega)only[↓Sd,↓So,↓Sk,↓den,↓denA,Sa,Sb,Sc,Se,O1.d,O2.d,O3.d,cmI,arI,envOf,putN,↓reduceIte,Nat.reduceLT,Nat.reduceSub,Nat.reduceAdd,Int.reduceAdd,Int.reduceEq,Int.reduceLT,Int.reduceLE,arr_pos,arr_neg,tr_impl_rulesOk,C_impl_setOk x (s.2.length:Int) (by omega) hx]
 refine Mc.Ends.c (mc.ends F_impl_fairSet ?_)
 generalize hK:dB (fairOk s weak strong l)=K
 simp+contextual(maxSteps:=1000000)(disch:=omega)only[↓Sd,↓So,↓Sk,↓den,↓denA,Sa,Sb,Sc,Se,O1.d,O2.d,O3.d,cmI,arI,envOf,putN,↓reduceIte,Nat.reduceLT,Nat.reduceSub,Nat.reduceAdd,Int.reduceAdd,Int.reduceEq,Int.reduceLT,Int.reduceLE,arr_pos,arr_neg,tr_impl_fairSet,C_impl_SetValid s l hs hl,hro weak hwl,hro strong hsl]
 rw [←hK]
 refine ⟨fun h1=>⟨fun h2=>?_,fun h2=>?_⟩,fun h1=>?_⟩
 ·rw [←dB_eq];exact dB_congr ⟨fun g=>⟨h1,h2,g⟩,fun g=>g.2.2⟩
 ·exact (dB_f fun g=>h2 g.2.1).symm
 ·exact (dB_f fun g=>h1 g.1).symm
theorem C_impl_FairCores (s:Sy) (weak strong l:List Int) (hs:FewSy s) (hwl:weak.length≤1048576) (hsl:strong.length≤1048576) (hl:l.length≤1048576) (Q:List AV→Prop) :
  mc.C f_impl_FairCores [⟨L V3,s.1⟩,⟨L TR,s.2⟩,⟨L I,weak⟩,⟨L I,strong⟩,⟨L I,l⟩] Q=Q [⟨L (L I),corsR s weak strong l⟩]:=by
 refine Mc.Ends.c (mc.ends F_impl_FairCores ?_)
 by_cases hok:fairOk s weak strong l
 ·have hv:=hok.1.1
  have hz:=szn_eq hv
  have hmk:tab (fun k=>dB ((k:Int)∈l)) (szn s.1)=tab (mks l) (szn s.1):=rfl
  have hco:corsR s weak strong l=cors s weak strong l:=by unfold corsR;rw [if_pos (dB_t hok)]
  have hC:=fun Q=>C_impl_cores s hv weak strong hok.rl.1 hok.rl.2 hwl hsl (szn s.1) (mks l) upTo_len Q
  have hCe:crs s weak strong (szn s.1+1) (mks l)=cors s weak strong l:=rfl
  have hsm:=cors_sm (weak:=weak) (strong:=strong) (l:=l) hv
  rw [hco]
  rw [hCe] at hC
  generalize cors s weak strong l=M at hC hsm
  have h1:=hsm.1
  simp+contextual(maxSteps:=1000000)(disch:=omega)only[↓Sd,↓So,↓Sk,↓den,↓denA,Sa,Sb,Sc,Se,O1.d,O2.d,O3.d,cmI,arI,envOf,putN,↓reduceIte,Nat.reduceLT,Nat.reduceSub,Nat.reduceAdd,Int.reduceAdd,Int.reduceEq,Int.reduceLT,Int.reduceLE,arr_pos,arr_neg,tr_impl_FairCores,C_impl_fairSet s weak strong l hs hwl hsl hl,dB_t hok,Bool.not_true,C_impl_fairnessOf s hv,C_impl_size s.1 hv.1.2 hv.2.2.1,C_impl_marks_i l (sz s.1) (szn s.1) hz.1.symm (by omega) hl hok.1.mem,hmk,hC,C_impl_clone_Sint M (by omega)]
 ·have hco:corsR s weak strong l=[]:=by unfold corsR;rw [if_neg (by rw [dB_f hok];simp)]
  rw [hco]
  simp+contextual(maxSteps:=1000000)(disch:=omega)only[↓Sd,↓So,↓Sk,↓den,↓denA,Sa,Sb,Sc,Se,O1.d,O2.d,O3.d,cmI,arI,envOf,putN,↓reduceIte,Nat.reduceLT,Nat.reduceSub,Nat.reduceAdd,Int.reduceAdd,Int.reduceEq,Int.reduceLT,Int.reduceLE,arr_pos,arr_neg,tr_impl_FairCores,C_impl_fairSet s weak strong l hs hwl hsl hl,dB_f hok,Bool.not_false]
theorem law_FnExactFairCores (s:Sy) (weak strong l:List Int) (hs:LtSy s) (h1:Lt63 weak) (h2:Lt63 strong) (h3:Lt63 l):mc.C f_laws_FnExactFairCores [⟨L V3,s.1⟩,⟨L TR,s.2⟩,⟨L I,weak⟩,⟨L I,strong⟩,⟨L I,l⟩] (·=[⟨B,true⟩]):=by
 refine mc.c_of F_laws_FnExactFairCores ?_
 simp+contextual(maxSteps:=1000000)(disch:=omega)only[↓Sd,↓So,↓Sk,↓den,↓denA,Sa,Sb,Sc,Se,O1.d,O2.d,O3.d,cmI,arI,envOf,putN,↓reduceIte,Nat.reduceLT,Nat.reduceSub,Nat.reduceAdd,Int.reduceAdd,Int.reduceEq,Int.reduceLT,Int.reduceLE,arr_pos,arr_neg,tr_laws_FnExactFairCores]
 intro g1 g2 g3
 refine sz_System s _ (by omega) hs fun j h4 h5=>?_
 simp+contextual(maxSteps:=1000000)(disch:=omega)only[↓Sd,↓So,↓Sk,↓den,↓denA,Sa,Sb,Sc,Se,O1.d,O2.d,O3.d,cmI,arI,envOf,putN,↓reduceIte,Nat.reduceLT,Nat.reduceSub,Nat.reduceAdd,Int.reduceAdd,Int.reduceEq,Int.reduceLT,Int.reduceLE,arr_pos,arr_neg,]
 intro g4
 have hs:=h5 (by omega)
 have hf1:Few weak:=by unfold Few;omega
 have hf2:Few strong:=by unfold Few;omega
 have hf3:Few l:=by unfold Few;omega
 have hr:=corsR_sm (s:=s) (weak:=weak) (strong:=strong) (l:=l)
 have hsp:=C_spec_FairCores s weak strong l hs hf1 hf2 hf3
 have him:=C_impl_FairCores s weak strong l hs hf1 hf2 hf3
 generalize corsR s weak strong l=K at hr hsp him
 simp+contextual(maxSteps:=1000000)(disch:=omega)only[↓Sd,↓So,↓Sk,↓den,↓denA,Sa,Sb,Sc,Se,O1.d,O2.d,O3.d,cmI,arI,envOf,putN,↓reduceIte,Nat.reduceLT,Nat.reduceSub,Nat.reduceAdd,Int.reduceAdd,Int.reduceEq,Int.reduceLT,Int.reduceLE,arr_pos,arr_neg,to_System s hs,to_IntS weak hf1,to_IntS strong hf2,to_IntS l hf3,hsp,him,eq_IntSS K hr,eq_System s hs,eq_IntS weak hf1,eq_IntS strong hf2,eq_IntS l hf3]
 refine mk_System s 1 (by omega) hs fun k' v r hk'=>?_
 have e1:weak.length≤1048576:=hf1
 have e2:strong.length≤1048576:=hf2
 have e3:l.length≤1048576:=hf3
 simp+contextual(maxSteps:=1000000)(disch:=omega)only[↓Sd,↓So,↓Sk,↓den,↓denA,Sa,Sb,Sc,Se,O1.d,O2.d,O3.d,cmI,arI,envOf,putN,↓reduceIte,Nat.reduceLT,Nat.reduceSub,Nat.reduceAdd,Int.reduceAdd,Int.reduceEq,Int.reduceLT,Int.reduceLE,arr_pos,arr_neg,mk_IntS weak k' (by omega) hf1,mk_IntS strong (k'+weak.length) (by omega) hf2,mk_IntS l (k'+weak.length+strong.length) (by omega) hf3,eq_IntSS K hr,mk_IntSS K 1 (by omega) hr,held_IntSS K 1 (by omega) hr,to_System s hs,to_IntS weak hf1,to_IntS strong hf2,to_IntS l hf3,him]
 have:=Int.natCast_nonneg (offN K K.length)
 exact fun h=>by omega
end Go.Proofs.YtknlennollmgeaaGreat
