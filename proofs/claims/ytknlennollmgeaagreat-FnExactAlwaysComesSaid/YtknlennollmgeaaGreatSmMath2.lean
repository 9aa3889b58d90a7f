/- What the trees come to: plain mathematics; no condition. -/
import Derived.Test.YtknlennollmgeaaGreatSmMath1
namespace Go.Proofs.YtknlennollmgeaaGreat
open Go Go.Sm Go.Sm.Q
set_option linter.unusedSimpArgs false
set_option linter.unusedVariables false
theorem C_spec_l23Strong (s:Sy) (hs:FewSy s) (h:valid s) (strong:List Int) (hst:rlist s strong) (hsl:strong.length≤1048576) (q:Nat→Bool) (Q:List AV→Prop) :
  mc.C f_spec_l23Strong [⟨L V3,s.1⟩,⟨L TR,s.2⟩,⟨L (L B),tab (fun k=>tab (rub s k) (szn s.1)) s.2.length⟩,⟨L I,strong⟩,⟨L I,upTo q (szn s.1)⟩] Q=Q [⟨L I,upTo (sleft s strong q) (szn s.1)⟩]:=by
 have hz:=szn_eq h
 have hql:(upTo q (szn s.1)).length≤szn s.1:=upTo_len
 refine Mc.Ends.c (mc.ends F_spec_l23Strong ?_)
 simp+contextual(maxSteps:=1000000)(disch:=omega)only[↓Sd,↓So,↓Sk,↓den,↓denA,Sa,Sb,Sc,Se,O1.d,O2.d,O3.d,cmI,arI,envOf,putN,↓reduceIte,Nat.reduceLT,Nat.reduceSub,Nat.reduceAdd,Int.reduceAdd,Int.reduceEq,Int.reduceLT,Int.reduceLE,arr_pos,arr_neg,tr_spec_l23Strong]
 refine mc.lp_for (List Int) (fun i o=>[⟨L (L B),tab (fun k=>tab (rub s k) (szn s.1)) s.2.length⟩,⟨L I,strong⟩,⟨L I,upTo q (szn s.1)⟩,⟨L I,o⟩,⟨I,(i:Int)⟩,⟨L V3,s.1⟩,⟨L TR,s.2⟩]) (fun i o=>o=upTo (sleft s (strong.take i) q) (szn s.1)) strong.length 0 (upTo q (szn s.1)) _ rfl (Nat.zero_le _) ?_ ?_ ?_
 ·refine upTo_congr fun a ha=>?_
  unfold sleft
  rw [dB_f]
  ·simp
  ·rintro ⟨k,h1,-⟩;simp at h1
 ·rintro i o hi rfl
  have hk:=hst _ (getD_mem (d:=0) hi)
  obtain ⟨k,hk2⟩:∃k:Nat,strong.getD i 0=(k:Int):=⟨_,(Int.toNat_of_nonneg hk.1).symm⟩
  rw [hk2] at hk
  have hkR:k<s.2.length:=Int.ofNat_lt.1 hk.2
  have hnext:∀a,sleft s (strong.take (i+1)) q a=(sleft s (strong.take i) q a&&!(!leadB s k q&&rub s k a)):=by
   intro a
   unfold sleft
   rw [Bool.and_assoc]
   congr 1
   by_cases h1:∃k:Nat,(k:Int)∈strong.take i∧leadB s k q=false∧rub s k a=true
   ·obtain ⟨j,j1,j2⟩:=h1
    rw [dB_t (show ∃k:Nat,(k:Int)∈strong.take i∧leadB s k q=false∧rub s k a=true from ⟨j,j1,j2⟩),dB_t (show ∃k:Nat,(k:Int)∈strong.take (i+1)∧leadB s k q=false∧rub s k a=true from ⟨j,(mem_take_next hi).2 (.inl j1),j2⟩)];rfl
   ·rw [dB_f h1]
    by_cases h2:leadB s k q=false∧rub s k a=true
    ·rw [dB_t ⟨k,(mem_take_next hi).2 (.inr hk2.symm),h2⟩];simp [h2.1,h2.2]
    ·rw [dB_f]
     ·cases hA:leadB s k q
      ·have:rub s k a=false:=by
        cases hB:rub s k a with
        | false=>rfl
        | true=>exact absurd ⟨hA,hB⟩ h2
       rw [this];rfl
      ·rfl
     ·rintro ⟨j,j1,j2⟩
      rcases (mem_take_next hi).1 j1 with j3 | j3
      ·exact h1 ⟨j,j3,j2⟩
      ·rw [hk2] at j3
       have:=Int.ofNat_inj.1 j3
       subst this;exact h2 j2
  have hol:(upTo (sleft s (strong.take i) q) (szn s.1)).length≤szn s.1:=upTo_len
  have hmem:∀j,j<(upTo (sleft s (strong.take i) q) (szn s.1)).length→∃a,a<szn s.1∧(upTo (sleft s (strong.take i) q) (szn s.1)).getD j 0=(a:Int):=fun j hj=>by
   obtain ⟨a,h1,h2,_⟩:=upTo_mem.1 (getD_mem (d:=0) hj);exact ⟨a,h1,h2⟩
  simp+contextual(maxSteps:=1000000)(disch:=omega)only[↓Sd,↓So,↓Sk,↓den,↓denA,Sa,Sb,Sc,Se,O1.d,O2.d,O3.d,cmI,arI,envOf,putN,↓reduceIte,Nat.reduceLT,Nat.reduceSub,Nat.reduceAdd,Int.reduceAdd,Int.reduceEq,Int.reduceLT,Int.reduceLE,arr_pos,arr_neg,↓wpJoin,hk2]
  refine C_spec_l23Inner s hs h q k hkR fun x hx=>?_
  by_cases hL:leadB s k q=true
  ·have h0:=hx.2 hL
   simp+contextual(maxSteps:=1000000)(disch:=omega)only[↓Sd,↓So,↓Sk,↓den,↓denA,Sa,Sb,Sc,Se,O1.d,O2.d,O3.d,cmI,arI,envOf,putN,↓reduceIte,Nat.reduceLT,Nat.reduceSub,Nat.reduceAdd,Int.reduceAdd,Int.reduceEq,Int.reduceLT,Int.reduceLE,arr_pos,arr_neg,↓wpJoin,]
   exact upTo_congr fun a _=>by rw [hnext,hL];simp
  ·have h0:¬0≤x:=fun g=>hL (hx.1 g)
   have hL':leadB s k q=false:=by simpa using hL
   simp+contextual(maxSteps:=1000000)(disch:=omega)only[↓Sd,↓So,↓Sk,↓den,↓denA,Sa,Sb,Sc,Se,O1.d,O2.d,O3.d,cmI,arI,envOf,putN,↓reduceIte,Nat.reduceLT,Nat.reduceSub,Nat.reduceAdd,Int.reduceAdd,Int.reduceEq,Int.reduceLT,Int.reduceLE,arr_pos,arr_neg,↓wpJoin,]
   have hfin:(upTo (sleft s (strong.take i) q) (szn s.1)).filter (fun x=>!rub s k x.toNat)=upTo (sleft s (strong.take (i+1)) q) (szn s.1):=by
    rw [upTo_filter (q:=fun a=>!rub s k a)]
    exact upTo_congr fun a _=>by rw [hnext,hL'];simp
   generalize upTo (sleft s (strong.take i) q) (szn s.1)=o at hol hmem hfin
   refine mc.lp_for (List Int) (fun j r=>[⟨L (L B),tab (fun k=>tab (rub s k) (szn s.1)) s.2.length⟩,⟨L I,strong⟩,⟨L I,upTo q (szn s.1)⟩,⟨L I,o⟩,⟨I,(i:Int)⟩,⟨I,(j:Int)⟩,⟨L V3,s.1⟩,⟨L TR,s.2⟩,⟨L I,r⟩]) (fun j r=>r=(o.take j).filter fun x=>!rub s k x.toNat) o.length 0 [] _ rfl (Nat.zero_le _) rfl ?_ ?_
   ·rintro j r hj rfl
    obtain ⟨a,ha,hja⟩:=hmem j hj
    have hnx:=filter_next hj (fun x=>!rub s k x.toNat)
    rw [hja] at hnx
    simp only [Int.toNat_natCast] at hnx
    have hfl:((o.take j).filter fun x=>!rub s k x.toNat).length≤szn s.1:=Nat.le_trans (List.length_filter_le ..) (by rw [List.length_take];omega)
    by_cases hu:rub s k a=true
    ·simp+contextual(maxSteps:=1000000)(disch:=omega)only[↓Sd,↓So,↓Sk,↓den,↓denA,Sa,Sb,Sc,Se,O1.d,O2.d,O3.d,cmI,arI,envOf,putN,↓reduceIte,Nat.reduceLT,Nat.reduceSub,Nat.reduceAdd,Int.reduceAdd,Int.reduceEq,Int.reduceLT,Int.reduceLE,arr_pos,arr_neg,↓wpJoin,hk2,hja,tab_len,tab_get hkR,tab_get ha,hu]
     rw [hnx];simp [hu]
    ·simp+contextual(maxSteps:=1000000)(disch:=omega)only[↓Sd,↓So,↓Sk,↓den,↓denA,Sa,Sb,Sc,Se,O1.d,O2.d,O3.d,cmI,arI,envOf,putN,↓reduceIte,Nat.reduceLT,Nat.reduceSub,Nat.reduceAdd,Int.reduceAdd,Int.reduceEq,Int.reduceLT,Int.reduceLE,arr_pos,arr_neg,↓wpJoin,hk2,hja,tab_len,tab_get hkR,tab_get ha,hu]
     rw [hnx];simp [hu]
   ·rintro r rfl
    rw [List.take_length,hfin]
    simp+contextual(maxSteps:=1000000)(disch:=omega)only[↓Sd,↓So,↓Sk,↓den,↓denA,Sa,Sb,Sc,Se,O1.d,O2.d,O3.d,cmI,arI,envOf,putN,↓reduceIte,Nat.reduceLT,Nat.reduceSub,Nat.reduceAdd,Int.reduceAdd,Int.reduceEq,Int.reduceLT,Int.reduceLE,arr_pos,arr_neg,↓wpJoin,]
 ·rintro o rfl
  rw [List.take_length]
  simp+contextual(maxSteps:=1000000)(disch:=omega)only[↓Sd,↓So,↓Sk,↓den,↓denA,Sa,Sb,Sc,Se,O1.d,O2.d,O3.d,cmI,arI,envOf,putN,↓reduceIte,Nat.reduceLT,Nat.reduceSub,Nat.reduceAdd,Int.reduceAdd,Int.reduceEq,Int.reduceLT,Int.reduceLE,arr_pos,arr_neg,]
theorem C_spec_l23Weak (s:Sy) (hs:FewSy s) (h:valid s) (weak:List Int) (hst:rlist s weak) (hsl:weak.length≤1048576) (q:Nat→Bool) (Q:List AV→Prop) :
  mc.C f_spec_l23Weak [⟨L V3,s.1⟩,⟨L TR,s.2⟩,⟨L (L B),tab (fun k=>tab (rub s k) (szn s.1)) s.2.length⟩,⟨L I,weak⟩,⟨L I,upTo q (szn s.1)⟩] Q=Q [⟨B,!wdead s weak q⟩]:=by
 have hz:=szn_eq h
 have hql:(upTo q (szn s.1)).length≤szn s.1:=upTo_len
 have hall:(∀x∈upTo q (szn s.1),∀k,rub s k x.toNat=true→True):=fun _ _ _ _=>trivial
 refine Mc.Ends.c (mc.ends F_spec_l23Weak ?_)
 simp+contextual(maxSteps:=1000000)(disch:=omega)only[↓Sd,↓So,↓Sk,↓den,↓denA,Sa,Sb,Sc,Se,O1.d,O2.d,O3.d,cmI,arI,envOf,putN,↓reduceIte,Nat.reduceLT,Nat.reduceSub,Nat.reduceAdd,Int.reduceAdd,Int.reduceEq,Int.reduceLT,Int.reduceLE,arr_pos,arr_neg,tr_spec_l23Weak]
 refine mc.lp_for Unit (fun i _=>[⟨L (L B),tab (fun k=>tab (rub s k) (szn s.1)) s.2.length⟩,⟨L I,weak⟩,⟨L I,upTo q (szn s.1)⟩,⟨I,(i:Int)⟩,⟨L V3,s.1⟩,⟨L TR,s.2⟩])
  (fun i _=>∀k:Nat,(k:Int)∈weak.take i→¬((∀a,a<szn s.1→q a=true→rub s k a=true)∧leadB s k q=false)) weak.length 0 () _ rfl (Nat.zero_le _) (fun k hk=>by simp at hk) ?_ ?_
 ·rintro i _ hi hI
  have hk:=hst _ (getD_mem (d:=0) hi)
  obtain ⟨k,hk2⟩:∃k:Nat,weak.getD i 0=(k:Int):=⟨_,(Int.toNat_of_nonneg hk.1).symm⟩
  rw [hk2] at hk
  have hkR:k<s.2.length:=Int.ofNat_lt.1 hk.2
  have hnext:¬((∀a,a<szn s.1→q a=true→rub s k a=true)∧leadB s k q=false)→∀k:Nat,(k:Int)∈weak.take (i+1)→¬((∀a,a<szn s.1→q a=true→rub s k a=true)∧leadB s k q=false):=by
   intro h1 j hj
   rcases (mem_take_next hi).1 hj with h2 | h2
   ·exact hI j h2
   ·rw [hk2] at h2
    have:=Int.ofNat_inj.1 h2
    subst this;exact h1
  have hmem:∀j,j<(upTo q (szn s.1)).length→∃a,a<szn s.1∧(upTo q (szn s.1)).getD j 0=(a:Int)∧q a=true:=fun j hj=>upTo_mem.1 (getD_mem (d:=0) hj)
  have hin:=@C_spec_l23Inner s hs h q k hkR
  have hev:(∀x∈upTo q (szn s.1),rub s k x.toNat=true)↔∀a,a<szn s.1→q a=true→rub s k a=true:=by
   constructor
   ·intro h1 a ha hqa;exact h1 (a:Int) (upTo_mem.2 ⟨a,ha,rfl,hqa⟩)
   ·intro h1 x hx
    obtain ⟨a,ha,rfl,hqa⟩:=upTo_mem.1 hx
    exact h1 a ha hqa
  generalize upTo q (szn s.1)=l at hql hmem hin hev
  simp+contextual(maxSteps:=1000000)(disch:=omega)only[↓Sd,↓So,↓Sk,↓den,↓denA,Sa,Sb,Sc,Se,O1.d,O2.d,O3.d,cmI,arI,envOf,putN,↓reduceIte,Nat.reduceLT,Nat.reduceSub,Nat.reduceAdd,Int.reduceAdd,Int.reduceEq,Int.reduceLT,Int.reduceLE,arr_pos,arr_neg,↓wpJoin,]
  refine mc.lp_for Bool (fun j b=>[⟨L (L B),tab (fun k=>tab (rub s k) (szn s.1)) s.2.length⟩,⟨L I,weak⟩,⟨L I,l⟩,⟨I,(i:Int)⟩,⟨B,b⟩,⟨I,(j:Int)⟩,⟨L V3,s.1⟩,⟨L TR,s.2⟩]) (fun j b=>b=dB (∀x∈l.take j,rub s k x.toNat=true)) l.length 0 true _ rfl (Nat.zero_le _) (by rw [dB_t];intro x hx;simp at hx) ?_ ?_
  ·rintro j b hj rfl
   obtain ⟨a,ha,hja,hqa⟩:=hmem j hj
   by_cases h1:∀x∈l.take j,rub s k x.toNat=true
   ·simp+contextual(maxSteps:=1000000)(disch:=omega)only[↓Sd,↓So,↓Sk,↓den,↓denA,Sa,Sb,Sc,Se,O1.d,O2.d,O3.d,cmI,arI,envOf,putN,↓reduceIte,Nat.reduceLT,Nat.reduceSub,Nat.reduceAdd,Int.reduceAdd,Int.reduceEq,Int.reduceLT,Int.reduceLE,arr_pos,arr_neg,↓wpJoin,dB_t h1,hk2,hja,tab_len,tab_get hkR,tab_get ha]
    by_cases h2:rub s k a=true
    ·rw [h2,dB_t]
     intro x hx
     rcases (mem_take_next hj).1 hx with h3 | h3
     ·exact h1 x h3
     ·rw [h3,hja];exact h2
    ·rw [dB_f]
     ·simpa using h2
     ·intro h3
      have:=h3 (l.getD j 0) ((mem_take_next hj).2 (.inr rfl))
      rw [hja] at this;exact h2 this
   ·simp+contextual(maxSteps:=1000000)(disch:=omega)only[↓Sd,↓So,↓Sk,↓den,↓denA,Sa,Sb,Sc,Se,O1.d,O2.d,O3.d,cmI,arI,envOf,putN,↓reduceIte,Nat.reduceLT,Nat.reduceSub,Nat.reduceAdd,Int.reduceAdd,Int.reduceEq,Int.reduceLT,Int.reduceLE,arr_pos,arr_neg,↓wpJoin,dB_f h1]
    rw [dB_f]
    exact fun h3=>h1 fun x hx=>h3 x ((mem_take_next hj).2 (.inl hx))
  ·rintro b rfl
   rw [List.take_length]
   by_cases h1:∀x∈l,rub s k x.toNat=true
   ·simp+contextual(maxSteps:=1000000)(disch:=omega)only[↓Sd,↓So,↓Sk,↓den,↓denA,Sa,Sb,Sc,Se,O1.d,O2.d,O3.d,cmI,arI,envOf,putN,↓reduceIte,Nat.reduceLT,Nat.reduceSub,Nat.reduceAdd,Int.reduceAdd,Int.reduceEq,Int.reduceLT,Int.reduceLE,arr_pos,arr_neg,↓wpJoin,dB_t h1,hk2]
    refine hin fun x hx=>?_
    by_cases hL:leadB s k q=true
    ·have h0:=hx.2 hL
     simp+contextual(maxSteps:=1000000)(disch:=omega)only[↓Sd,↓So,↓Sk,↓den,↓denA,Sa,Sb,Sc,Se,O1.d,O2.d,O3.d,cmI,arI,envOf,putN,↓reduceIte,Nat.reduceLT,Nat.reduceSub,Nat.reduceAdd,Int.reduceAdd,Int.reduceEq,Int.reduceLT,Int.reduceLE,arr_pos,arr_neg,↓wpJoin,]
     exact hnext fun g=>by rw [hL] at g;exact absurd g.2 (by simp)
    ·have h0:¬0≤x:=fun g=>hL (hx.1 g)
     have hD:wdead s weak q=true:=dB_t ⟨k,by rw [←hk2];exact getD_mem hi,hev.1 h1,by simpa using hL⟩
     simp+contextual(maxSteps:=1000000)(disch:=omega)only[↓Sd,↓So,↓Sk,↓den,↓denA,Sa,Sb,Sc,Se,O1.d,O2.d,O3.d,cmI,arI,envOf,putN,↓reduceIte,Nat.reduceLT,Nat.reduceSub,Nat.reduceAdd,Int.reduceAdd,Int.reduceEq,Int.reduceLT,Int.reduceLE,arr_pos,arr_neg,↓wpJoin,hD]
     rfl
   ·simp+contextual(maxSteps:=1000000)(disch:=omega)only[↓Sd,↓So,↓Sk,↓den,↓denA,Sa,Sb,Sc,Se,O1.d,O2.d,O3.d,cmI,arI,envOf,putN,↓reduceIte,Nat.reduceLT,Nat.reduceSub,Nat.reduceAdd,Int.reduceAdd,Int.reduceEq,Int.reduceLT,Int.reduceLE,arr_pos,arr_neg,↓wpJoin,dB_f h1]
    exact hnext fun g=>h1 (hev.2 g.1)
 ·rintro _ hI
  rw [List.take_length] at hI
  have hD:wdead s weak q=false:=dB_f fun ⟨k,h1,h2⟩=>hI k h1 h2
  simp+contextual(maxSteps:=1000000)(disch:=omega)only[↓Sd,↓So,↓Sk,↓den,↓denA,Sa,Sb,Sc,Se,O1.d,O2.d,O3.d,cmI,arI,envOf,putN,↓reduceIte,Nat.reduceLT,Nat.reduceSub,Nat.reduceAdd,Int.reduceAdd,Int.reduceEq,Int.reduceLT,Int.reduceLE,arr_pos,arr_neg,hD]
  rfl
noncomputable def cor2 (s:Sy) (weak strong:List Int) (f:(Nat→Bool)→List (List Int)) (q:Nat→Bool):List (List Int) :=
 if wdead s weak q=true then [] else if (upTo (sleft s strong q) (szn s.1)).length=(upTo q (szn s.1)).length then [upTo q (szn s.1)] else f (sleft s strong q)
noncomputable def crs (s:Sy) (weak strong:List Int):Nat→(Nat→Bool)→List (List Int)
 | 0,_=>[]
 | f+1,p=>((upTo p (szn s.1)).filter fun x=>isR s p x.toNat).flatMap fun x=>cor2 s weak strong (crs s weak strong f) (isP s p x.toNat)
theorem sleft_sub {s:Sy} {strong:List Int} {q:Nat→Bool} {a:Nat} (h:sleft s strong q a=true):q a=true:=by
 unfold sleft at h
 simp only [Bool.and_eq_true] at h
 exact h.1
theorem isP_sub {s:Sy} {p:Nat→Bool} {m a:Nat} (h:isP s p m a=true):p a=true∧cmp (insS s p) (szn s.1) a=(m:Int):=by
 unfold isP at h
 simp only [Bool.and_eq_true] at h
 exact ⟨h.1,dB_iff.1 h.2⟩
theorem isR_self {s:Sy} {p:Nat→Bool} {m:Nat} (hp:p m=true) (h:isR s p m=true):isP s p m m=true:=by
 unfold isP
 rw [hp,dB_t (dB_iff.1 h).1];rfl
theorem upTo_ne {p:Nat→Bool} {n a:Nat} (ha:a<n) (hp:p a=true):upTo p n≠[]:=fun h=>by
 have:(a:Int)∈upTo p n:=upTo_mem.2 ⟨a,ha,rfl,hp⟩
 rw [h] at this;simp at this
structure CorOf (s:Sy) (p:Nat→Bool) (L:List (List Int)):Prop where
 dj:L.Pairwise fun c d=>∀x∈c,x∉d
 sub:∀c∈L,∃q:Nat→Bool,c=upTo q (szn s.1)∧c≠[]∧∀a,q a=true→p a=true
theorem roots_pw {f:Int→Bool} {p:Nat→Bool} {n:Nat}:((upTo p n).filter f).Pairwise (fun a b=>a<b):=by
 refine List.Pairwise.filter _ ?_
 induction n with
 | zero=>exact List.Pairwise.nil
 | succ n ih =>
  rw [upTo]
  split
  ·refine List.pairwise_append.2 ⟨ih,List.pairwise_singleton _ _,fun a ha b hb=>?_⟩
   rw [List.mem_singleton.1 hb]
   have:=upTo_lt a ha
   exact this
  ·exact ih
theorem crs_of {s:Sy} {weak strong:List Int}:∀{f:Nat} {p:Nat→Bool},CorOf s p (crs s weak strong f p)
 | 0,p=>⟨List.Pairwise.nil,fun c hc=>by simp [crs] at hc⟩
 | f+1,p=>by
  have hsub:∀(m:Nat),m<szn s.1→p m=true→isR s p m=true→∀c∈cor2 s weak strong (crs s weak strong f) (isP s p m),∃q:Nat→Bool,c=upTo q (szn s.1)∧c≠[]∧∀a,q a=true→isP s p m a=true:=by
   intro m hm hp hr c hc
   unfold cor2 at hc
   split at hc
   ·simp at hc
   ·split at hc
    ·rw [List.mem_singleton.1 hc]
     exact ⟨_,rfl,upTo_ne hm (isR_self hp hr),fun a h=>h⟩
    ·obtain ⟨q,h1,h2,h3⟩:=(crs_of (f:=f)).sub c hc
     exact ⟨q,h1,h2,fun a h=>sleft_sub (h3 a h)⟩
  have hroot:∀x∈(upTo p (szn s.1)).filter (fun x=>isR s p x.toNat),∃m:Nat,x=(m:Int)∧m<szn s.1∧p m=true∧isR s p m=true:=by
   intro x hx
   obtain ⟨h1,h2⟩:=List.mem_filter.1 hx
   obtain ⟨m,h3,rfl,h4⟩:=upTo_mem.1 h1
   exact ⟨m,rfl,h3,h4,by simpa using h2⟩
  refine ⟨?_,fun c hc=>?_⟩
  ·unfold crs
   rw [List.pairwise_flatMap]
   refine ⟨fun x hx=>?_,?_⟩
   ·unfold cor2
    split
    ·exact List.Pairwise.nil
    ·split
     ·exact List.pairwise_singleton _ _
     ·exact (crs_of (f:=f)).dj
   ·refine roots_pw.imp_of_mem ?_
    intro x y hx hy hlt c hc d hd z hz hz2
    obtain ⟨m,rfl,m1,m2,m3⟩:=hroot x hx
    obtain ⟨m',rfl,m1',m2',m3'⟩:=hroot y hy
    simp only [Int.toNat_natCast] at hc hd
    obtain ⟨q,rfl,-,q2⟩:=hsub m m1 m2 m3 c hc
    obtain ⟨q',rfl,-,q2'⟩:=hsub m' m1' m2' m3' d hd
    obtain ⟨a,-,rfl,ha⟩:=upTo_mem.1 hz
    obtain ⟨a',-,he,ha'⟩:=upTo_mem.1 hz2
    have he:=Int.ofNat_inj.1 he
    subst he
    have h1:=(isP_sub (q2 _ ha)).2
    have h2:=(isP_sub (q2' _ ha')).2
    rw [h1] at h2
    omega
  ·unfold crs at hc
   obtain ⟨x,hx,hc⟩:=List.mem_flatMap.1 hc
   obtain ⟨m,rfl,m1,m2,m3⟩:=hroot x hx
   simp only [Int.toNat_natCast] at hc
   obtain ⟨q,h1,h2,h3⟩:=hsub m m1 m2 m3 c hc
   exact ⟨q,h1,h2,fun a h=>(isP_sub (h3 a h)).1⟩
theorem dj_one {n:Int}:∀{L:List (List Int)},L.Pairwise (fun c d=>∀x∈c,x∉d)→L.length≤(L.filter fun c=>!decide (n∈c)).length+1
 | [],_=>Nat.zero_le _
 | c::L,h=>by
  obtain ⟨h1,h2⟩:=List.pairwise_cons.1 h
  by_cases hc:n∈c
  ·have:L.filter (fun c=>!decide (n∈c))=L:=List.filter_eq_self.2 fun d hd=>by simpa using h1 d hd n hc
   simp [hc,this]
  ·have:=dj_one (n:=n) h2
   simp [hc];omega
theorem dj_len:∀{n:Nat} {L:List (List Int)},L.Pairwise (fun c d=>∀x∈c,x∉d)→(∀c∈L,c≠[]∧∀x∈c,0≤x∧x<(n:Int))→L.length≤n
 | 0,L,_,h=>by
  cases L with
  | nil=>exact Nat.le_refl _
  | cons c L =>
   obtain ⟨h1,h2⟩:=h c (List.mem_cons_self ..)
   cases c with
   | nil=>exact absurd rfl h1
   | cons x c=>have:=h2 x (List.mem_cons_self ..);omega
 | n+1,L,hp,h=>by
  have h1:=dj_one (n:=(n:Int)) hp
  have h2:=dj_len (n:=n) (hp.filter fun c=>!decide ((n:Int)∈c)) fun c hc=>by
   obtain ⟨g1,g2⟩:=List.mem_filter.1 hc
   obtain ⟨g3,g4⟩:=h c g1
   refine ⟨g3,fun x hx=>?_⟩
   have g5:=g4 x hx
   have:x≠(n:Int):=fun he=>by simp at g2;exact g2 (he▸hx)
   omega
  omega
theorem crs_len {s:Sy} {weak strong:List Int} {f:Nat} {p:Nat→Bool}:(crs s weak strong f p).length≤szn s.1:=by
 have h:=crs_of (s:=s) (weak:=weak) (strong:=strong) (f:=f) (p:=p)
 refine dj_len h.dj fun c hc=>?_
 obtain ⟨q,rfl,h2,_⟩:=h.sub c hc
 exact ⟨h2,fun x hx=>by obtain ⟨a,h1,rfl,_⟩:=upTo_mem.1 hx;omega⟩
theorem flat_take {α β:Type} (l:List α) (f:α→List β) (i:Nat):((l.take i).flatMap f).length≤(l.flatMap f).length:=by
 have h:l.flatMap f=(l.take i++l.drop i).flatMap f:=by rw [List.take_append_drop]
 rw [h,List.flatMap_append,List.length_append]
 omega
theorem flatm_next {β:Type} {l:List Int} {i:Nat} (h:i<l.length) (f:Int→List β):(l.take (i+1)).flatMap f=(l.take i).flatMap f++f (l.getD i 0):=by
 rw [←take_next (d:=0) h,List.flatMap_append]
 simp
theorem crs_flat {s:Sy} {weak strong:List Int} {f:Nat} {p:Nat→Bool} (i:Nat) :
  ((((upTo p (szn s.1)).filter fun x=>isR s p x.toNat).take i).flatMap fun x=>cor2 s weak strong (crs s weak strong f) (isP s p x.toNat)).length≤szn s.1 :=
 Nat.le_trans (flat_take _ _ i) (crs_len (f:=f+1))
theorem left_lt {s:Sy} {strong:List Int} {q:Nat→Bool} (h:¬(upTo (sleft s strong q) (szn s.1)).length=(upTo q (szn s.1)).length):(upTo (sleft s strong q) (szn s.1)).length<(upTo q (szn s.1)).length:=by
 have:=(upTo_mono (p:=sleft s strong q) (q:=q) (n:=szn s.1) fun k _ hk=>sleft_sub hk).1
 omega
theorem C_spec_l23Cores (s:Sy) (hs:FewSy s) (h:valid s) (weak strong:List Int) (hw:rlist s weak) (hst:rlist s strong) (hwl:weak.length≤1048576) (hsl:strong.length≤1048576) :
  ∀(f:Nat) (p:Nat→Bool),(upTo p (szn s.1)).length≤f→∀(Q:List AV→Prop),
  mc.C f_spec_l23Cores [⟨L V3,s.1⟩,⟨L TR,s.2⟩,⟨L (L I),steps s⟩,⟨L (L B),tab (fun k=>tab (rub s k) (szn s.1)) s.2.length⟩,⟨L I,weak⟩,⟨L I,strong⟩,⟨L I,upTo p (szn s.1)⟩] Q=Q [⟨L (L I),crs s weak strong (f+1) p⟩]:=by
 have hz:=szn_eq h
 intro f
 induction f with
 | zero =>
  intro p hf Q
  refine Mc.Ends.c (mc.ends F_spec_l23Cores ?_)
  have hnil:upTo p (szn s.1)=[]:=List.eq_nil_of_length_eq_zero (by omega)
  have hP:=fun Q=>C_spec_l23Parts s h p Q
  have hpr:prts s p []=[]:=rfl
  have hcr:crs s weak strong 1 p=[]:=by unfold crs;rw [hnil];rfl
  rw [hnil] at hP ⊢
  rw [hpr] at hP
  simp+contextual(maxSteps:=1000000)(disch:=omega)only[↓Sd,↓So,↓Sk,↓den,↓denA,Sa,Sb,Sc,Se,O1.d,O2.d,O3.d,cmI,arI,envOf,putN,↓reduceIte,Nat.reduceLT,Nat.reduceSub,Nat.reduceAdd,Int.reduceAdd,Int.reduceEq,Int.reduceLT,Int.reduceLE,arr_pos,arr_neg,tr_spec_l23Cores,hP]
  refine mc.lp_step ?_
  simp+contextual(maxSteps:=1000000)(disch:=omega)only[↓Sd,↓So,↓Sk,↓den,↓denA,Sa,Sb,Sc,Se,O1.d,O2.d,O3.d,cmI,arI,envOf,putN,↓reduceIte,Nat.reduceLT,Nat.reduceSub,Nat.reduceAdd,Int.reduceAdd,Int.reduceEq,Int.reduceLT,Int.reduceLE,arr_pos,arr_neg,List.length_nil,hcr]
 | succ f ih =>
  intro p hf Q
  refine Mc.Ends.c (mc.ends F_spec_l23Cores ?_)
  simp+contextual(maxSteps:=1000000)(disch:=omega)only[↓Sd,↓So,↓Sk,↓den,↓denA,Sa,Sb,Sc,Se,O1.d,O2.d,O3.d,cmI,arI,envOf,putN,↓reduceIte,Nat.reduceLT,Nat.reduceSub,Nat.reduceAdd,Int.reduceAdd,Int.reduceEq,Int.reduceLT,Int.reduceLE,arr_pos,arr_neg,tr_spec_l23Cores,C_spec_l23Parts s h p]
  have hpl:(prts s p (upTo p (szn s.1))).length=((upTo p (szn s.1)).filter fun x=>isR s p x.toNat).length:=by unfold prts;rw [List.length_map]
  have hFl:((upTo p (szn s.1)).filter fun x=>isR s p x.toNat).length≤szn s.1:=Nat.le_trans (List.length_filter_le ..) upTo_len
  have hpg:∀i,i<((upTo p (szn s.1)).filter fun x=>isR s p x.toNat).length→(prts s p (upTo p (szn s.1))).getD i []=upTo (isP s p (((upTo p (szn s.1)).filter fun x=>isR s p x.toNat).getD i 0).toNat) (szn s.1):=by
   intro i hi
   unfold prts
   rw [List.getD_eq_getElem?_getD,List.getElem?_map,List.getD_eq_getElem?_getD,List.getElem?_eq_getElem hi]
   rfl
  have hb:=fun i=>crs_flat (s:=s) (weak:=weak) (strong:=strong) (f:=f+1) (p:=p) i
  have hfin:crs s weak strong (f+1+1) p=((upTo p (szn s.1)).filter fun x=>isR s p x.toNat).flatMap fun x=>cor2 s weak strong (crs s weak strong (f+1)) (isP s p x.toNat):=rfl
  rw [hfin]
  generalize (upTo p (szn s.1)).filter (fun x=>isR s p x.toNat)=F at hpl hFl hpg hb
  generalize prts s p (upTo p (szn s.1))=PR at hpl hpg
  obtain ⟨UB,hUB⟩:∃UB,tab (fun k=>tab (rub s k) (szn s.1)) s.2.length=UB:=⟨_,rfl⟩
  have hStr:=fun q Q=>C_spec_l23Strong s hs h strong hst hsl q Q
  have hWk:=fun q Q=>C_spec_l23Weak s hs h weak hw hwl q Q
  rw [hUB] at hStr hWk ih ⊢
  refine mc.lp_for (List (List Int)) (fun i o=>[⟨L (L I),steps s⟩,⟨L (L B),UB⟩,⟨L I,weak⟩,⟨L I,strong⟩,⟨L (L I),PR⟩,⟨I,(i:Int)⟩,⟨L V3,s.1⟩,⟨L TR,s.2⟩,⟨L (L I),o⟩])
   (fun i o=>o=(F.take i).flatMap fun x=>cor2 s weak strong (crs s weak strong (f+1)) (isP s p x.toNat)) F.length 0 [] _ rfl (Nat.zero_le _) rfl ?_ ?_
  ·rintro i o hi rfl
   have hg:=hpg i hi
   have hnx:=flatm_next hi fun x=>cor2 s weak strong (crs s weak strong (f+1)) (isP s p x.toNat)
   have hb1:=hb i
   have hb2:=hb (i+1)
   have hql:(upTo (isP s p (F.getD i 0).toNat) (szn s.1)).length≤f+1:=Nat.le_trans (upTo_mono fun k _ hk=>(isP_sub hk).1).1 hf
   rw [hnx] at hb2
   rw [List.length_append] at hb2
   generalize (F.getD i 0).toNat=m at hg hnx hb2 hql
   generalize isP s p m=q at hg hnx hb2 hql
   generalize hO:((F.take i).flatMap fun x=>cor2 s weak strong (crs s weak strong (f+1)) (isP s p x.toNat))=O at hnx hb1 hb2
   by_cases hd:wdead s weak q=true
   ·have hc2:cor2 s weak strong (crs s weak strong (f+1)) q=[]:=if_pos hd
    rw [hc2,List.append_nil] at hnx
    by_cases he:(upTo (sleft s strong q) (szn s.1)).length=(upTo q (szn s.1)).length
    ·simp+contextual(maxSteps:=1000000)(disch:=omega)only[↓Sd,↓So,↓Sk,↓den,↓denA,Sa,Sb,Sc,Se,O1.d,O2.d,O3.d,cmI,arI,envOf,putN,↓reduceIte,Nat.reduceLT,Nat.reduceSub,Nat.reduceAdd,Int.reduceAdd,Int.reduceEq,Int.reduceLT,Int.reduceLE,arr_pos,arr_neg,↓wpJoin,hpl,hg,hStr,he,hWk,hd,Bool.not_true]
     exact hnx.symm
    ·simp+contextual(maxSteps:=1000000)(disch:=omega)only[↓Sd,↓So,↓Sk,↓den,↓denA,Sa,Sb,Sc,Se,O1.d,O2.d,O3.d,cmI,arI,envOf,putN,↓reduceIte,Nat.reduceLT,Nat.reduceSub,Nat.reduceAdd,Int.reduceAdd,Int.reduceEq,Int.reduceLT,Int.reduceLE,arr_pos,arr_neg,↓wpJoin,hpl,hg,hStr,he,hWk,hd,Bool.not_true]
     exact hnx.symm
   ·have hd':wdead s weak q=false:=by simpa using hd
    by_cases he:(upTo (sleft s strong q) (szn s.1)).length=(upTo q (szn s.1)).length
    ·have hc2:cor2 s weak strong (crs s weak strong (f+1)) q=[upTo q (szn s.1)]:=by unfold cor2;rw [if_neg hd,if_pos he]
     rw [hc2] at hnx hb2
     simp only [List.length_singleton] at hb2
     simp+contextual(maxSteps:=1000000)(disch:=omega)only[↓Sd,↓So,↓Sk,↓den,↓denA,Sa,Sb,Sc,Se,O1.d,O2.d,O3.d,cmI,arI,envOf,putN,↓reduceIte,Nat.reduceLT,Nat.reduceSub,Nat.reduceAdd,Int.reduceAdd,Int.reduceEq,Int.reduceLT,Int.reduceLE,arr_pos,arr_neg,↓wpJoin,hpl,hg,hStr,he,hWk,hd',Bool.not_false]
     exact hnx.symm
    ·have hc2:cor2 s weak strong (crs s weak strong (f+1)) q=crs s weak strong (f+1) (sleft s strong q):=by unfold cor2;rw [if_neg hd,if_neg he]
     rw [hc2] at hnx hb2
     have hlt:=left_lt he
     have hih:=fun Q=>ih (sleft s strong q) (by omega) Q
     generalize crs s weak strong (f+1) (sleft s strong q)=M at hnx hb2 hih
     simp+contextual(maxSteps:=1000000)(disch:=omega)only[↓Sd,↓So,↓Sk,↓den,↓denA,Sa,Sb,Sc,Se,O1.d,O2.d,O3.d,cmI,arI,envOf,putN,↓reduceIte,Nat.reduceLT,Nat.reduceSub,Nat.reduceAdd,Int.reduceAdd,Int.reduceEq,Int.reduceLT,Int.reduceLE,arr_pos,arr_neg,↓wpJoin,hpl,hg,hStr,he,hWk,hd',Bool.not_false,hih]
     refine mc.lp_for (List (List Int)) (fun j o=>[⟨L (L I),steps s⟩,⟨L (L B),UB⟩,⟨L I,weak⟩,⟨L I,strong⟩,⟨L (L I),PR⟩,⟨I,(i:Int)⟩,⟨I,(j:Int)⟩,⟨L V3,s.1⟩,⟨L TR,s.2⟩,⟨L (L I),o⟩,⟨L (L I),M⟩])
      (fun j o=>o=O++M.take j) M.length 0 O _ rfl (Nat.zero_le _) (by simp) ?_ ?_
     ·rintro j o hj rfl
      have hol:O.length+(M.take j).length≤szn s.1:=by rw [List.length_take];omega
      simp+contextual(maxSteps:=1000000)(disch:=omega)only[↓Sd,↓So,↓Sk,↓den,↓denA,Sa,Sb,Sc,Se,O1.d,O2.d,O3.d,cmI,arI,envOf,putN,↓reduceIte,Nat.reduceLT,Nat.reduceSub,Nat.reduceAdd,Int.reduceAdd,Int.reduceEq,Int.reduceLT,Int.reduceLE,arr_pos,arr_neg,]
      rw [List.append_assoc,take_next hj]
     ·rintro o rfl
      rw [List.take_length]
      simp+contextual(maxSteps:=1000000)(disch:=omega)only[↓Sd,↓So,↓Sk,↓den,↓denA,Sa,Sb,Sc,Se,O1.d,O2.d,O3.d,cmI,arI,envOf,putN,↓reduceIte,Nat.reduceLT,Nat.reduceSub,Nat.reduceAdd,Int.reduceAdd,Int.reduceEq,Int.reduceLT,Int.reduceLE,arr_pos,arr_neg,↓wpJoin,]
      exact hnx.symm
  ·rintro o rfl
   rw [List.take_length]
   simp+contextual(maxSteps:=1000000)(disch:=omega)only[↓Sd,↓So,↓Sk,↓den,↓denA,Sa,Sb,Sc,Se,O1.d,O2.d,O3.d,cmI,arI,envOf,putN,↓reduceIte,Nat.reduceLT,Nat.reduceSub,Nat.reduceAdd,Int.reduceAdd,Int.reduceEq,Int.reduceLT,Int.reduceLE,arr_pos,arr_neg,hpl]
theorem upTo_pre {p:Nat→Bool} {a:Nat}:∀{b:Nat},a≤b→∃r,upTo p b=upTo p a++r
 | 0,h=>⟨[],by rw [Nat.le_zero.1 h];simp⟩
 | b+1,h=>by
  by_cases he:a=b+1
  ·exact ⟨[],by rw [he];simp⟩
  ·obtain ⟨r,hr⟩:=upTo_pre (p:=p) (a:=a) (b:=b) (by omega)
   rw [upTo]
   split
   ·exact ⟨r++[(b:Int)],by rw [hr,List.append_assoc]⟩
   ·exact ⟨r,hr⟩
theorem flat_pre {p:Nat→Bool} {g:Int→Bool} {β:Type} {f:Int→List β} {a b:Nat} (h:a≤b):(((upTo p a).filter g).flatMap f).length≤(((upTo p b).filter g).flatMap f).length:=by
 obtain ⟨r,hr⟩:=upTo_pre (p:=p) h
 rw [hr,List.filter_append,List.flatMap_append,List.length_append]
 omega
theorem sleft_next {s:Sy} {strong:List Int} {q:Nat→Bool} {i k:Nat} (hi:i<strong.length) (hk:strong.getD i 0=(k:Int)) (a:Nat) :
  sleft s (strong.take (i+1)) q a=(sleft s (strong.take i) q a&&!(!leadB s k q&&rub s k a)):=by
 unfold sleft
 rw [Bool.and_assoc]
 congr 1
 by_cases h1:∃k:Nat,(k:Int)∈strong.take i∧leadB s k q=false∧rub s k a=true
 ·obtain ⟨j,j1,j2⟩:=h1
  rw [dB_t (show ∃k:Nat,(k:Int)∈strong.take i∧leadB s k q=false∧rub s k a=true from ⟨j,j1,j2⟩),dB_t (show ∃k:Nat,(k:Int)∈strong.take (i+1)∧leadB s k q=false∧rub s k a=true from ⟨j,(mem_take_next hi).2 (.inl j1),j2⟩)];rfl
 ·rw [dB_f h1]
  by_cases h2:leadB s k q=false∧rub s k a=true
  ·rw [dB_t ⟨k,(mem_take_next hi).2 (.inr hk.symm),h2⟩];simp [h2.1,h2.2]
  ·rw [dB_f]
   ·cases hA:leadB s k q
    ·have:rub s k a=false:=by
      cases hB:rub s k a with
      | false=>rfl
      | true=>exact absurd ⟨hA,hB⟩ h2
     rw [this];rfl
    ·rfl
   ·rintro ⟨j,j1,j2⟩
    rcases (mem_take_next hi).1 j1 with j3 | j3
    ·exact h1 ⟨j,j3,j2⟩
    ·rw [hk] at j3
     have:=Int.ofNat_inj.1 j3
     subst this;exact h2 j2
noncomputable def chgd (s:Sy) (strong:List Int) (q:Nat→Bool):Bool:=dB (∃a,a<szn s.1∧q a=true∧¬sleft s strong q a=true)
theorem chgd_iff {s:Sy} {strong:List Int} {q:Nat→Bool}:chgd s strong q=true↔¬(upTo (sleft s strong q) (szn s.1)).length=(upTo q (szn s.1)).length:=by
 have hm:=upTo_mono (p:=sleft s strong q) (q:=q) (n:=szn s.1) fun k _ hk=>sleft_sub hk
 constructor
 ·intro h he
  obtain ⟨a,h1,h2,h3⟩:=dB_iff.1 h
  exact h3 (hm.2 (by omega) a h1 h2)
 ·intro h
  refine dB_t ?_
  obtain ⟨a,h1,h2,h3⟩:=upTo_more (left_lt h)
  exact ⟨a,h1,h2,h3⟩
theorem C_slices_Clone_bool (l:List Bool) (h:l≠[]) (hl:l.length≤1048576) (Q:List AV→Prop):mc.C f_slices_Clone_Sbool_bool [⟨L B,l⟩] Q=Q [⟨L B,l⟩]:=by
 refine Mc.Ends.c (mc.ends F_slices_Clone_Sbool_bool ?_)
 have h1:l.isEmpty=false:=by cases l with | nil=>exact absurd rfl h | cons=>rfl
 simp+contextual(maxSteps:=1000000)(disch:=omega)only[↓Sd,↓So,↓Sk,↓den,↓denA,Sa,Sb,Sc,Se,O1.d,O2.d,O3.d,cmI,arI,envOf,putN,↓reduceIte,Nat.reduceLT,Nat.reduceSub,Nat.reduceAdd,Int.reduceAdd,Int.reduceEq,Int.reduceLT,Int.reduceLE,arr_pos,arr_neg,tr_slices_Clone_Sbool_bool,h1,List.length_nil,List.nil_append,Bool.not_false]
theorem C_impl_cores (s:Sy) (h:valid s) (weak strong:List Int) (hw:rlist s weak) (hst:rlist s strong) (hwl:weak.length≤1048576) (hsl:strong.length≤1048576) :
  ∀(f:Nat) (p:Nat→Bool),(upTo p (szn s.1)).length≤f→∀(Q:List AV→Prop),
  mc.C f_impl_fairness_cores [⟨FBox,fbx s weak strong⟩,⟨L B,tab p (szn s.1)⟩] Q=Q [⟨L (L I),crs s weak strong (f+1) p⟩,⟨FBox,fbx s weak strong⟩]:=by
 have hz:=szn_eq h
 have ht:=steps_tb8 h
 have hTl:=ht.1.1
 have hg:∀k,k<s.2.length→(toT s).getD k []=tab (rtg s k) (szn s.1):=fun k hk=>tab_get hk
 have hl:(toT s).length=s.2.length:=tab_len
 have hLd:=fun k hk q Q=>C_impl_leads s h weak strong k hk q Q
 intro f
 induction f using Nat.strongRecOn with
 | ind f ih =>
  intro p hf Q
  have hTj:=fun Q=>C_impl_tarjan (steps s) p (szn s.1) ht Q
  refine Mc.Ends.c (mc.ends F_impl_fairness_cores ?_)
  simp+contextual(maxSteps:=1000000)(disch:=omega)only[↓Sd,↓So,↓Sk,↓den,↓denA,Sa,Sb,Sc,Se,O1.d,O2.d,O3.d,cmI,arI,envOf,putN,↓reduceIte,Nat.reduceLT,Nat.reduceSub,Nat.reduceAdd,Int.reduceAdd,Int.reduceEq,Int.reduceLT,Int.reduceLE,arr_pos,arr_neg,tr_impl_fairness_cores,hTj,hTl]
  obtain ⟨PT,hPT⟩:∃PT:Nat→Int,(fun k=>if p k=true then cmp (insT (steps s) p (szn s.1)) (szn s.1) k else -1)=PT:=⟨_,rfl⟩
  have hPTe:∀m a:Nat,decide (PT a=(m:Int))=isP s p m a:=by
   intro m a
   rw [←hPT]
   unfold isP insS
   by_cases hp:p a=true
   ·simp only [hp,if_true,Bool.true_and]
    exact dB_eq.symm
   ·have:p a=false:=by simpa using hp
    simp only [this,Bool.false_and,Bool.false_eq_true,if_false,decide_eq_false_iff_not]
    omega
  rw [hPT]
  have hfin:crs s weak strong (f+1) p=((upTo p (szn s.1)).filter fun x=>isR s p x.toNat).flatMap fun x=>cor2 s weak strong (crs s weak strong f) (isP s p x.toNat):=rfl
  have hbd:∀m,m≤szn s.1→(((upTo p m).filter fun x=>isR s p x.toNat).flatMap fun x=>cor2 s weak strong (crs s weak strong f) (isP s p x.toNat)).length≤szn s.1:=fun m hm=>Nat.le_trans (flat_pre hm) (crs_len (f:=f+1))
  rw [hfin]
  refine mc.lp_for (List (List Int)) (fun m o=>[⟨I,(szn s.1:Int)⟩,⟨I,(m:Int)⟩,⟨L V3,s.1⟩,⟨L TR,s.2⟩,⟨L (L I),steps s⟩,⟨L I,weak⟩,⟨L I,strong⟩,⟨L (L I),toT s⟩,⟨L (L I),o⟩,⟨L I,tab PT (szn s.1)⟩])
   (fun m o=>o=((upTo p m).filter fun x=>isR s p x.toNat).flatMap fun x=>cor2 s weak strong (crs s weak strong f) (isP s p x.toNat)) (szn s.1) 0 [] _ rfl (Nat.zero_le _) rfl ?_ ?_
  ·rintro m o hm rfl
   have hb1:=hbd m (by omega)
   have hb2:=hbd (m+1) (by omega)
   have hnx:((upTo p (m+1)).filter fun x=>isR s p x.toNat).flatMap (fun x=>cor2 s weak strong (crs s weak strong f) (isP s p x.toNat))=((upTo p m).filter fun x=>isR s p x.toNat).flatMap (fun x=>cor2 s weak strong (crs s weak strong f) (isP s p x.toNat))++if p m=true∧isR s p m=true then cor2 s weak strong (crs s weak strong f) (isP s p m) else []:=by
    by_cases hp:p m=true
    ·rw [upTo_s hp,List.filter_append,List.flatMap_append]
     congr 1
     by_cases hr:isR s p m=true
     ·simp [hr,hp]
     ·simp [hr]
    ·rw [upTo_n hp];simp [hp]
   generalize hO:((upTo p m).filter fun x=>isR s p x.toNat).flatMap (fun x=>cor2 s weak strong (crs s weak strong f) (isP s p x.toNat))=O at hb1 hnx ⊢
   rw [hnx,List.length_append] at hb2
   have hPm:(PT m=(m:Int))↔isP s p m m=true:=by rw [←hPTe];simp
   simp+contextual(maxSteps:=1000000)(disch:=omega)only[↓Sd,↓So,↓Sk,↓den,↓denA,Sa,Sb,Sc,Se,O1.d,O2.d,O3.d,cmI,arI,envOf,putN,↓reduceIte,Nat.reduceLT,Nat.reduceSub,Nat.reduceAdd,Int.reduceAdd,Int.reduceEq,Int.reduceLT,Int.reduceLE,arr_pos,arr_neg,]
   refine mc.wp_join (fun us=>us=[⟨I,(szn s.1:Int)⟩,⟨I,(m:Int)⟩,⟨L V3,s.1⟩,⟨L TR,s.2⟩,⟨L (L I),steps s⟩,⟨L I,weak⟩,⟨L I,strong⟩,⟨L (L I),toT s⟩,⟨L (L I),((upTo p (m+1)).filter fun x=>isR s p x.toNat).flatMap (fun x=>cor2 s weak strong (crs s weak strong f) (isP s p x.toNat))⟩,⟨L I,tab PT (szn s.1)⟩]) ?_ ?_
   by_cases hpm:PT m=(m:Int)
   ·have hq:=hPm.1 hpm
    have hpp:=isP_sub hq
    have hTm:((steps s).getD m []).length≤8:=ht.2.2 _ (getD_mem (by omega))
    have hql:(upTo (isP s p m) (szn s.1)).length≤(upTo p (szn s.1)).length:=(upTo_mono fun k _ hk=>(isP_sub hk).1).1
    have hqp:1≤(upTo (isP s p m) (szn s.1)).length:=List.length_pos_iff.2 (upTo_ne hm hq)
    have hRm:isR s p m=dB (1<(upTo (isP s p m) (szn s.1)).length∨(m:Int)∈(steps s).getD m []∨(steps s).getD m []=[]):=by
     unfold isR
     exact dB_congr ⟨fun g=>g.2,fun g=>⟨hpp.2,g⟩⟩
    simp+contextual(maxSteps:=1000000)(disch:=omega)only[↓Sd,↓So,↓Sk,↓den,↓denA,Sa,Sb,Sc,Se,O1.d,O2.d,O3.d,cmI,arI,envOf,putN,↓reduceIte,Nat.reduceLT,Nat.reduceSub,Nat.reduceAdd,Int.reduceAdd,Int.reduceEq,Int.reduceLT,Int.reduceLE,arr_pos,arr_neg,tab_len,tab_get hm,hpm,hTl,List.length_replicate]
    refine mc.lp_for (List Bool) (fun j o=>[⟨I,(m:Int)⟩,⟨I,(szn s.1:Int)⟩,⟨I,(m:Int)⟩,⟨I,(szn s.1:Int)⟩,⟨I,(j:Int)⟩,⟨L V3,s.1⟩,⟨L TR,s.2⟩,⟨L (L I),steps s⟩,⟨L I,weak⟩,⟨L I,strong⟩,⟨L (L I),toT s⟩,⟨L (L I),O⟩,⟨L I,tab PT (szn s.1)⟩,⟨L B,o⟩])
     (fun j o=>o=tab (isP s p m) j++List.replicate (szn s.1 - j) false) (szn s.1) 0 (List.replicate (szn s.1) false) _ rfl (Nat.zero_le _) (by simp [tab]) ?_ ?_
    ·rintro j o hj rfl
     have hlen:(tab (isP s p m) j++List.replicate (szn s.1 - j) false).length=szn s.1:=by simp [tab_len];omega
     simp+contextual(maxSteps:=1000000)(disch:=omega)only[↓Sd,↓So,↓Sk,↓den,↓denA,Sa,Sb,Sc,Se,O1.d,O2.d,O3.d,cmI,arI,envOf,putN,↓reduceIte,Nat.reduceLT,Nat.reduceSub,Nat.reduceAdd,Int.reduceAdd,Int.reduceEq,Int.reduceLT,Int.reduceLE,arr_pos,arr_neg,hlen,tab_len,tab_get hj]
     exact tab_set hj (hPTe m j)
    ·rintro o rfl
     rw [Nat.sub_self,List.replicate_zero,List.append_nil]
     generalize hqq:isP s p m=q at *
     simp+contextual(maxSteps:=1000000)(disch:=omega)only[↓Sd,↓So,↓Sk,↓den,↓denA,Sa,Sb,Sc,Se,O1.d,O2.d,O3.d,cmI,arI,envOf,putN,↓reduceIte,Nat.reduceLT,Nat.reduceSub,Nat.reduceAdd,Int.reduceAdd,Int.reduceEq,Int.reduceLT,Int.reduceLE,arr_pos,arr_neg,C_impl_listOf_tab q (szn s.1) (by omega)]
     have hall:∀j,j<(upTo q (szn s.1)).length→∃a,a<szn s.1∧(upTo q (szn s.1)).getD j 0=(a:Int)∧q a=true:=fun j hj=>upTo_mem.1 (getD_mem (d:=0) hj)
     have hall2:∀a,a<szn s.1→q a=true→(a:Int)∈upTo q (szn s.1):=fun a ha hqa=>upTo_mem.2 ⟨a,ha,rfl,hqa⟩
     have hal:(upTo q (szn s.1)).length≤szn s.1:=upTo_len
     obtain ⟨A,hA⟩:∃A,upTo q (szn s.1)=A:=⟨_,rfl⟩
     refine mc.wp_join (fun us=>us=[⟨I,(szn s.1:Int)⟩,⟨I,(m:Int)⟩,⟨L V3,s.1⟩,⟨L TR,s.2⟩,⟨L (L I),steps s⟩,⟨L I,weak⟩,⟨L I,strong⟩,⟨L (L I),toT s⟩,⟨L (L I),O⟩,⟨L I,tab PT (szn s.1)⟩,⟨L B,tab q (szn s.1)⟩,⟨L I,A⟩]∧isR s p m=true) ?_ ?_
     ·by_cases h1:(upTo q (szn s.1)).length=1
      ·by_cases h2:(steps s).getD m []=[]
       ·have hr1:isR s p m=true:=by rw [hRm];exact dB_t (.inr (.inr h2))
        simp+contextual(maxSteps:=1000000)(disch:=omega)only[↓Sd,↓So,↓Sk,↓den,↓denA,Sa,Sb,Sc,Se,O1.d,O2.d,O3.d,cmI,arI,envOf,putN,↓reduceIte,Nat.reduceLT,Nat.reduceSub,Nat.reduceAdd,Int.reduceAdd,Int.reduceEq,Int.reduceLT,Int.reduceLE,arr_pos,arr_neg,h1,hTl,h2,List.length_nil]
        exact ⟨hA,hr1⟩
       ·have h2':=List.length_pos_iff.2 h2
        by_cases h3:(m:Int)∈(steps s).getD m []
        ·have hr1:isR s p m=true:=by rw [hRm];exact dB_t (.inr (.inl h3))
         simp+contextual(maxSteps:=1000000)(disch:=omega)only[↓Sd,↓So,↓Sk,↓den,↓denA,Sa,Sb,Sc,Se,O1.d,O2.d,O3.d,cmI,arI,envOf,putN,↓reduceIte,Nat.reduceLT,Nat.reduceSub,Nat.reduceAdd,Int.reduceAdd,Int.reduceEq,Int.reduceLT,Int.reduceLE,arr_pos,arr_neg,h1,hTl,C_slices_Contains_int _ _ (show ((steps s).getD m []).length≤1048576 by omega),dB_t h3,Bool.not_true]
         exact ⟨hA,hr1⟩
        ·have hr1:¬isR s p m=true:=by
          rw [hRm,dB_f]
          ·simp
          ·rintro (g | g | g)
           ·omega
           ·exact h3 g
           ·exact h2 g
         rw [if_neg fun g=>hr1 g.2,List.append_nil] at hnx
         simp+contextual(maxSteps:=1000000)(disch:=omega)only[↓Sd,↓So,↓Sk,↓den,↓denA,Sa,Sb,Sc,Se,O1.d,O2.d,O3.d,cmI,arI,envOf,putN,↓reduceIte,Nat.reduceLT,Nat.reduceSub,Nat.reduceAdd,Int.reduceAdd,Int.reduceEq,Int.reduceLT,Int.reduceLE,arr_pos,arr_neg,h1,hTl,C_slices_Contains_int _ _ (show ((steps s).getD m []).length≤1048576 by omega),dB_f h3,Bool.not_false]
         exact hnx.symm
      ·have hr1:isR s p m=true:=by rw [hRm];exact dB_t (.inl (by omega))
       simp+contextual(maxSteps:=1000000)(disch:=omega)only[↓Sd,↓So,↓Sk,↓den,↓denA,Sa,Sb,Sc,Se,O1.d,O2.d,O3.d,cmI,arI,envOf,putN,↓reduceIte,Nat.reduceLT,Nat.reduceSub,Nat.reduceAdd,Int.reduceAdd,Int.reduceEq,Int.reduceLT,Int.reduceLE,arr_pos,arr_neg,h1]
       exact ⟨hA,hr1⟩
     ·rintro us ⟨rfl,hr1⟩
      rw [if_pos ⟨hpp.1,hr1⟩] at hnx hb2
      rw [hA] at hall hall2 hal
      refine mc.wp_join (fun us=>us=[⟨B,wdead s weak q⟩,⟨I,(szn s.1:Int)⟩,⟨I,(m:Int)⟩,⟨L V3,s.1⟩,⟨L TR,s.2⟩,⟨L (L I),steps s⟩,⟨L I,weak⟩,⟨L I,strong⟩,⟨L (L I),toT s⟩,⟨L (L I),O⟩,⟨L I,tab PT (szn s.1)⟩,⟨L B,tab q (szn s.1)⟩,⟨L I,A⟩]) ?_ ?_
      ·simp+contextual(maxSteps:=1000000)(disch:=omega)only[↓Sd,↓So,↓Sk,↓den,↓denA,Sa,Sb,Sc,Se,O1.d,O2.d,O3.d,cmI,arI,envOf,putN,↓reduceIte,Nat.reduceLT,Nat.reduceSub,Nat.reduceAdd,Int.reduceAdd,Int.reduceEq,Int.reduceLT,Int.reduceLE,arr_pos,arr_neg,]
       refine mc.lp_for Unit (fun i _=>[⟨L I,weak⟩,⟨I,(weak.length:Int)⟩,⟨I,(i:Int)⟩,⟨I,(szn s.1:Int)⟩,⟨I,(m:Int)⟩,⟨L V3,s.1⟩,⟨L TR,s.2⟩,⟨L (L I),steps s⟩,⟨L I,weak⟩,⟨L I,strong⟩,⟨L (L I),toT s⟩,⟨L B,tab q (szn s.1)⟩,⟨L I,A⟩,⟨L (L I),O⟩,⟨L I,tab PT (szn s.1)⟩])
        (fun i _=>∀k:Nat,(k:Int)∈weak.take i→¬((∀a,a<szn s.1→q a=true→rub s k a=true)∧leadB s k q=false)) weak.length 0 () _ rfl (Nat.zero_le _) (fun k hk=>by simp at hk) ?_ ?_
       ·rintro i _ hi hI
        have hk:=hw _ (getD_mem (d:=0) hi)
        obtain ⟨k,hk2⟩:∃k:Nat,weak.getD i 0=(k:Int):=⟨_,(Int.toNat_of_nonneg hk.1).symm⟩
        rw [hk2] at hk
        have hkR:k<s.2.length:=Int.ofNat_lt.1 hk.2
        have hnext:¬((∀a,a<szn s.1→q a=true→rub s k a=true)∧leadB s k q=false)→∀k:Nat,(k:Int)∈weak.take (i+1)→¬((∀a,a<szn s.1→q a=true→rub s k a=true)∧leadB s k q=false):=by
         intro h1 j hj
         rcases (mem_take_next hi).1 hj with h2 | h2
         ·exact hI j h2
         ·rw [hk2] at h2
          have:=Int.ofNat_inj.1 h2
          subst this;exact h1
        by_cases hL:leadB s k q=true
        ·simp+contextual(maxSteps:=1000000)(disch:=omega)only[↓Sd,↓So,↓Sk,↓den,↓denA,Sa,Sb,Sc,Se,O1.d,O2.d,O3.d,cmI,arI,envOf,putN,↓reduceIte,Nat.reduceLT,Nat.reduceSub,Nat.reduceAdd,Int.reduceAdd,Int.reduceEq,Int.reduceLT,Int.reduceLE,arr_pos,arr_neg,↓wpJoin,hk2,hLd k hkR,hL,Bool.not_true]
         exact hnext fun g=>by rw [hL] at g;exact absurd g.2 (by simp)
        ·have hL':leadB s k q=false:=by simpa using hL
         simp+contextual(maxSteps:=1000000)(disch:=omega)only[↓Sd,↓So,↓Sk,↓den,↓denA,Sa,Sb,Sc,Se,O1.d,O2.d,O3.d,cmI,arI,envOf,putN,↓reduceIte,Nat.reduceLT,Nat.reduceSub,Nat.reduceAdd,Int.reduceAdd,Int.reduceEq,Int.reduceLT,Int.reduceLE,arr_pos,arr_neg,↓wpJoin,hk2,hLd k hkR,hL',Bool.not_false]
         refine mc.lp_for Unit (fun j _=>[⟨I,(A.length:Int)⟩,⟨I,(j:Int)⟩,⟨L I,weak⟩,⟨I,(i:Int)⟩,⟨I,(weak.length:Int)⟩,⟨I,(i:Int)⟩,⟨I,(szn s.1:Int)⟩,⟨I,(m:Int)⟩,⟨L V3,s.1⟩,⟨L TR,s.2⟩,⟨L (L I),steps s⟩,⟨L I,weak⟩,⟨L I,strong⟩,⟨L (L I),toT s⟩,⟨L I,A⟩,⟨I,(k:Int)⟩,⟨L B,tab q (szn s.1)⟩,⟨L (L I),O⟩,⟨L I,tab PT (szn s.1)⟩])
          (fun j _=>∀x∈A.take j,rub s k x.toNat=true) A.length 0 () _ rfl (Nat.zero_le _) (fun x hx=>by simp at hx) ?_ ?_
         ·rintro j _ hj hJ
          obtain ⟨a,ha,hja,hqa⟩:=hall j hj
          by_cases hu:rub s k a=true
          ·have hr:=(rtg_nn h).2 hu
           simp+contextual(maxSteps:=1000000)(disch:=omega)only[↓Sd,↓So,↓Sk,↓den,↓denA,Sa,Sb,Sc,Se,O1.d,O2.d,O3.d,cmI,arI,envOf,putN,↓reduceIte,Nat.reduceLT,Nat.reduceSub,Nat.reduceAdd,Int.reduceAdd,Int.reduceEq,Int.reduceLT,Int.reduceLE,arr_pos,arr_neg,↓wpJoin,hja,hl,hg k hkR,tab_len,tab_get ha]
           intro x hx
           rcases (mem_take_next hj).1 hx with h2 | h2
           ·exact hJ x h2
           ·rw [h2,hja];exact hu
          ·have hr:=rtg_no h hu
           simp+contextual(maxSteps:=1000000)(disch:=omega)only[↓Sd,↓So,↓Sk,↓den,↓denA,Sa,Sb,Sc,Se,O1.d,O2.d,O3.d,cmI,arI,envOf,putN,↓reduceIte,Nat.reduceLT,Nat.reduceSub,Nat.reduceAdd,Int.reduceAdd,Int.reduceEq,Int.reduceLT,Int.reduceLE,arr_pos,arr_neg,↓wpJoin,hja,hl,hg k hkR,tab_len,tab_get ha,hr,Bool.not_true,decide_eq_true (show (j:Int)≥0 by omega)]
           exact hnext fun g=>hu (g.1 a ha hqa)
         ·rintro _ hJ
          rw [List.take_length] at hJ
          have hD:wdead s weak q=true:=dB_t ⟨k,by rw [←hk2];exact getD_mem hi,fun a ha hqa=>hJ (a:Int) (hall2 a ha hqa),hL'⟩
          simp+contextual(maxSteps:=1000000)(disch:=omega)only[↓Sd,↓So,↓Sk,↓den,↓denA,Sa,Sb,Sc,Se,O1.d,O2.d,O3.d,cmI,arI,envOf,putN,↓reduceIte,Nat.reduceLT,Nat.reduceSub,Nat.reduceAdd,Int.reduceAdd,Int.reduceEq,Int.reduceLT,Int.reduceLE,arr_pos,arr_neg,↓wpJoin,hD,decide_eq_false (show ¬(-1:Int)≥0 by omega),Bool.not_false,decide_eq_true (show (i:Int)≥0 by omega)]
          exact fun hx=>absurd (decide_eq_false (by omega)) hx
       ·rintro _ hI
        rw [List.take_length] at hI
        have hD:wdead s weak q=false:=dB_f fun ⟨k,h1,h2⟩=>hI k h1 h2
        simp+contextual(maxSteps:=1000000)(disch:=omega)only[↓Sd,↓So,↓Sk,↓den,↓denA,Sa,Sb,Sc,Se,O1.d,O2.d,O3.d,cmI,arI,envOf,putN,↓reduceIte,Nat.reduceLT,Nat.reduceSub,Nat.reduceAdd,Int.reduceAdd,Int.reduceEq,Int.reduceLT,Int.reduceLE,arr_pos,arr_neg,hD]
        exact decide_eq_false (by omega)
      ·rintro us rfl
       by_cases hD:wdead s weak q=true
       ·have hc2:cor2 s weak strong (crs s weak strong f) q=[]:=if_pos hD
        rw [hc2,List.append_nil] at hnx
        simp+contextual(maxSteps:=1000000)(disch:=omega)only[↓Sd,↓So,↓Sk,↓den,↓denA,Sa,Sb,Sc,Se,O1.d,O2.d,O3.d,cmI,arI,envOf,putN,↓reduceIte,Nat.reduceLT,Nat.reduceSub,Nat.reduceAdd,Int.reduceAdd,Int.reduceEq,Int.reduceLT,Int.reduceLE,arr_pos,arr_neg,hD]
        exact hnx.symm
       ·have hD':wdead s weak q=false:=by simpa using hD
        simp+contextual(maxSteps:=1000000)(disch:=omega)only[↓Sd,↓So,↓Sk,↓den,↓denA,Sa,Sb,Sc,Se,O1.d,O2.d,O3.d,cmI,arI,envOf,putN,↓reduceIte,Nat.reduceLT,Nat.reduceSub,Nat.reduceAdd,Int.reduceAdd,Int.reduceEq,Int.reduceLT,Int.reduceLE,arr_pos,arr_neg,hD',C_slices_Clone_bool (tab q (szn s.1)) (fun g=>by have:=congrArg List.length g;rw [tab_len] at this;simp at this;omega) (by rw [tab_len];omega)]
        refine mc.lp_for (Bool×(Nat→Bool)) (fun i z=>[⟨B,z.1⟩,⟨I,(szn s.1:Int)⟩,⟨I,(m:Int)⟩,⟨L I,strong⟩,⟨I,(strong.length:Int)⟩,⟨I,(i:Int)⟩,⟨L V3,s.1⟩,⟨L TR,s.2⟩,⟨L (L I),steps s⟩,⟨L I,weak⟩,⟨L I,strong⟩,⟨L (L I),toT s⟩,⟨L (L I),O⟩,⟨L I,tab PT (szn s.1)⟩,⟨L B,tab q (szn s.1)⟩,⟨L I,A⟩,⟨L B,tab z.2 (szn s.1)⟩])
         (fun i z=>(∀a,a<szn s.1→z.2 a=sleft s (strong.take i) q a)∧z.1=chgd s (strong.take i) q) strong.length 0 (false,q) _ rfl (Nat.zero_le _) ⟨fun a _=>?_,?_⟩ ?_ ?_
        ·unfold sleft
         rw [dB_f]
         ·simp
         ·rintro ⟨k,h1,-⟩;simp at h1
        ·refine (dB_f ?_).symm
         rintro ⟨a,-,h2,h3⟩
         refine h3 ?_
         unfold sleft
         rw [dB_f]
         ·simp [h2]
         ·rintro ⟨k,h1,-⟩;simp at h1
        ·rintro i ⟨cg,lf⟩ hi ⟨hz1,hz2⟩
         dsimp only at hz1 hz2
         have hk:=hst _ (getD_mem (d:=0) hi)
         obtain ⟨k,hk2⟩:∃k:Nat,strong.getD i 0=(k:Int):=⟨_,(Int.toNat_of_nonneg hk.1).symm⟩
         rw [hk2] at hk
         have hkR:k<s.2.length:=Int.ofNat_lt.1 hk.2
         have hsn:=fun a=>sleft_next (s:=s) (q:=q) hi hk2 a
         by_cases hL:leadB s k q=true
         ·have hsn2:∀a,sleft s (strong.take (i+1)) q a=sleft s (strong.take i) q a:=fun a=>by rw [hsn,hL];simp
          simp+contextual(maxSteps:=1000000)(disch:=omega)only[↓Sd,↓So,↓Sk,↓den,↓denA,Sa,Sb,Sc,Se,O1.d,O2.d,O3.d,cmI,arI,envOf,putN,↓reduceIte,Nat.reduceLT,Nat.reduceSub,Nat.reduceAdd,Int.reduceAdd,Int.reduceEq,Int.reduceLT,Int.reduceLE,arr_pos,arr_neg,↓wpJoin,hk2,hLd k hkR,hL]
          refine ⟨(cg,lf),⟨rfl,rfl⟩,fun a ha=>by rw [hsn2];exact hz1 a ha,?_⟩
          dsimp only
          rw [hz2]
          exact dB_congr (by simp only [hsn2])
         ·have hL':leadB s k q=false:=by simpa using hL
          have hsn2:∀a,sleft s (strong.take (i+1)) q a=(sleft s (strong.take i) q a&&!rub s k a):=fun a=>by rw [hsn,hL'];simp
          simp+contextual(maxSteps:=1000000)(disch:=omega)only[↓Sd,↓So,↓Sk,↓den,↓denA,Sa,Sb,Sc,Se,O1.d,O2.d,O3.d,cmI,arI,envOf,putN,↓reduceIte,Nat.reduceLT,Nat.reduceSub,Nat.reduceAdd,Int.reduceAdd,Int.reduceEq,Int.reduceLT,Int.reduceLE,arr_pos,arr_neg,↓wpJoin,hk2,hLd k hkR,hL']
          refine mc.lp_for (Bool×(Nat→Bool)) (fun j z=>[⟨B,z.1⟩,⟨I,(k:Int)⟩,⟨I,(szn s.1:Int)⟩,⟨I,(m:Int)⟩,⟨L I,strong⟩,⟨I,(strong.length:Int)⟩,⟨I,(i:Int)⟩,⟨I,(A.length:Int)⟩,⟨I,(j:Int)⟩,⟨L V3,s.1⟩,⟨L TR,s.2⟩,⟨L (L I),steps s⟩,⟨L I,weak⟩,⟨L I,strong⟩,⟨L (L I),toT s⟩,⟨L (L I),O⟩,⟨L I,tab PT (szn s.1)⟩,⟨L B,tab q (szn s.1)⟩,⟨L I,A⟩,⟨L B,tab z.2 (szn s.1)⟩])
           (fun j z=>(∀a,a<szn s.1→z.2 a=(lf a&&!(rub s k a&&dB ((a:Int)∈A.take j))))∧z.1=(cg||dB (∃x∈A.take j,rub s k x.toNat=true))) A.length 0 (cg,lf) _ rfl (Nat.zero_le _) ⟨fun a _=>?_,?_⟩ ?_ ?_
          ·rw [dB_f (by simp)];simp
          ·rw [dB_f (by simp)];simp
          ·rintro j ⟨cg2,lf2⟩ hj ⟨hy1,hy2⟩
           dsimp only at hy1 hy2
           obtain ⟨a,ha,hja,hqa⟩:=hall j hj
           have hmn:∀b:Nat,(b:Int)∈A.take (j+1)↔(b:Int)∈A.take j∨b=a:=fun b=>by
            rw [mem_take_next hj,hja]
            exact or_congr Iff.rfl ⟨fun g=>Int.ofNat_inj.1 g,fun g=>by rw [g]⟩
           by_cases hu:rub s k a=true
           ·have hr:=(rtg_nn h).2 hu
            simp+contextual(maxSteps:=1000000)(disch:=omega)only[↓Sd,↓So,↓Sk,↓den,↓denA,Sa,Sb,Sc,Se,O1.d,O2.d,O3.d,cmI,arI,envOf,putN,↓reduceIte,Nat.reduceLT,Nat.reduceSub,Nat.reduceAdd,Int.reduceAdd,Int.reduceEq,Int.reduceLT,Int.reduceLE,arr_pos,arr_neg,↓wpJoin,hja,hl,hg k hkR,tab_len,tab_get ha,tab_set']
            refine ⟨(true,fun b=>if b=a then false else lf2 b),⟨rfl,rfl⟩,fun b hb=>?_,?_⟩
            ·dsimp only
             by_cases he:b=a
             ·subst he
              rw [if_pos rfl,hu,dB_t ((hmn b).2 (.inr rfl))];simp
             ·rw [if_neg he,hy1 b hb,dB_congr (show (b:Int)∈A.take (j+1)↔(b:Int)∈A.take j from ⟨fun g=>((hmn b).1 g).resolve_right he,fun g=>(hmn b).2 (.inl g)⟩)]
            ·dsimp only
             rw [dB_t (show ∃x∈A.take (j+1),rub s k x.toNat=true from ⟨(a:Int),(hmn a).2 (.inr rfl),hu⟩)];simp
           ·have hr:=rtg_no h hu
            simp+contextual(maxSteps:=1000000)(disch:=omega)only[↓Sd,↓So,↓Sk,↓den,↓denA,Sa,Sb,Sc,Se,O1.d,O2.d,O3.d,cmI,arI,envOf,putN,↓reduceIte,Nat.reduceLT,Nat.reduceSub,Nat.reduceAdd,Int.reduceAdd,Int.reduceEq,Int.reduceLT,Int.reduceLE,arr_pos,arr_neg,↓wpJoin,hja,hl,hg k hkR,tab_len,tab_get ha,hr]
            refine ⟨(cg2,lf2),⟨rfl,rfl⟩,fun b hb=>?_,?_⟩
            ·dsimp only
             rw [hy1 b hb]
             by_cases he:b=a
             ·subst he
              have:rub s k b=false:=by simpa using hu
              rw [this];simp
             ·rw [dB_congr (show (b:Int)∈A.take (j+1)↔(b:Int)∈A.take j from ⟨fun g=>((hmn b).1 g).resolve_right he,fun g=>(hmn b).2 (.inl g)⟩)]
            ·dsimp only
             rw [hy2]
             congr 1
             refine dB_congr ⟨?_,?_⟩
             ·rintro ⟨x,h1,h2⟩;exact ⟨x,(mem_take_next hj).2 (.inl h1),h2⟩
             ·rintro ⟨x,h1,h2⟩
              rcases (mem_take_next hj).1 h1 with h3 | h3
              ·exact ⟨x,h3,h2⟩
              ·rw [h3,hja] at h2;exact absurd h2 hu
          ·rintro ⟨cg2,lf2⟩ ⟨hy1,hy2⟩
           dsimp only at hy1 hy2
           rw [List.take_length] at hy1 hy2
           simp+contextual(maxSteps:=1000000)(disch:=omega)only[↓Sd,↓So,↓Sk,↓den,↓denA,Sa,Sb,Sc,Se,O1.d,O2.d,O3.d,cmI,arI,envOf,putN,↓reduceIte,Nat.reduceLT,Nat.reduceSub,Nat.reduceAdd,Int.reduceAdd,Int.reduceEq,Int.reduceLT,Int.reduceLE,arr_pos,arr_neg,↓wpJoin,]
           refine ⟨(cg2,lf2),⟨rfl,rfl⟩,fun a ha=>?_,?_⟩
           ·dsimp only
            rw [hy1 a ha,hsn2,hz1 a ha]
            by_cases hqa:q a=true
            ·rw [dB_t (hall2 a ha hqa),Bool.and_true]
            ·have:sleft s (strong.take i) q a=false:=by
              cases hs:sleft s (strong.take i) q a with
              | false=>rfl
              | true=>exact absurd (sleft_sub hs) hqa
             rw [this];rfl
           ·dsimp only
            rw [hy2,hz2]
            by_cases h1:chgd s (strong.take i) q=true
            ·obtain ⟨a,a1,a2,a3⟩:=dB_iff.1 h1
             rw [h1,Bool.true_or]
             exact (dB_t ⟨a,a1,a2,by rw [hsn2];simp only [Bool.and_eq_true,not_and];exact fun g=>absurd g a3⟩).symm
            ·have h1':chgd s (strong.take i) q=false:=by simpa using h1
             rw [h1',Bool.false_or]
             refine dB_congr ⟨?_,?_⟩
             ·rintro ⟨x,x1,x2⟩
              obtain ⟨jj,hjj,rfl⟩:=List.getElem_of_mem x1
              obtain ⟨a,b1,b2,b3⟩:=hall jj hjj
              rw [List.getD_eq_getElem?_getD,List.getElem?_eq_getElem hjj,Option.getD_some] at b2
              rw [b2] at x2
              simp only [Int.toNat_natCast] at x2
              exact ⟨a,b1,b3,by rw [hsn2,x2];simp⟩
             ·rintro ⟨a,a1,a2,a3⟩
              have h4:sleft s (strong.take i) q a=true:=by
               cases hs:sleft s (strong.take i) q a with
               | true=>rfl
               | false=>exact absurd (dB_t ⟨a,a1,a2,by rw [hs];simp⟩) h1
              refine ⟨(a:Int),hall2 a a1 a2,?_⟩
              rw [hsn2,h4] at a3
              simpa using a3
        ·rintro ⟨cg,lf⟩ ⟨hz1,hz2⟩
         dsimp only at hz1 hz2
         rw [List.take_length] at hz1 hz2
         have hlf:tab lf (szn s.1)=tab (sleft s strong q) (szn s.1):=tab_congr hz1
         by_cases hC:chgd s strong q=true
         ·have hne:=chgd_iff.1 hC
          have hc2:cor2 s weak strong (crs s weak strong f) q=crs s weak strong f (sleft s strong q):=by unfold cor2;rw [if_neg hD,if_neg hne]
          rw [hc2] at hnx hb2
          have hlt:=left_lt hne
          rw [hA] at hlt hql hqp
          obtain ⟨f',rfl⟩:∃f',f=f'+1:=⟨f - 1,by omega⟩
          have hih:=fun Q=>ih f' (Nat.lt_succ_self _) (sleft s strong q) (by omega) Q
          simp+contextual(maxSteps:=1000000)(disch:=omega)only[↓Sd,↓So,↓Sk,↓den,↓denA,Sa,Sb,Sc,Se,O1.d,O2.d,O3.d,cmI,arI,envOf,putN,↓reduceIte,Nat.reduceLT,Nat.reduceSub,Nat.reduceAdd,Int.reduceAdd,Int.reduceEq,Int.reduceLT,Int.reduceLE,arr_pos,arr_neg,hz2,hC,hlf,hih]
          exact hnx.symm
         ·have hC':chgd s strong q=false:=by simpa using hC
          have hc2:cor2 s weak strong (crs s weak strong f) q=[A]:=by
           unfold cor2
           rw [if_neg hD,if_pos (Classical.not_not.1 fun g=>hC (chgd_iff.2 g)),hA]
          rw [hc2] at hnx hb2
          simp only [List.length_singleton] at hb2
          simp+contextual(maxSteps:=1000000)(disch:=omega)only[↓Sd,↓So,↓Sk,↓den,↓denA,Sa,Sb,Sc,Se,O1.d,O2.d,O3.d,cmI,arI,envOf,putN,↓reduceIte,Nat.reduceLT,Nat.reduceSub,Nat.reduceAdd,Int.reduceAdd,Int.reduceEq,Int.reduceLT,Int.reduceLE,arr_pos,arr_neg,hz2,hC']
          exact hnx.symm
   ·have hno:¬(p m=true∧isR s p m=true):=fun g=>hpm (hPm.2 (isR_self g.1 g.2))
    rw [if_neg hno,List.append_nil] at hnx
    simp+contextual(maxSteps:=1000000)(disch:=omega)only[↓Sd,↓So,↓Sk,↓den,↓denA,Sa,Sb,Sc,Se,O1.d,O2.d,O3.d,cmI,arI,envOf,putN,↓reduceIte,Nat.reduceLT,Nat.reduceSub,Nat.reduceAdd,Int.reduceAdd,Int.reduceEq,Int.reduceLT,Int.reduceLE,arr_pos,arr_neg,tab_len,tab_get hm,hpm]
    exact hnx.symm
   ·rintro us rfl
    simp+contextual(maxSteps:=1000000)(disch:=omega)only[↓Sd,↓So,↓Sk,↓den,↓denA,Sa,Sb,Sc,Se,O1.d,O2.d,O3.d,cmI,arI,envOf,putN,↓reduceIte,Nat.reduceLT,Nat.reduceSub,Nat.reduceAdd,Int.reduceAdd,Int.reduceEq,Int.reduceLT,Int.reduceLE,arr_pos,arr_neg,]
  ·rintro o rfl
   simp+contextual(maxSteps:=1000000)(disch:=omega)only[↓Sd,↓So,↓Sk,↓den,↓denA,Sa,Sb,Sc,Se,O1.d,O2.d,O3.d,cmI,arI,envOf,putN,↓reduceIte,Nat.reduceLT,Nat.reduceSub,Nat.reduceAdd,Int.reduceAdd,Int.reduceEq,Int.reduceLT,Int.reduceLE,arr_pos,arr_neg,]
theorem C_spec_RulesSet (s:Sy) (l:List Int) (hs:FewSy s) (hl:l.length≤1048576) (Q:List AV→Prop):mc.C f_spec_RulesSet [⟨L V3,s.1⟩,⟨L TR,s.2⟩,⟨L I,l⟩] Q=Q [⟨B,decide (lset l (s.2.length:Int)∧valid s)⟩]:=by
 refine Mc.Ends.c (mc.ends F_spec_RulesSet ?_)
 generalize hK:decide (lset l (s.2.length:Int)∧valid s)=K
 have hR:s.2.length≤1048576:=hs.2.1
 simp+contextual(maxSteps:=1000000)(disch:=omega)only[↓Sd,↓So,↓Sk,↓den,↓denA,Sa,Sb,Sc,Se,O1.d,O2.d,O3.d,cmI,arI,envOf,putN,↓reduceIte,Nat.reduceLT,Nat.reduceSub,Nat.reduceAdd,Int.reduceAdd,Int.reduceEq,Int.reduceLT,Int.reduceLE,arr_pos,arr_neg,tr_spec_RulesSet]
 refine lp_all (fun i=>[⟨L I,l⟩,⟨I,(i:Int)⟩,⟨L V3,s.1⟩,⟨L TR,s.2⟩]) (fun i=>(0≤l.getD i 0∧l.getD i 0≤(s.2.length:Int) - 1)∧(0<i→l.getD (i - 1) 0<l.getD i 0)) l.length _ rfl ?_ ?_
 ·intro i hi
  have hno:¬((0≤l.getD i 0∧l.getD i 0≤(s.2.length:Int) - 1)∧(0<i→l.getD (i - 1) 0<l.getD i 0))→false=K:=fun h=>by rw [←hK,decide_eq_false];exact fun h1=>h (h1.1 i hi)
  simp+contextual(maxSteps:=1000000)(disch:=omega)only[↓Sd,↓So,↓Sk,↓den,↓denA,Sa,Sb,Sc,Se,O1.d,O2.d,O3.d,cmI,arI,envOf,putN,↓reduceIte,Nat.reduceLT,Nat.reduceSub,Nat.reduceAdd,Int.reduceAdd,Int.reduceEq,Int.reduceLT,Int.reduceLE,arr_pos,arr_neg,↓wpJoin,C_spec_l1In]
  grind
 ·intro h
  simp+contextual(maxSteps:=1000000)(disch:=omega)only[↓Sd,↓So,↓Sk,↓den,↓denA,Sa,Sb,Sc,Se,O1.d,O2.d,O3.d,cmI,arI,envOf,putN,↓reduceIte,Nat.reduceLT,Nat.reduceSub,Nat.reduceAdd,Int.reduceAdd,Int.reduceEq,Int.reduceLT,Int.reduceLE,arr_pos,arr_neg,C_spec_SystemValid s hs]
  rw [←hK];exact decide_eq_decide.2 ⟨fun g=>⟨h,g⟩,fun g=>g.2⟩
def fairOk (s:Sy) (weak strong l:List Int):Prop:=setV s l∧lset weak (s.2.length:Int)∧lset strong (s.2.length:Int)
theorem fairOk.rl {s:Sy} {weak strong l:List Int} (h:fairOk s weak strong l):rlist s weak∧rlist s strong:=⟨fun x hx=>lset_mem h.2.1 x hx,fun x hx=>lset_mem h.2.2 x hx⟩
noncomputable def mks (l:List Int) (k:Nat):Bool:=dB ((k:Int)∈l)
theorem lset_upTo {l:List Int} {n:Nat} (h:lset l n):upTo (mks l) n=l:=by
 have key:∀m,m≤n→upTo (mks l) m=l.filter fun x=>decide (x<(m:Int)):=by
  intro m
  induction m with
  | zero =>
   intro _
   refine (List.filter_eq_nil_iff.2 fun x hx=>?_).symm
   have:=lset_mem h x hx
   simp;omega
  | succ m ih =>
   intro hm
   have hp:l.Pairwise (fun a b=>a<b):=by
    rw [List.pairwise_iff_getElem]
    intro i j hi hj hij
    have:∀d,i+d+1<l.length→l.getD i 0<l.getD (i+d+1) 0:=by
     intro d
     induction d with
     | zero=>intro hd;exact (h (i+1) hd).2 (by omega)
     | succ d ihd =>
      intro hd
      have h1:=ihd (by omega)
      have h2:=(h (i+(d+1)+1) hd).2 (by omega)
      rw [show i+(d+1)+1 - 1=i+d+1 by omega] at h2
      omega
    have h3 := this (j - i - 1) (by omega)
    rw [show i + (j - i - 1) + 1 = j by omega] at h3
    rwa [List.getD_eq_getElem?_getD,List.getD_eq_getElem?_getD,List.getElem?_eq_getElem hi,List.getElem?_eq_getElem hj] at h3
   rw [upTo,ih (by omega)]
   clear ih
   unfold mks
   have hcl:∀(l:List Int),l.Pairwise (fun a b=>a<b)→l.filter (fun x=>decide (x<((m+1:Nat):Int)))=l.filter (fun x=>decide (x<(m:Int)))++if (m:Int)∈l then [(m:Int)] else []:=by
    intro l
    induction l with
    | nil=>intro _;simp
    | cons x l ihl =>
     intro hq
     obtain ⟨q1,q2⟩:=List.pairwise_cons.1 hq
     have e:=ihl q2
     by_cases hx:x<(m:Int)
     ·have hx2:x<((m+1:Nat):Int):=by omega
      have hne:¬(m:Int)=x:=by omega
      rw [List.filter_cons_of_pos (by simpa using hx2),List.filter_cons_of_pos (by simpa using hx),e]
      simp [hne]
     ·by_cases he:x=(m:Int)
      ·subst he
       have h0:l.filter (fun x=>decide (x<((m+1:Nat):Int)))=[]:=List.filter_eq_nil_iff.2 fun y hy=>by have:=q1 y hy;simp;omega
       have h1:l.filter (fun x=>decide (x<(m:Int)))=[]:=List.filter_eq_nil_iff.2 fun y hy=>by have:=q1 y hy;simp;omega
       rw [List.filter_cons_of_pos (by simp;omega),List.filter_cons_of_neg (by simp),h0,h1]
       simp
      ·have h0:∀y∈x::l,(m:Int)<y:=fun y hy=>by
        rcases List.mem_cons.1 hy with rfl | hy
        ·omega
        ·have:=q1 y hy;omega
       have h1:(x::l).filter (fun x=>decide (x<((m+1:Nat):Int)))=[]:=List.filter_eq_nil_iff.2 fun y hy=>by have:=h0 y hy;simp;omega
       have h2:(x::l).filter (fun x=>decide (x<(m:Int)))=[]:=List.filter_eq_nil_iff.2 fun y hy=>by have:=h0 y hy;simp;omega
       rw [h1,h2,if_neg fun g=>by have:=h0 _ g;omega];rfl
   rw [hcl l hp]
   by_cases hm2:(m:Int)∈l
   ·rw [if_pos (dB_t hm2),if_pos hm2]
   ·rw [if_neg (by rw [dB_f hm2];simp),if_neg hm2,List.append_nil]
 rw [key n (Nat.le_refl _)]
 exact List.filter_eq_self.2 fun x hx=>by have:=lset_mem h x hx;simpa using this.2
noncomputable def cors (s:Sy) (weak strong l:List Int):List (List Int):=crs s weak strong (szn s.1+1) (mks l)
noncomputable def corsR (s:Sy) (weak strong l:List Int):List (List Int):=if dB (fairOk s weak strong l)=true then cors s weak strong l else []
theorem cors_sm {s:Sy} {weak strong l:List Int} (h:valid s):SmSS (cors s weak strong l):=by
 have hz:=szn_eq h
 have h1:=crs_len (s:=s) (weak:=weak) (strong:=strong) (f:=szn s.1+1) (p:=mks l)
 have h2:=crs_of (s:=s) (weak:=weak) (strong:=strong) (f:=szn s.1+1) (p:=mks l)
 refine ⟨by unfold cors;omega,fun c hc=>?_⟩
 obtain ⟨q,rfl,-,-⟩:=h2.sub c hc
 have:=@upTo_len q (szn s.1)
 omega
theorem C_spec_l23Asked (s:Sy) (weak strong:List Int) (hs:FewSy s) (hwl:weak.length≤1048576) (hsl:strong.length≤1048576) (Q:List AV→Prop) :
  mc.C f_spec_l23Asked [⟨L V3,s.1⟩,⟨L TR,s.2⟩,⟨L I,weak⟩,⟨L I,strong⟩] Q=Q [⟨B,decide (valid s∧lset weak (s.2.length:Int)∧lset strong (s.2.length:Int))⟩]:=by
 refine Mc.Ends.c (mc.ends F_spec_l23Asked ?_)
 generalize hK:decide (valid s∧lset weak (s.2.length:Int)∧lset strong (s.2.length:Int))=K
 simp+contextual(maxSteps:=1000000)(disch:=omega)only[↓Sd,↓So,↓Sk,↓den,↓denA,Sa,Sb,Sc,Se,O1.d,O2.d,O3.d,cmI,arI,envOf,putN,↓reduceIte,Nat.reduceLT,Nat.reduceSub,Nat.reduceAdd,Int.reduceAdd,Int.reduceEq,Int.reduceLT,Int.reduceLE,arr_pos,arr_neg,tr_spec_l23Asked,C_spec_RulesSet s weak hs hwl,C_spec_RulesSet s strong hs hsl]
 rw [←hK]
 refine ⟨fun h1=>?_,fun h1=>?_⟩
 ·have h2:=h1.1
  have h3:=h1.2
  refine Eq.symm (decide_eq_decide.2 ⟨fun g=>?_,fun g=>?_⟩)
  ·first | exact g.2.2 | exact ⟨g.2.2,g.1⟩
  ·first | exact ⟨h3,h2,g⟩ | exact ⟨g.2,h2,g.1⟩
 ·exact (decide_eq_false fun g=>h1 ⟨g.2.1,g.1⟩).symm
theorem C_spec_FairCores (s:Sy) (weak strong l:List Int) (hs:FewSy s) (hwl:weak.length≤1048576) (hsl:strong.length≤1048576) (hl:l.length≤1048576) (Q:List AV→Prop) :
  mc.C f_spec_FairCores [⟨L V3,s.1⟩,⟨L TR,s.2⟩,⟨L I,weak⟩,⟨L I,strong⟩,⟨L I,l⟩] Q=Q [⟨L (L I),corsR s weak strong l⟩]:=by
 refine Mc.Ends.c (mc.ends F_spec_FairCores ?_)
 by_cases hok:fairOk s weak strong l
 ·have hv:=hok.1.1
  have hz:=szn_eq hv
  have hlu:upTo (mks l) (szn s.1)=l:=lset_upTo hok.1.n
  have hco:corsR s weak strong l=cors s weak strong l:=by unfold corsR;rw [if_pos (dB_t hok)]
  have hC:=fun Q=>C_spec_l23Cores s hs hv weak strong hok.rl.1 hok.rl.2 hwl hsl (szn s.1) (mks l) upTo_len Q
  rw [hlu] at hC
  have hCe:crs s weak strong (szn s.1+1) (mks l)=cors s weak strong l:=rfl
  have hsm:=cors_sm (weak:=weak) (strong:=strong) (l:=l) hv
  rw [hco]
  rw [hCe] at hC
  generalize cors s weak strong l=M at hC hsm
  have h1:=hsm.1
  simp+contextual(maxSteps:=1000000)(disch:=omega)only[↓Sd,↓So,↓Sk,↓den,↓denA,Sa,Sb,Sc,Se,O1.d,O2.d,O3.d,cmI,arI,envOf,putN,↓reduceIte,Nat.reduceLT,Nat.reduceSub,Nat.reduceAdd,Int.reduceAdd,Int.reduceEq,Int.reduceLT,Int.reduceLE,arr_pos,arr_neg,tr_spec_FairCores,C_spec_l23Asked s weak strong hs hwl hsl,decide_eq_true (show valid s∧lset weak (s.2.length:Int)∧lset strong (s.2.length:Int) from ⟨hv,hok.2⟩),Bool.not_true,C_spec_SetValid s l hs hl,decide_eq_true hok.1,C_spec_l4Steps s hs hv,C_spec_l23Usable s hs hv,hC]
  refine mc.lp_for (List (List Int)) (fun i o=>[⟨I,(i:Int)⟩,⟨L (L I),o⟩,⟨L (L I),M⟩]) (fun i o=>o=M.take i) M.length 0 [] _ rfl (Nat.zero_le _) rfl ?_ ?_
  ·rintro i o hi rfl
   have h2:=hsm.row i
   have h3:(M.take i).length≤4000:=by rw [List.length_take];omega
   simp+contextual(maxSteps:=1000000)(disch:=omega)only[↓Sd,↓So,↓Sk,↓den,↓denA,Sa,Sb,Sc,Se,O1.d,O2.d,O3.d,cmI,arI,envOf,putN,↓reduceIte,Nat.reduceLT,Nat.reduceSub,Nat.reduceAdd,Int.reduceAdd,Int.reduceEq,Int.reduceLT,Int.reduceLE,arr_pos,arr_neg,C_spec_l3Copy (M.getD i []) (by omega)]
   exact take_next hi
  ·rintro o rfl
   rw [List.take_length]
   simp+contextual(maxSteps:=1000000)(disch:=omega)only[↓Sd,↓So,↓Sk,↓den,↓denA,Sa,Sb,Sc,Se,O1.d,O2.d,O3.d,cmI,arI,envOf,putN,↓reduceIte,Nat.reduceLT,Nat.reduceSub,Nat.reduceAdd,Int.reduceAdd,Int.reduceEq,Int.reduceLT,Int.reduceLE,arr_pos,arr_neg,]
 ·have hco:corsR s weak strong l=[]:=by unfold corsR;rw [if_neg (by rw [dB_f hok];simp)]
  rw [hco]
  by_cases h1:valid s∧lset weak (s.2.length:Int)∧lset strong (s.2.length:Int)
  ·have h2:¬setV s l:=fun g=>hok ⟨g,h1.2⟩
   simp+contextual(maxSteps:=1000000)(disch:=omega)only[↓Sd,↓So,↓Sk,↓den,↓denA,Sa,Sb,Sc,Se,O1.d,O2.d,O3.d,cmI,arI,envOf,putN,↓reduceIte,Nat.reduceLT,Nat.reduceSub,Nat.reduceAdd,Int.reduceAdd,Int.reduceEq,Int.reduceLT,Int.reduceLE,arr_pos,arr_neg,tr_spec_FairCores,C_spec_l23Asked s weak strong hs hwl hsl,decide_eq_true h1,Bool.not_true,C_spec_SetValid s l hs hl,decide_eq_false h2,Bool.not_false]
  ·simp+contextual(maxSteps:=1000000)(disch:=omega)only[↓Sd,↓So,↓Sk,↓den,↓denA,Sa,Sb,Sc,Se,O1.d,O2.d,O3.d,cmI,arI,envOf,putN,↓reduceIte,Nat.reduceLT,Nat.reduceSub,Nat.reduceAdd,Int.reduceAdd,Int.reduceEq,Int.reduceLT,Int.reduceLE,arr_pos,arr_neg,tr_spec_FairCores,C_spec_l23Asked s weak strong hs hwl hsl,decide_eq_false h1,Bool.not_false]
theorem flatI_next {X:List (List Int)} {i:Nat} (h:i<X.length):(X.take (i+1)).flatten=(X.take i).flatten++X.getD i []:=by
 rw [←take_next (d:=[]) h,List.flatten_append];simp
theorem flatI_le {X:List (List Int)} {i:Nat}:(X.take i).flatten.length≤X.flatten.length:=by
 conv=>rhs;rw [←List.take_append_drop i X,List.flatten_append,List.length_append]
 omega
theorem cor_flat {s:Sy} {p:Nat→Bool} {L:List (List Int)} (h:CorOf s p L):L.flatten.length≤szn s.1:=by
 have h1:(L.flatten.map fun x=>[x]).length≤szn s.1:=by
  refine dj_len ?_ fun c hc=>?_
  ·rw [List.pairwise_map]
   have h2:L.flatten.Pairwise (fun a b=>a≠b):=by
    rw [List.pairwise_flatten]
    refine ⟨fun c hc=>?_,h.dj.imp fun {c d} hcd x hx y hy he=>hcd x hx (by rw [he];exact hy)⟩
    obtain ⟨q,rfl,-,-⟩:=h.sub c hc
    have:=roots_pw (f:=fun _=>true) (p:=q) (n:=szn s.1)
    rw [List.filter_eq_self.2 (fun _ _=>rfl)] at this
    exact this.imp fun hab=>by omega
   exact h2.imp fun hab x hx hy=>by simp only [List.mem_singleton] at hx hy;exact hab (hx.symm.trans hy)
  ·obtain ⟨x,hx,rfl⟩:=List.mem_map.1 hc
   refine ⟨by simp,fun y hy=>?_⟩
   rw [List.mem_singleton.1 hy]
   obtain ⟨c,h3,h4⟩:=List.mem_flatten.1 hx
   obtain ⟨q,rfl,-,-⟩:=h.sub c h3
   obtain ⟨a,h5,rfl,_⟩:=upTo_mem.1 h4
   omega
 rwa [List.length_map] at h1
theorem cor_mem {s:Sy} {p:Nat→Bool} {L:List (List Int)} (h:CorOf s p L) {x:Int} (hx:x∈L.flatten):∃a:Nat,x=(a:Int)∧a<szn s.1∧p a=true:=by
 obtain ⟨c,h3,h4⟩:=List.mem_flatten.1 hx
 obtain ⟨q,rfl,-,h5⟩:=h.sub c h3
 obtain ⟨a,h6,rfl,h7⟩:=upTo_mem.1 h4
 exact ⟨a,rfl,h6,h5 a h7⟩
noncomputable def wthn (s:Sy) (p:Nat→Bool) (F:List Int) (k:Nat):Bool:=dB (Rch (pasts (insS s p) (szn s.1)) F k)
theorem wthn_nil {s:Sy} {p:Nat→Bool} {k:Nat}:wthn s p [] k=false:=dB_f fun h=>by
 induction h with
 | base h=>simp at h
 | step _ _ ih=>exact ih
theorem C_slices_ConcatI (X:List (List Int)) (h:X.flatten.length≤4000000) (hx:X.length≤4000) (Q:List AV→Prop):mc.C f_slices_Concat_Sint_int [⟨L (L I),X⟩] Q=Q [⟨L I,X.flatten⟩]:=by
 refine Mc.Ends.c (mc.ends F_slices_Concat_Sint_int ?_)
 simp+contextual(maxSteps:=1000000)(disch:=omega)only[↓Sd,↓So,↓Sk,↓den,↓denA,Sa,Sb,Sc,Se,O1.d,O2.d,O3.d,cmI,arI,envOf,putN,↓reduceIte,Nat.reduceLT,Nat.reduceSub,Nat.reduceAdd,Int.reduceAdd,Int.reduceEq,Int.reduceLT,Int.reduceLE,arr_pos,arr_neg,tr_slices_Concat_Sint_int]
 refine mc.lp_for Unit (fun i _=>[⟨L (L I),X⟩,⟨I,((X.take i).flatten.length:Int)⟩,⟨L (L I),X⟩,⟨I,(X.length:Int)⟩,⟨I,(i:Int)⟩]) (fun _ _=>True) X.length 0 () _ rfl (by omega) trivial ?_ ?_
 ·rintro i - hi -
  have h1:=@flatI_le X (i+1)
  rw [flatI_next hi] at h1 ⊢
  rw [List.length_append] at h1 ⊢
  simp+contextual(maxSteps:=1000000)(disch:=omega)only[↓Sd,↓So,↓Sk,↓den,↓denA,Sa,Sb,Sc,Se,O1.d,O2.d,O3.d,cmI,arI,envOf,putN,↓reduceIte,Nat.reduceLT,Nat.reduceSub,Nat.reduceAdd,Int.reduceAdd,Int.reduceEq,Int.reduceLT,Int.reduceLE,arr_pos,arr_neg,]
 ·rintro - -
  rw [List.take_length]
  simp+contextual(maxSteps:=1000000)(disch:=omega)only[↓Sd,↓So,↓Sk,↓den,↓denA,Sa,Sb,Sc,Se,O1.d,O2.d,O3.d,cmI,arI,envOf,putN,↓reduceIte,Nat.reduceLT,Nat.reduceSub,Nat.reduceAdd,Int.reduceAdd,Int.reduceEq,Int.reduceLT,Int.reduceLE,arr_pos,arr_neg,]
  refine mc.lp_for (List Int) (fun i o=>[⟨L (L I),X⟩,⟨I,(X.length:Int)⟩,⟨I,(i:Int)⟩,⟨L I,o⟩]) (fun i o=>o=(X.take i).flatten) X.length 0 [] _ rfl (by omega) (by simp) ?_ ?_
  ·rintro i o hi rfl
   have h1:=@flatI_le X (i+1)
   rw [flatI_next hi] at h1 ⊢
   rw [List.length_append] at h1
   simp+contextual(maxSteps:=1000000)(disch:=omega)only[↓Sd,↓So,↓Sk,↓den,↓denA,Sa,Sb,Sc,Se,O1.d,O2.d,O3.d,cmI,arI,envOf,putN,↓reduceIte,Nat.reduceLT,Nat.reduceSub,Nat.reduceAdd,Int.reduceAdd,Int.reduceEq,Int.reduceLT,Int.reduceLE,arr_pos,arr_neg,]
  ·rintro o rfl
   rw [List.take_length]
   simp+contextual(maxSteps:=1000000)(disch:=omega)only[↓Sd,↓So,↓Sk,↓den,↓denA,Sa,Sb,Sc,Se,O1.d,O2.d,O3.d,cmI,arI,envOf,putN,↓reduceIte,Nat.reduceLT,Nat.reduceSub,Nat.reduceAdd,Int.reduceAdd,Int.reduceEq,Int.reduceLT,Int.reduceLE,arr_pos,arr_neg,]
end Go.Proofs.YtknlennollmgeaaGreat
namespace Go.Proofs.YtknlennollmgeaaGreat
open Go Go.Sm Go.Sm.Q
set_option linter.unusedSimpArgs false
set_option linter.unusedVariables false
theorem C_impl_fairWithin (s:Sy) (h:valid s) (weak strong:List Int) (hw:rlist s weak) (hst:rlist s strong) (hwl:weak.length≤1048576) (hsl:strong.length≤1048576) (p:Nat→Bool) (Q:List AV→Prop) :
  mc.C f_impl_fairness_fairWithin [⟨FBox,fbx s weak strong⟩,⟨L B,tab p (szn s.1)⟩] Q=Q [⟨L B,tab (wthn s p (crs s weak strong (szn s.1+1) p).flatten) (szn s.1)⟩,⟨FBox,fbx s weak strong⟩]:=by
 have hz:=szn_eq h
 have ht:=steps_tb8 h
 have hTl:=ht.1.1
 have hC:=fun Q=>C_impl_cores s h weak strong hw hst hwl hsl (szn s.1) p upTo_len Q
 have hcor:=crs_of (s:=s) (weak:=weak) (strong:=strong) (f:=szn s.1+1) (p:=p)
 have hcl:=crs_len (s:=s) (weak:=weak) (strong:=strong) (f:=szn s.1+1) (p:=p)
 generalize crs s weak strong (szn s.1+1) p=M at hC hcor hcl
 have hfl:=cor_flat hcor
 have hU:insS s p=insT (steps s) p (szn s.1):=rfl
 have hu8:=insT_tb8 (p:=p) ht
 refine Mc.Ends.c (mc.ends F_impl_fairness_fairWithin ?_)
 simp+contextual(maxSteps:=1000000)(disch:=omega)only[↓Sd,↓So,↓Sk,↓den,↓denA,Sa,Sb,Sc,Se,O1.d,O2.d,O3.d,cmI,arI,envOf,putN,↓reduceIte,Nat.reduceLT,Nat.reduceSub,Nat.reduceAdd,Int.reduceAdd,Int.reduceEq,Int.reduceLT,Int.reduceLE,arr_pos,arr_neg,tr_impl_fairness_fairWithin,fbx,hTl]
 obtain ⟨IR,hIR⟩:∃IR:Nat→List Int,(fun k=>if p k=true then ((steps s).getD k []).filter (fun x=>p x.toNat) else [])=IR:=⟨_,rfl⟩
 refine mc.lp_for (List (List Int)) (fun i o=>[⟨L B,tab p (szn s.1)⟩,⟨L (L I),steps s⟩,⟨I,(szn s.1:Int)⟩,⟨I,(i:Int)⟩,⟨L V3,s.1⟩,⟨L TR,s.2⟩,⟨L (L I),steps s⟩,⟨L I,weak⟩,⟨L I,strong⟩,⟨L (L I),toT s⟩,⟨L (L I),o⟩])
  (fun i o=>o=tab IR i++List.replicate (szn s.1 - i) []) (szn s.1) 0 (List.replicate (szn s.1) []) _ rfl (Nat.zero_le _) (by simp [tab]) ?_ ?_
 ·rintro i o hi rfl
  have hrl:((steps s).getD i []).length≤8:=ht.2.2 _ (getD_mem (by omega))
  have hri:=fun x hx=>ht.1.row (i:=i) x hx
  obtain ⟨row,hr⟩:∃row,(steps s).getD i []=row:=⟨_,rfl⟩
  rw [hr] at hrl hri
  simp+contextual(maxSteps:=1000000)(disch:=omega)only[↓Sd,↓So,↓Sk,↓den,↓denA,Sa,Sb,Sc,Se,O1.d,O2.d,O3.d,cmI,arI,envOf,putN,↓reduceIte,Nat.reduceLT,Nat.reduceSub,Nat.reduceAdd,Int.reduceAdd,Int.reduceEq,Int.reduceLT,Int.reduceLE,arr_pos,arr_neg,hTl,hr]
  rw [sub_split hi,List.replicate_succ]
  refine mc.lp_for (List Int) (fun j o=>[⟨L B,tab p (szn s.1)⟩,⟨I,(i:Int)⟩,⟨L (L I),steps s⟩,⟨I,(szn s.1:Int)⟩,⟨I,(i:Int)⟩,⟨L I,row⟩,⟨I,(row.length:Int)⟩,⟨I,(j:Int)⟩,⟨L V3,s.1⟩,⟨L TR,s.2⟩,⟨L (L I),steps s⟩,⟨L I,weak⟩,⟨L I,strong⟩,⟨L (L I),toT s⟩,⟨L (L I),tab IR i++o::List.replicate (szn s.1 - (i+1)) []⟩])
   (fun j o=>o=if p i=true then (row.take j).filter (fun x=>p x.toNat) else []) row.length 0 [] _ rfl (Nat.zero_le _) (by simp) ?_ ?_
  ·rintro j o hj rfl
   have hm:=hri _ (getD_mem (d:=0) hj)
   obtain ⟨m,hm2⟩:∃m:Nat,row.getD j 0=(m:Int):=⟨_,(Int.toNat_of_nonneg hm.1).symm⟩
   rw [hm2] at hm
   have hmn:m<szn s.1:=Int.ofNat_lt.1 hm.2
   have hnx:=filter_next hj (fun x=>p x.toNat)
   rw [hm2] at hnx
   by_cases hp:p i=true
   ·simp only [hp,if_true]
    have hol:((row.take j).filter fun x=>p x.toNat).length≤8:=Nat.le_trans (List.length_filter_le ..) (by rw [List.length_take];omega)
    have hlen:(tab IR i++((row.take j).filter fun x=>p x.toNat)::List.replicate (szn s.1 - (i+1)) []).length=szn s.1:=by simp [tab_len];omega
    by_cases hpm:p m=true
    ·simp+contextual(maxSteps:=1000000)(disch:=omega)only[↓Sd,↓So,↓Sk,↓den,↓denA,Sa,Sb,Sc,Se,O1.d,O2.d,O3.d,cmI,arI,envOf,putN,↓reduceIte,Nat.reduceLT,Nat.reduceSub,Nat.reduceAdd,Int.reduceAdd,Int.reduceEq,Int.reduceLT,Int.reduceLE,arr_pos,arr_neg,↓wpJoin,hm2,tab_len,tab_get hi,hp,tab_get hmn,hpm,hlen,tab_getr,tab_setr]
     refine ⟨_,rfl,?_⟩
     rw [hnx];simp [hpm]
    ·simp+contextual(maxSteps:=1000000)(disch:=omega)only[↓Sd,↓So,↓Sk,↓den,↓denA,Sa,Sb,Sc,Se,O1.d,O2.d,O3.d,cmI,arI,envOf,putN,↓reduceIte,Nat.reduceLT,Nat.reduceSub,Nat.reduceAdd,Int.reduceAdd,Int.reduceEq,Int.reduceLT,Int.reduceLE,arr_pos,arr_neg,↓wpJoin,hm2,tab_len,tab_get hi,hp,tab_get hmn,hpm]
     refine ⟨_,rfl,?_⟩
     rw [hnx];simp [hpm]
   ·simp only [hp,Bool.false_eq_true,if_false]
    simp+contextual(maxSteps:=1000000)(disch:=omega)only[↓Sd,↓So,↓Sk,↓den,↓denA,Sa,Sb,Sc,Se,O1.d,O2.d,O3.d,cmI,arI,envOf,putN,↓reduceIte,Nat.reduceLT,Nat.reduceSub,Nat.reduceAdd,Int.reduceAdd,Int.reduceEq,Int.reduceLT,Int.reduceLE,arr_pos,arr_neg,↓wpJoin,hm2,tab_len,tab_get hi,hp]
    exact ⟨[],rfl,rfl⟩
  ·rintro o rfl
   rw [List.take_length]
   simp+contextual(maxSteps:=1000000)(disch:=omega)only[↓Sd,↓So,↓Sk,↓den,↓denA,Sa,Sb,Sc,Se,O1.d,O2.d,O3.d,cmI,arI,envOf,putN,↓reduceIte,Nat.reduceLT,Nat.reduceSub,Nat.reduceAdd,Int.reduceAdd,Int.reduceEq,Int.reduceLT,Int.reduceLE,arr_pos,arr_neg,]
   rw [←tab_next,List.append_assoc,←hIR]
   simp only [hr];rfl
 ·rintro o rfl
  rw [Nat.sub_self,List.replicate_zero,List.append_nil]
  have hIU:tab IR (szn s.1)=insT (steps s) p (szn s.1):=by rw [←hIR];rfl
  have hF:∀x∈M.flatten,0≤x∧x<(szn s.1:Int):=fun x hx=>by obtain ⟨a,rfl,h1,_⟩:=cor_mem hcor hx;omega
  simp+contextual(maxSteps:=1000000)(disch:=omega)only[↓Sd,↓So,↓Sk,↓den,↓denA,Sa,Sb,Sc,Se,O1.d,O2.d,O3.d,cmI,arI,envOf,putN,↓reduceIte,Nat.reduceLT,Nat.reduceSub,Nat.reduceAdd,Int.reduceAdd,Int.reduceEq,Int.reduceLT,Int.reduceLE,arr_pos,arr_neg,hIU,C_impl_pasts _ (szn s.1) hu8,hC,C_slices_ConcatI M (by omega) (by omega),C_impl_reach_a (pasts (insT (steps s) p (szn s.1)) (szn s.1)) M.flatten (szn s.1) (by omega) (pasts_tbl hu8) hF (by omega)]
  rfl
noncomputable def fwR (s:Sy) (weak strong l:List Int):List Int:=if dB (fairOk s weak strong l)=true then upTo (wthn s (mks l) (cors s weak strong l).flatten) (szn s.1) else []
theorem lay_full {T:List (List Int)} {F:List Int} {n k:Nat} (ht:Tbl T n) (hF:∀x∈F,0≤x∧x<(n:Int)) (hk:k<n):Rch T F k↔Lay T F n k:=by
 constructor
 ·intro h
  have h1:=dst_rch.2 h
  have h2:=dst_bd ht (fun x hx=>(hF x hx).2) hk
  exact dst_le.2 ⟨h1,by omega⟩
 ·exact Lay.rch
theorem C_spec_FairWithin (s:Sy) (weak strong l:List Int) (hs:FewSy s) (hwl:weak.length≤1048576) (hsl:strong.length≤1048576) (hl:l.length≤1048576) (Q:List AV→Prop) :
  mc.C f_spec_FairWithin [⟨L V3,s.1⟩,⟨L TR,s.2⟩,⟨L I,weak⟩,⟨L I,strong⟩,⟨L I,l⟩] Q=Q [⟨L I,fwR s weak strong l⟩]:=by
 refine Mc.Ends.c (mc.ends F_spec_FairWithin ?_)
 have hFC:=fun Q=>C_spec_FairCores s weak strong l hs hwl hsl hl Q
 by_cases hok:fairOk s weak strong l
 ·have hv:=hok.1.1
  have hz:=szn_eq hv
  have ht:=steps_tb8 hv
  have hTl:=ht.1.1
  have hmk:tab (fun k=>dB ((k:Int)∈l)) (szn s.1)=tab (mks l) (szn s.1):=rfl
  have hco:fwR s weak strong l=upTo (wthn s (mks l) (cors s weak strong l).flatten) (szn s.1):=by unfold fwR;rw [if_pos (dB_t hok)]
  have hcr:corsR s weak strong l=cors s weak strong l:=by unfold corsR;rw [if_pos (dB_t hok)]
  rw [hco]
  rw [hcr] at hFC
  have hcor:CorOf s (mks l) (cors s weak strong l):=crs_of
  have hsm:=cors_sm (weak:=weak) (strong:=strong) (l:=l) hv
  generalize cors s weak strong l=M at hFC hcor hsm
  have hMl:=hsm.1
  by_cases hM:M=[]
  ·subst hM
   simp+contextual(maxSteps:=1000000)(disch:=omega)only[↓Sd,↓So,↓Sk,↓den,↓denA,Sa,Sb,Sc,Se,O1.d,O2.d,O3.d,cmI,arI,envOf,putN,↓reduceIte,Nat.reduceLT,Nat.reduceSub,Nat.reduceAdd,Int.reduceAdd,Int.reduceEq,Int.reduceLT,Int.reduceLE,arr_pos,arr_neg,tr_spec_FairWithin,hFC,List.length_nil]
   rw [List.flatten_nil,upTo_congr (q:=fun _=>false) fun k _=>wthn_nil]
   rw [List.eq_nil_of_length_eq_zero (upTo_nil.2 fun _ _=>rfl)]
  ·have hM2:=List.length_pos_iff.2 hM
   simp+contextual(maxSteps:=1000000)(disch:=omega)only[↓Sd,↓So,↓Sk,↓den,↓denA,Sa,Sb,Sc,Se,O1.d,O2.d,O3.d,cmI,arI,envOf,putN,↓reduceIte,Nat.reduceLT,Nat.reduceSub,Nat.reduceAdd,Int.reduceAdd,Int.reduceEq,Int.reduceLT,Int.reduceLE,arr_pos,arr_neg,tr_spec_FairWithin,hFC,C_spec_l4Steps s hs hv,hTl,C_spec_l4Marks l (szn s.1) (by omega) hl hok.1.mem,hmk]
   refine mc.lp_for (Nat→Bool) (fun i o=>[⟨I,(i:Int)⟩,⟨L (L I),M⟩,⟨L (L I),steps s⟩,⟨L B,tab (mks l) (szn s.1)⟩,⟨L B,tab o (szn s.1)⟩]) (fun i o=>∀k,k<szn s.1→o k=dB ((k:Int)∈(M.take i).flatten)) M.length 0 (fun _=>false) _ (by simp [tab,List.map_const']) (Nat.zero_le _) (fun k _=>(dB_f (by simp)).symm) ?_ ?_
   ·rintro i o hi ho
    have hrl:(M.getD i []).length≤4000:=hsm.row i
    obtain ⟨row,hr⟩:∃row,M.getD i []=row:=⟨_,rfl⟩
    have hrm:∀j,j<row.length→∃a:Nat,row.getD j 0=(a:Int)∧a<szn s.1:=by
     intro j hj
     obtain ⟨a,h1,h2,-⟩:=cor_mem hcor (x:=row.getD j 0) (List.mem_flatten.2 ⟨row,by rw [←hr];exact getD_mem hi,getD_mem hj⟩)
     exact ⟨a,h1,h2⟩
    rw [hr] at hrl
    simp+contextual(maxSteps:=1000000)(disch:=omega)only[↓Sd,↓So,↓Sk,↓den,↓denA,Sa,Sb,Sc,Se,O1.d,O2.d,O3.d,cmI,arI,envOf,putN,↓reduceIte,Nat.reduceLT,Nat.reduceSub,Nat.reduceAdd,Int.reduceAdd,Int.reduceEq,Int.reduceLT,Int.reduceLE,arr_pos,arr_neg,]
    refine mc.lp_for (Nat→Bool) (fun j o=>[⟨I,(i:Int)⟩,⟨I,(j:Int)⟩,⟨L (L I),M⟩,⟨L (L I),steps s⟩,⟨L B,tab (mks l) (szn s.1)⟩,⟨L B,tab o (szn s.1)⟩]) (fun j o=>∀k,k<szn s.1→o k=dB ((k:Int)∈(M.take i).flatten++row.take j)) row.length 0 o _ rfl (Nat.zero_le _) (fun k hk=>by rw [ho k hk];simp) ?_ ?_
    ·rintro j o hj ho
     obtain ⟨a,ha,han⟩:=hrm j hj
     simp+contextual(maxSteps:=1000000)(disch:=omega)only[↓Sd,↓So,↓Sk,↓den,↓denA,Sa,Sb,Sc,Se,O1.d,O2.d,O3.d,cmI,arI,envOf,putN,↓reduceIte,Nat.reduceLT,Nat.reduceSub,Nat.reduceAdd,Int.reduceAdd,Int.reduceEq,Int.reduceLT,Int.reduceLE,arr_pos,arr_neg,hr,ha,tab_len,tab_set']
     refine ⟨_,rfl,fun k hk=>?_⟩
     by_cases he:k=a
     ·subst he
      rw [if_pos rfl,dB_t]
      exact List.mem_append_right _ ((mem_take_next hj).2 (.inr ha.symm))
     ·rw [if_neg he,ho k hk]
      refine dB_congr ?_
      rw [List.mem_append,List.mem_append,mem_take_next hj,ha]
      constructor
      ·rintro (g | g)
       ·exact .inl g
       ·exact .inr (.inl g)
      ·rintro (g | g | g)
       ·exact .inl g
       ·exact .inr g
       ·exact absurd (Int.ofNat_inj.1 g) he
    ·rintro o ho
     simp+contextual(maxSteps:=1000000)(disch:=omega)only[↓Sd,↓So,↓Sk,↓den,↓denA,Sa,Sb,Sc,Se,O1.d,O2.d,O3.d,cmI,arI,envOf,putN,↓reduceIte,Nat.reduceLT,Nat.reduceSub,Nat.reduceAdd,Int.reduceAdd,Int.reduceEq,Int.reduceLT,Int.reduceLE,arr_pos,arr_neg,hr]
     refine ⟨o,rfl,fun k hk=>?_⟩
     rw [ho k hk,List.take_length,flatI_next hi,hr]
   ·rintro o ho
    have hu8:=insT_tb8 (p:=mks l) ht
    have hU:insS s (mks l)=insT (steps s) (mks l) (szn s.1):=rfl
    have hF:∀x∈M.flatten,0≤x∧x<(szn s.1:Int):=fun x hx=>by obtain ⟨a,rfl,h1,_⟩:=cor_mem hcor hx;omega
    have hFp:∀k:Nat,(k:Int)∈M.flatten→mks l k=true:=fun k hk=>by
     obtain ⟨a,h1,-,h2⟩:=cor_mem hcor hk
     rw [Int.ofNat_inj.1 h1];exact h2
    generalize hFF:M.flatten=F at *
    have hlay:∀d k,Lay (pasts (insS s (mks l)) (szn s.1)) F d k→k<szn s.1:=fun d k h=>(h.rch).lt (pasts_tbl hu8) fun x hx=>(hF x hx).2
    have hstep:∀d k,k<szn s.1→(Lay (pasts (insS s (mks l)) (szn s.1)) F (d+1) k↔Lay (pasts (insS s (mks l)) (szn s.1)) F d k∨(ahead (steps s) (layB (pasts (insS s (mks l)) (szn s.1)) F d) (szn s.1) k∧mks l k=true)):=by
     intro d k hk
     constructor
     ·rintro (g | ⟨a,g1,g2⟩)
      ·exact .inl g
      ·have ha:=hlay d a g1
       rw [pasts_get ha,pastL_mem] at g2
       obtain ⟨b,hb,hkb,g3⟩:=g2
       have hkb:=Int.ofNat_inj.1 hkb
       subst hkb
       rw [hU,insT_mem hk] at g3
       exact .inr ⟨⟨a,ha,dB_t g1,g3.2.1⟩,g3.1⟩
     ·rintro (g | ⟨⟨b,hb,g1,g2⟩,g3⟩)
      ·exact .inl g
      ·refine .inr ⟨b,dB_iff.1 g1,?_⟩
       rw [pasts_get hb,pastL_mem]
       refine ⟨k,hk,rfl,?_⟩
       rw [hU,insT_mem hk]
       refine ⟨g3,g2,?_⟩
       have h1:=dB_iff.1 g1
       have:∀d k,Lay (pasts (insS s (mks l)) (szn s.1)) F d k→mks l k=true:=by
        intro d
        induction d with
        | zero=>intro k h;exact hFp k h
        | succ d ih =>
         intro k h
         rcases h with h | ⟨a,h2,h3⟩
         ·exact ih k h
         ·have ha:=hlay d a h2
          rw [pasts_get ha,pastL_mem] at h3
          obtain ⟨b,hb,hkb,h4⟩:=h3
          rw [Int.ofNat_inj.1 hkb]
          rw [hU,insT_mem hb] at h4
          exact h4.1
       exact this d b h1
    simp+contextual(maxSteps:=1000000)(disch:=omega)only[↓Sd,↓So,↓Sk,↓den,↓denA,Sa,Sb,Sc,Se,O1.d,O2.d,O3.d,cmI,arI,envOf,putN,↓reduceIte,Nat.reduceLT,Nat.reduceSub,Nat.reduceAdd,Int.reduceAdd,Int.reduceEq,Int.reduceLT,Int.reduceLE,arr_pos,arr_neg,]
    refine mc.lp_for (Nat→Bool) (fun i o=>[⟨I,(i:Int)⟩,⟨L (L I),steps s⟩,⟨L B,tab (mks l) (szn s.1)⟩,⟨L B,tab o (szn s.1)⟩]) (fun i o=>∀k,k<szn s.1→o k=layB (pasts (insS s (mks l)) (szn s.1)) F i k) (szn s.1) 0 o _ rfl (Nat.zero_le _) (fun k hk=>by rw [ho k hk,List.take_length,hFF];rfl) ?_ ?_
    ·rintro i o hi ho
     have hoe:tab o (szn s.1)=tab (layB (pasts (insS s (mks l)) (szn s.1)) F i) (szn s.1):=tab_congr ho
     have hnew:∀k,k<szn s.1→layB (pasts (insS s (mks l)) (szn s.1)) F (i+1) k=(layB (pasts (insS s (mks l)) (szn s.1)) F i k||(dB (ahead (steps s) (layB (pasts (insS s (mks l)) (szn s.1)) F i) (szn s.1) k)&&mks l k)):=by
      intro k hk
      have eA:layB (pasts (insS s (mks l)) (szn s.1)) F (i+1) k=dB (Lay (pasts (insS s (mks l)) (szn s.1)) F (i+1) k):=rfl
      have eB:layB (pasts (insS s (mks l)) (szn s.1)) F i k=dB (Lay (pasts (insS s (mks l)) (szn s.1)) F i k):=rfl
      rw [eA,eB]
      by_cases h1:Lay (pasts (insS s (mks l)) (szn s.1)) F i k
      ·rw [dB_t h1,dB_t ((hstep i k hk).2 (.inl h1))];rfl
      ·by_cases h2:ahead (steps s) (layB (pasts (insS s (mks l)) (szn s.1)) F i) (szn s.1) k
       ·by_cases h3:mks l k=true
        ·rw [dB_t ((hstep i k hk).2 (.inr ⟨h2,h3⟩)),dB_f h1,dB_t h2,h3];rfl
        ·rw [dB_f fun g=>(((hstep i k hk).1 g).elim h1 fun g=>h3 g.2),dB_f h1];simp [h3]
       ·rw [dB_f fun g=>(((hstep i k hk).1 g).elim h1 fun g=>h2 g.1),dB_f h1,dB_f h2];rfl
     rw [hoe]
     generalize layB (pasts (insS s (mks l)) (szn s.1)) F (i+1)=NW at hnew
     generalize layB (pasts (insS s (mks l)) (szn s.1)) F i=OL at hnew
     simp+contextual(maxSteps:=1000000)(disch:=omega)only[↓Sd,↓So,↓Sk,↓den,↓denA,Sa,Sb,Sc,Se,O1.d,O2.d,O3.d,cmI,arI,envOf,putN,↓reduceIte,Nat.reduceLT,Nat.reduceSub,Nat.reduceAdd,Int.reduceAdd,Int.reduceEq,Int.reduceLT,Int.reduceLE,arr_pos,arr_neg,hTl,C_spec_l4Ahead (steps s) OL (szn s.1) (by omega) ht.1]
     refine mc.lp_for (Nat→Bool) (fun j o=>[⟨I,(i:Int)⟩,⟨I,(j:Int)⟩,⟨L (L I),steps s⟩,⟨L B,tab (mks l) (szn s.1)⟩,⟨L B,tab o (szn s.1)⟩,⟨L B,tab (fun k=>dB (ahead (steps s) OL (szn s.1) k)) (szn s.1)⟩]) (fun j o=>∀k,k<szn s.1→o k=if k<j then NW k else OL k) (szn s.1) 0 OL _ rfl (Nat.zero_le _) (fun k _=>by simp) ?_ ?_
     ·rintro j o hj ho
      have hoj:o j=OL j:=by rw [ho j hj,if_neg (Nat.lt_irrefl _)]
      have fin:∀(b:Bool),b=NW j→∀k,k<szn s.1→(if k=j then b else o k)=if k<j+1 then NW k else OL k:=by
       intro b hb k hk
       by_cases he:k=j
       ·subst he;rw [if_pos rfl,if_pos (Nat.lt_succ_self _),hb]
       ·rw [if_neg he,ho k hk]
        by_cases h1:k<j
        ·rw [if_pos h1,if_pos (by omega)]
        ·rw [if_neg h1,if_neg (by omega)]
      have hN:=hnew j hj
      by_cases h1:OL j=true
      ·simp+contextual(maxSteps:=1000000)(disch:=omega)only[↓Sd,↓So,↓Sk,↓den,↓denA,Sa,Sb,Sc,Se,O1.d,O2.d,O3.d,cmI,arI,envOf,putN,↓reduceIte,Nat.reduceLT,Nat.reduceSub,Nat.reduceAdd,Int.reduceAdd,Int.reduceEq,Int.reduceLT,Int.reduceLE,arr_pos,arr_neg,↓wpJoin,hTl,tab_len,tab_get hj,hoj,h1,tab_set']
       exact ⟨_,rfl,fin true (by rw [hN,h1];rfl)⟩
      ·have h1':OL j=false:=by simpa using h1
       by_cases h2:ahead (steps s) OL (szn s.1) j
       ·simp+contextual(maxSteps:=1000000)(disch:=omega)only[↓Sd,↓So,↓Sk,↓den,↓denA,Sa,Sb,Sc,Se,O1.d,O2.d,O3.d,cmI,arI,envOf,putN,↓reduceIte,Nat.reduceLT,Nat.reduceSub,Nat.reduceAdd,Int.reduceAdd,Int.reduceEq,Int.reduceLT,Int.reduceLE,arr_pos,arr_neg,↓wpJoin,hTl,tab_len,tab_get hj,hoj,h1,dB_t h2,tab_set']
        exact ⟨_,rfl,fin (mks l j) (by rw [hN,h1',dB_t h2];simp)⟩
       ·simp+contextual(maxSteps:=1000000)(disch:=omega)only[↓Sd,↓So,↓Sk,↓den,↓denA,Sa,Sb,Sc,Se,O1.d,O2.d,O3.d,cmI,arI,envOf,putN,↓reduceIte,Nat.reduceLT,Nat.reduceSub,Nat.reduceAdd,Int.reduceAdd,Int.reduceEq,Int.reduceLT,Int.reduceLE,arr_pos,arr_neg,↓wpJoin,hTl,tab_len,tab_get hj,hoj,h1,dB_f h2,tab_set']
        exact ⟨_,rfl,fin false (by rw [hN,h1',dB_f h2];rfl)⟩
     ·rintro o ho
      simp+contextual(maxSteps:=1000000)(disch:=omega)only[↓Sd,↓So,↓Sk,↓den,↓denA,Sa,Sb,Sc,Se,O1.d,O2.d,O3.d,cmI,arI,envOf,putN,↓reduceIte,Nat.reduceLT,Nat.reduceSub,Nat.reduceAdd,Int.reduceAdd,Int.reduceEq,Int.reduceLT,Int.reduceLE,arr_pos,arr_neg,hTl]
      exact ⟨o,rfl,fun k hk=>by rw [ho k hk,if_pos hk]⟩
    ·rintro o ho
     have hoe:tab o (szn s.1)=tab (wthn s (mks l) F) (szn s.1):=tab_congr fun k hk=>by
      rw [ho k hk]
      exact dB_congr (lay_full (pasts_tbl hu8) hF hk).symm
     rw [hoe]
     simp+contextual(maxSteps:=1000000)(disch:=omega)only[↓Sd,↓So,↓Sk,↓den,↓denA,Sa,Sb,Sc,Se,O1.d,O2.d,O3.d,cmI,arI,envOf,putN,↓reduceIte,Nat.reduceLT,Nat.reduceSub,Nat.reduceAdd,Int.reduceAdd,Int.reduceEq,Int.reduceLT,Int.reduceLE,arr_pos,arr_neg,hTl,C_spec_l4List_tab (wthn s (mks l) F) (szn s.1) (by omega)]
 ·have hco:fwR s weak strong l=[]:=by unfold fwR;rw [if_neg (by rw [dB_f hok];simp)]
  have hcr:corsR s weak strong l=[]:=by unfold corsR;rw [if_neg (by rw [dB_f hok];simp)]
  rw [hcr] at hFC
  rw [hco]
  simp+contextual(maxSteps:=1000000)(disch:=omega)only[↓Sd,↓So,↓Sk,↓den,↓denA,Sa,Sb,Sc,Se,O1.d,O2.d,O3.d,cmI,arI,envOf,putN,↓reduceIte,Nat.reduceLT,Nat.reduceSub,Nat.reduceAdd,Int.reduceAdd,Int.reduceEq,Int.reduceLT,Int.reduceLE,arr_pos,arr_neg,tr_spec_FairWithin,hFC,List.length_nil]
theorem wthn_sub {s:Sy} {p:Nat→Bool} {F:List Int} (hF:∀k:Nat,(k:Int)∈F→k<szn s.1∧p k=true) {k:Nat} (h:wthn s p F k=true):k<szn s.1∧p k=true:=by
 have h':=dB_iff.1 h
 clear h
 induction h' with
 | base h1=>exact hF _ h1
 | step _ h1 ih =>
  rw [pasts_get ih.1,pastL_mem] at h1
  obtain ⟨b,hb,hkb,h4⟩:=h1
  rw [Int.ofNat_inj.1 hkb]
  rw [show insS s p=insT (steps s) p (szn s.1) from rfl,insT_mem hb] at h4
  exact ⟨hb,h4.1⟩
def lft (s:Sy) (l:List Tm):List Int:=upTo (fun k=>!holdsN s l k) (szn s.1)
theorem lft_mks {s:Sy} {l:List Tm} {k:Nat} (hk:k<szn s.1):mks (lft s l) k=!holdsN s l k:=by
 unfold mks lft;rw [dB_upTo];simp [hk]
def acOk (s:Sy) (weak strong:List Int) (l:List Tm):Prop:=valid s∧kf l s.1.length=2∧lset weak (s.2.length:Int)∧lset strong (s.2.length:Int)
theorem acOk.fair {s:Sy} {weak strong:List Int} {l:List Tm} (h:acOk s weak strong l):fairOk s weak strong (lft s l) :=
 ⟨⟨h.1,by rw [←(szn_eq h.1).1];exact upTo_lset (Nat.le_refl _)⟩,h.2.2⟩
theorem lft_len {s:Sy} {l:List Tm} (h:valid s):(lft s l).length≤400:=upTo_few h
noncomputable def acW (s:Sy) (weak strong:List Int) (l:List Tm) (k:Nat):Bool:=wthn s (mks (lft s l)) (cors s weak strong (lft s l)).flatten k
noncomputable def acV (s:Sy) (weak strong:List Int) (l:List Tm):Bool:=dB (acOk s weak strong l∧¬acW s weak strong l (num s.1 (fst0 s.1)).toNat=true)
theorem acW_sub {s:Sy} {weak strong:List Int} {l:List Tm} {k:Nat} (h:acW s weak strong l k=true):k<szn s.1∧holdsN s l k=false:=by
 have h1:=wthn_sub (fun k hk=>by
  obtain ⟨a,h2,h3,h4⟩:=cor_mem (crs_of (s:=s) (weak:=weak) (strong:=strong) (f:=szn s.1+1) (p:=mks (lft s l))) hk
  rw [Int.ofNat_inj.1 h2];exact ⟨h3,h4⟩) h
 exact ⟨h1.1,by have:=h1.2;rw [lft_mks h1.1] at this;simpa using this⟩
theorem C_spec_AlwaysComes (s:Sy) (weak strong:List Int) (l:List Tm) (hs:FewSy s) (hwl:weak.length≤1048576) (hsl:strong.length≤1048576) (hf:Few l) (Q:List AV→Prop) :
  mc.C f_spec_AlwaysComes [⟨L V3,s.1⟩,⟨L TR,s.2⟩,⟨L I,weak⟩,⟨L I,strong⟩,⟨L T4,l⟩] Q=Q [⟨B,acV s weak strong l⟩]:=by
 refine Mc.Ends.c (mc.ends F_spec_AlwaysComes ?_)
 by_cases h1:valid s∧lset weak (s.2.length:Int)∧lset strong (s.2.length:Int)
 ·have hv:=h1.1
  have hz:=szn_eq hv
  by_cases h2:kf l s.1.length=2
  ·have hok:acOk s weak strong l:=⟨hv,h2,h1.2⟩
   have hsw:upTo (fun k=>dB ((k:Int)∈upTo (fun _=>true) (szn s.1))&&!dB ((k:Int)∈upTo (holdsN s l) (szn s.1))) 400=lft s l:=by
    rw [without_upTo hz.2.2];unfold lft;exact upTo_congr fun k _=>by simp
   have hfw:=fun Q=>C_spec_FairWithin s weak strong (lft s l) hs hwl hsl (Nat.le_trans (lft_len hv) (by omega)) Q
   have hfe:fwR s weak strong (lft s l)=upTo (acW s weak strong l) (szn s.1):=by unfold fwR;rw [if_pos (dB_t hok.fair)];rfl
   rw [hfe] at hfw
   obtain ⟨m,hm,hmn⟩:=first_n hv
   have hac:acV s weak strong l=!acW s weak strong l m:=by
    unfold acV
    rw [hm,Int.toNat_natCast]
    cases hW:acW s weak strong l m
    ·exact dB_t ⟨hok,by simp⟩
    ·exact dB_f fun g=>g.2 rfl
   have hul:(upTo (acW s weak strong l) (szn s.1)).length≤szn s.1:=upTo_len
   have hdu:dB ((m:Int)∈upTo (acW s weak strong l) (szn s.1))=acW s weak strong l m:=by rw [dB_upTo];simp [hmn]
   have hl1:lset (upTo (fun _=>true) (szn s.1)) 400:=upTo_lset (m:=400) hz.2.2
   have hl2:lset (upTo (holdsN s l) (szn s.1)) 400:=upTo_lset (m:=400) hz.2.2
   rw [hac]
   generalize acW s weak strong l=W at hfw hul hdu
   simp+contextual(maxSteps:=1000000)(disch:=omega)only[↓Sd,↓So,↓Sk,↓den,↓denA,Sa,Sb,Sc,Se,O1.d,O2.d,O3.d,cmI,arI,envOf,putN,↓reduceIte,Nat.reduceLT,Nat.reduceSub,Nat.reduceAdd,Int.reduceAdd,Int.reduceEq,Int.reduceLT,Int.reduceLE,arr_pos,arr_neg,tr_spec_AlwaysComes,C_spec_l23Asked s weak strong hs hwl hsl,decide_eq_true h1,Bool.not_true,C_spec_l2Is l s.1.length 2 hf (by omega),decide_eq_true h2,C_spec_SizeOf s hs,if_pos hv,←hz.1,C_spec_l14Range (szn s.1) (by omega),C_spec_StatesWhere s l hs hf hv h2,
    C_spec_SetWithout (upTo (fun _=>true) (szn s.1)) (upTo (holdsN s l) (szn s.1)) hl1 hl2,hsw,hfw,C_spec_FirstState s hs hv,C_spec_l4Number s _ hv.1.2 hv.2.2.1 (fst0_in hv.2.2.1),hm,C_spec_l2Has _ _ (show (upTo W (szn s.1)).length≤1048576 by omega),hdu]
  ·have hac:acV s weak strong l=false:=dB_f fun g=>h2 g.1.2.1
   rw [hac]
   simp+contextual(maxSteps:=1000000)(disch:=omega)only[↓Sd,↓So,↓Sk,↓den,↓denA,Sa,Sb,Sc,Se,O1.d,O2.d,O3.d,cmI,arI,envOf,putN,↓reduceIte,Nat.reduceLT,Nat.reduceSub,Nat.reduceAdd,Int.reduceAdd,Int.reduceEq,Int.reduceLT,Int.reduceLE,arr_pos,arr_neg,tr_spec_AlwaysComes,C_spec_l23Asked s weak strong hs hwl hsl,decide_eq_true h1,Bool.not_true,C_spec_l2Is l s.1.length 2 hf (by omega),decide_eq_false h2,Bool.not_false]
 ·have hac:acV s weak strong l=false:=dB_f fun g=>h1 ⟨g.1.1,g.1.2.2⟩
  rw [hac]
  simp+contextual(maxSteps:=1000000)(disch:=omega)only[↓Sd,↓So,↓Sk,↓den,↓denA,Sa,Sb,Sc,Se,O1.d,O2.d,O3.d,cmI,arI,envOf,putN,↓reduceIte,Nat.reduceLT,Nat.reduceSub,Nat.reduceAdd,Int.reduceAdd,Int.reduceEq,Int.reduceLT,Int.reduceLE,arr_pos,arr_neg,tr_spec_AlwaysComes,C_spec_l23Asked s weak strong hs hwl hsl,decide_eq_false h1,Bool.not_false]
theorem C_impl_AlwaysComes (s:Sy) (weak strong:List Int) (l:List Tm) (hs:FewSy s) (hwl:weak.length≤1048576) (hsl:strong.length≤1048576) (hf:Few l) (Q:List AV→Prop) :
  mc.C f_impl_AlwaysComes [⟨L V3,s.1⟩,⟨L TR,s.2⟩,⟨L I,weak⟩,⟨L I,strong⟩,⟨L T4,l⟩] Q=Q [⟨B,acV s weak strong l⟩]:=by
 have hR:s.2.length≤1048576:=hs.2.1
 have hro:∀(x:List Int) (hx:x.length≤1048576) (Q:List AV→Prop),mc.C f_impl_rulesOk [⟨L V3,s.1⟩,⟨L TR,s.2⟩,⟨L I,x⟩] Q=Q [⟨B,decide (lset x (s.2.length:Int))⟩]:=by
  intro x hx Q
  refine Mc.Ends.c (mc.ends F_impl_rulesOk ?_)
  simp+contextual(maxSteps:=1000000)(disch:=omega)only[↓Sd,↓So,↓Sk,↓den,↓denA,Sa,Sb,Sc,Se,O1.d,O2.d,O3.d,cmI,arI,envOf,putN,↓reduceIte,Nat.reduceLT,Nat.reduceSub,Nat.reduceAdd,Int.reduceAdd,Int.reduceEq,Int.reduceLT,Int.reduceLE,arr_pos,arr_neg,tr_impl_rulesOk,C_impl_setOk x (s.2.length:Int) (by omega) hx]
 refine Mc.Ends.c (mc.ends F_impl_AlwaysComes ?_)
 by_cases h0:valid s∧kf l s.1.length=2
 ·have hv:=h0.1
  have hz:=szn_eq hv
  by_cases h1:lset weak (s.2.length:Int)
  ·by_cases h2:lset strong (s.2.length:Int)
   ·have hok:acOk s weak strong l:=⟨hv,h0.2,h1,h2⟩
    obtain ⟨m,hm,hmn⟩:=first_n hv
    have hac:acV s weak strong l=!acW s weak strong l m:=by
     unfold acV
     rw [hm,Int.toNat_natCast]
     cases hW:acW s weak strong l m
     ·exact dB_t ⟨hok,by simp⟩
     ·exact dB_f fun g=>g.2 rfl
    rw [hac]
    simp+contextual(maxSteps:=1000000)(disch:=omega)only[↓Sd,↓So,↓Sk,↓den,↓denA,Sa,Sb,Sc,Se,O1.d,O2.d,O3.d,cmI,arI,envOf,putN,↓reduceIte,Nat.reduceLT,Nat.reduceSub,Nat.reduceAdd,Int.reduceAdd,Int.reduceEq,Int.reduceLT,Int.reduceLE,arr_pos,arr_neg,tr_impl_AlwaysComes,C_impl_goodIn s l hs hf h0,Bool.not_true,hro weak hwl,hro strong hsl,decide_eq_true h1,decide_eq_true h2,tab_len]
    refine mc.lp_for (Nat→Bool) (fun i o=>[⟨L I,weak⟩,⟨L I,strong⟩,⟨I,(szn s.1:Int)⟩,⟨I,(i:Int)⟩,⟨L V3,s.1⟩,⟨L TR,s.2⟩,⟨L B,tab o (szn s.1)⟩]) (fun i o=>∀k,k<szn s.1→o k=if k<i then !holdsN s l k else holdsN s l k) (szn s.1) 0 (holdsN s l) _ rfl (Nat.zero_le _) (fun k _=>by simp) ?_ ?_
    ·rintro i o hi ho
     have hoi:o i=holdsN s l i:=by rw [ho i hi,if_neg (Nat.lt_irrefl _)]
     simp+contextual(maxSteps:=1000000)(disch:=omega)only[↓Sd,↓So,↓Sk,↓den,↓denA,Sa,Sb,Sc,Se,O1.d,O2.d,O3.d,cmI,arI,envOf,putN,↓reduceIte,Nat.reduceLT,Nat.reduceSub,Nat.reduceAdd,Int.reduceAdd,Int.reduceEq,Int.reduceLT,Int.reduceLE,arr_pos,arr_neg,tab_len,tab_get hi,tab_set',hoi]
     refine ⟨_,rfl,fun k hk=>?_⟩
     by_cases he:k=i
     ·subst he;rw [if_pos rfl,if_pos (Nat.lt_succ_self _)]
     ·rw [if_neg he,ho k hk]
      by_cases h3:k<i
      ·rw [if_pos h3,if_pos (by omega)]
      ·rw [if_neg h3,if_neg (by omega)]
    ·rintro o ho
     have hoe:tab o (szn s.1)=tab (mks (lft s l)) (szn s.1):=tab_congr fun k hk=>by rw [ho k hk,if_pos hk,lft_mks hk]
     have hmm:mks (lft s l) m=!holdsN s l m:=lft_mks hmn
     have hfr:=hok.fair
     have hFW:=fun Q=>C_impl_fairWithin s hv weak strong hfr.rl.1 hfr.rl.2 hwl hsl (mks (lft s l)) Q
     have hWe:wthn s (mks (lft s l)) (crs s weak strong (szn s.1+1) (mks (lft s l))).flatten=acW s weak strong l:=rfl
     rw [hWe] at hFW
     rw [hoe]
     by_cases hh:holdsN s l m=true
     ·have hW:acW s weak strong l m=false:=by
       cases hW:acW s weak strong l m with
       | false=>rfl
       | true=>have:=(acW_sub hW).2;rw [hh] at this;cases this
      simp+contextual(maxSteps:=1000000)(disch:=omega)only[↓Sd,↓So,↓Sk,↓den,↓denA,Sa,Sb,Sc,Se,O1.d,O2.d,O3.d,cmI,arI,envOf,putN,↓reduceIte,Nat.reduceLT,Nat.reduceSub,Nat.reduceAdd,Int.reduceAdd,Int.reduceEq,Int.reduceLT,Int.reduceLE,arr_pos,arr_neg,tab_len,C_impl_first s hv.1.2,C_impl_number s _ hv.1.2 hv.2.2.1 (fst0_in hv.2.2.1),hm,tab_get hmn,hmm,hh,Bool.not_true,Bool.not_false,hW]
     ·have hh':holdsN s l m=false:=by simpa using hh
      simp+contextual(maxSteps:=1000000)(disch:=omega)only[↓Sd,↓So,↓Sk,↓den,↓denA,Sa,Sb,Sc,Se,O1.d,O2.d,O3.d,cmI,arI,envOf,putN,↓reduceIte,Nat.reduceLT,Nat.reduceSub,Nat.reduceAdd,Int.reduceAdd,Int.reduceEq,Int.reduceLT,Int.reduceLE,arr_pos,arr_neg,tab_len,C_impl_first s hv.1.2,C_impl_number s _ hv.1.2 hv.2.2.1 (fst0_in hv.2.2.1),hm,tab_get hmn,hmm,hh',Bool.not_true,Bool.not_false,C_impl_fairnessOf s hv,hFW]
   ·have hac:acV s weak strong l=false:=dB_f fun g=>h2 g.1.2.2.2
    rw [hac]
    simp+contextual(maxSteps:=1000000)(disch:=omega)only[↓Sd,↓So,↓Sk,↓den,↓denA,Sa,Sb,Sc,Se,O1.d,O2.d,O3.d,cmI,arI,envOf,putN,↓reduceIte,Nat.reduceLT,Nat.reduceSub,Nat.reduceAdd,Int.reduceAdd,Int.reduceEq,Int.reduceLT,Int.reduceLE,arr_pos,arr_neg,tr_impl_AlwaysComes,C_impl_goodIn s l hs hf h0,Bool.not_true,hro weak hwl,hro strong hsl,decide_eq_true h1,decide_eq_false h2,Bool.not_false]
  ·have hac:acV s weak strong l=false:=dB_f fun g=>h1 g.1.2.2.1
   rw [hac]
   simp+contextual(maxSteps:=1000000)(disch:=omega)only[↓Sd,↓So,↓Sk,↓den,↓denA,Sa,Sb,Sc,Se,O1.d,O2.d,O3.d,cmI,arI,envOf,putN,↓reduceIte,Nat.reduceLT,Nat.reduceSub,Nat.reduceAdd,Int.reduceAdd,Int.reduceEq,Int.reduceLT,Int.reduceLE,arr_pos,arr_neg,tr_impl_AlwaysComes,C_impl_goodIn s l hs hf h0,Bool.not_true,hro weak hwl,decide_eq_false h1,Bool.not_false]
 ·have hac:acV s weak strong l=false:=dB_f fun g=>h0 ⟨g.1.1,g.1.2.1⟩
  rw [hac]
  simp+contextual(maxSteps:=1000000)(disch:=omega)only[↓Sd,↓So,↓Sk,↓den,↓denA,Sa,Sb,Sc,Se,O1.d,O2.d,O3.d,cmI,arI,envOf,putN,↓reduceIte,Nat.reduceLT,Nat.reduceSub,Nat.reduceAdd,Int.reduceAdd,Int.reduceEq,Int.reduceLT,Int.reduceLE,arr_pos,arr_neg,tr_impl_AlwaysComes,C_impl_goodIn_no s l hs hf h0,Bool.not_false]
theorem law_FnExactAlwaysComes (s:Sy) (weak strong:List Int) (l:List Tm) (hs:LtSy s) (h1:Lt63 weak) (h2:Lt63 strong) (hl:Lt63 l):mc.C f_laws_FnExactAlwaysComes [⟨L V3,s.1⟩,⟨L TR,s.2⟩,⟨L I,weak⟩,⟨L I,strong⟩,⟨L T4,l⟩] (·=[⟨B,true⟩]):=by
 refine mc.c_of F_laws_FnExactAlwaysComes ?_
 simp+contextual(maxSteps:=1000000)(disch:=omega)only[↓Sd,↓So,↓Sk,↓den,↓denA,Sa,Sb,Sc,Se,O1.d,O2.d,O3.d,cmI,arI,envOf,putN,↓reduceIte,Nat.reduceLT,Nat.reduceSub,Nat.reduceAdd,Int.reduceAdd,Int.reduceEq,Int.reduceLT,Int.reduceLE,arr_pos,arr_neg,tr_laws_FnExactAlwaysComes]
 intro g1 g2
 refine sz_System s _ (by omega) hs fun k h1 h2=>?_
 simp+contextual(maxSteps:=1000000)(disch:=omega)only[↓Sd,↓So,↓Sk,↓den,↓denA,Sa,Sb,Sc,Se,O1.d,O2.d,O3.d,cmI,arI,envOf,putN,↓reduceIte,Nat.reduceLT,Nat.reduceSub,Nat.reduceAdd,Int.reduceAdd,Int.reduceEq,Int.reduceLT,Int.reduceLE,arr_pos,arr_neg,]
 intro h3
 refine sz_TermS l k (by omega) hl fun j h4 h5=>?_
 simp+contextual(maxSteps:=1000000)(disch:=omega)only[↓Sd,↓So,↓Sk,↓den,↓denA,Sa,Sb,Sc,Se,O1.d,O2.d,O3.d,cmI,arI,envOf,putN,↓reduceIte,Nat.reduceLT,Nat.reduceSub,Nat.reduceAdd,Int.reduceAdd,Int.reduceEq,Int.reduceLT,Int.reduceLE,arr_pos,arr_neg,]
 intro h6
 have hs:=h2 (by omega)
 have hf:=h5 (by omega)
 have hf1:Few weak:=by unfold Few;omega
 have hf2:Few strong:=by unfold Few;omega
 simp+contextual(maxSteps:=1000000)(disch:=omega)only[↓Sd,↓So,↓Sk,↓den,↓denA,Sa,Sb,Sc,Se,O1.d,O2.d,O3.d,cmI,arI,envOf,putN,↓reduceIte,Nat.reduceLT,Nat.reduceSub,Nat.reduceAdd,Int.reduceAdd,Int.reduceEq,Int.reduceLT,Int.reduceLE,arr_pos,arr_neg,to_System s hs,to_IntS weak hf1,to_IntS strong hf2,to_TermS l hf,C_spec_AlwaysComes s weak strong l hs hf1 hf2 hf,C_impl_AlwaysComes s weak strong l hs hf1 hf2 hf,eq_System s hs,eq_IntS weak hf1,eq_IntS strong hf2,eq_TermS l hf]
end Go.Proofs.YtknlennollmgeaaGreat
