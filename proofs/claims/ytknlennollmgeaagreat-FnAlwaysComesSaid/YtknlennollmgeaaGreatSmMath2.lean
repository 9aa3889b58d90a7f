/- What the trees come to: plain mathematics; no condition. -/
import Derived.Test.YtknlennollmgeaaGreatSmMath1
namespace Go.Proofs.YtknlennollmgeaaGreat
open Go Go.Sm Go.Sm.Q
set_option linter.unusedSimpArgs false
set_option linter.unusedVariables false
theorem Zl6 (s:Sy) (hs:ZI s) (h:valid s) (p:Nat→Bool) (k:Nat) (hk:k<s.2.length) {Q:List AV→Prop} (hQ:∀x:Int,(0≤x↔ZX s k p=true)→Q [⟨I,x⟩]) :
  mc.C ZbF [⟨L V3,s.1⟩,⟨L TR,s.2⟩,⟨L I,ZN p (szn s.1)⟩,⟨I,(k:Int)⟩] Q:=by
 have hz:=ZM h
 have hl:(ZN p (szn s.1)).length≤szn s.1:=ZO
 refine mc.c_of Zfx ?_
 simp+contextual(maxSteps:=1000000)(disch:=omega)only[↓Sd,↓So,↓Sk,↓den,↓Z0,Sa,Sb,Sc,Se,O1.d,O2.d,O3.d,cmI,arI,Z1,Z2,↓reduceIte,Nat.reduceLT,Nat.reduceSub,Nat.reduceAdd,Int.reduceAdd,Int.reduceEq,Int.reduceLT,Int.reduceLE,ZD,ZE,ZdC]
 have hmem:∀x:Int,x∈ZN p (szn s.1)↔∃a,a<szn s.1∧x=(a:Int)∧p a=true:=fun x=>ZP
 generalize hset:ZN p (szn s.1)=l at hl hmem
 refine mc.lp_for Unit (fun j _=>[⟨L I,l⟩,⟨I,(k:Int)⟩,⟨I,(j:Int)⟩,⟨L V3,s.1⟩,⟨L TR,s.2⟩]) (fun j _=>∀x∈l.take j,¬rtg s k x.toNat∈l) l.length 0 () _ rfl (Nat.zero_le _) (fun x hx=>by simp at hx) ?_ ?_
 ·rintro j _ hj hI
  obtain ⟨a,h1,h2,h3⟩:=(hmem _).1 (ZH (d:=0) hj)
  by_cases ht:rtg s k a∈l
  ·simp+contextual(maxSteps:=1000000)(disch:=omega)only[↓Sd,↓So,↓Sk,↓den,↓Z0,Sa,Sb,Sc,Se,O1.d,O2.d,O3.d,cmI,arI,Z1,Z2,↓reduceIte,Nat.reduceLT,Nat.reduceSub,Nat.reduceAdd,Int.reduceAdd,Int.reduceEq,Int.reduceLT,Int.reduceLE,ZD,ZE,h2,Zl5 s hs h a k h1 hk,ZjD l _ (by omega),ZQ ht]
   refine hQ _ ⟨fun _=>?_,fun _=>Int.natCast_nonneg _⟩
   obtain ⟨b,g1,g2,g3⟩:=(hmem _).1 ht
   exact ZQ ⟨a,h1,h3,b,g2,g3⟩
  ·simp+contextual(maxSteps:=1000000)(disch:=omega)only[↓Sd,↓So,↓Sk,↓den,↓Z0,Sa,Sb,Sc,Se,O1.d,O2.d,O3.d,cmI,arI,Z1,Z2,↓reduceIte,Nat.reduceLT,Nat.reduceSub,Nat.reduceAdd,Int.reduceAdd,Int.reduceEq,Int.reduceLT,Int.reduceLE,ZD,ZE,h2,Zl5 s hs h a k h1 hk,ZjD l _ (by omega),ZR ht]
   intro x hx
   rcases (ZU hj).1 hx with h4 | h4
   ·exact hI x h4
   ·rw [h4,h2];exact ht
 ·rintro _ hI
  rw [List.take_length] at hI
  simp+contextual(maxSteps:=1000000)(disch:=omega)only[↓Sd,↓So,↓Sk,↓den,↓Z0,Sa,Sb,Sc,Se,O1.d,O2.d,O3.d,cmI,arI,Z1,Z2,↓reduceIte,Nat.reduceLT,Nat.reduceSub,Nat.reduceAdd,Int.reduceAdd,Int.reduceEq,Int.reduceLT,Int.reduceLE,ZD,ZE,]
  refine hQ _ ⟨fun h=>absurd h (by omega),fun h=>?_⟩
  obtain ⟨a,h1,h2,b,h3,h4⟩:=ZiV.1 h
  have hb:=ZkZ ‹valid s› (k:=k) (a:=a)
  exact absurd ((hmem _).2 ⟨b,by omega,h3,h4⟩) (hI (a:Int) ((hmem _).2 ⟨a,h1,rfl,h2⟩))
noncomputable def ZY (s:Sy) (p:Nat→Bool):List (List Int):=ZW (steps s) p (szn s.1)
noncomputable def isP (s:Sy) (p:Nat→Bool) (m a:Nat):Bool:=p a&&dB (cmp (ZY s p) (szn s.1) a=(m:Int))
noncomputable def isR (s:Sy) (p:Nat→Bool) (m:Nat):Bool:=dB (cmp (ZY s p) (szn s.1) m=(m:Int)∧(1<(ZN (isP s p m) (szn s.1)).length∨(m:Int)∈(steps s).getD m []∨(steps s).getD m []=[]))
noncomputable def Zl7 (s:Sy) (p:Nat→Bool) (l:List Int):List (List Int):=(l.filter fun x=>isR s p x.toNat).map fun x=>ZN (isP s p x.toNat) (szn s.1)
noncomputable def Zl8 (s:Sy) (weak:List Int) (q:Nat→Bool):Bool:=dB (∃k:Nat,(k:Int)∈weak∧(∀a,a<szn s.1→q a=true→rub s k a=true)∧ZX s k q=false)
noncomputable def ZZ (s:Sy) (strong:List Int) (q:Nat→Bool) (a:Nat):Bool:=q a&&!dB (∃k:Nat,(k:Int)∈strong∧ZX s k q=false∧rub s k a=true)
theorem Zl9 {l:List Int} {i:Nat} (h:i<l.length) (f:Int→Bool):(l.take (i+1)).filter f=(l.take i).filter f++if f (l.getD i 0)=true then [l.getD i 0] else []:=by
 rw [←ZhY (d:=0) h,List.filter_append]
 congr 1
 simp [List.filter_cons]
def Zla (s:Sy) (l:List Int):Prop:=∀x∈l,0≤x∧x<(s.2.length:Int)
theorem Zlb (s:Sy) (h:valid s) (p:Nat→Bool) (Q:List AV→Prop):mc.C ZbD [⟨L V3,s.1⟩,⟨L TR,s.2⟩,⟨L (L I),steps s⟩,⟨L I,ZN p (szn s.1)⟩] Q=Q [⟨L (L I),Zl7 s p (ZN p (szn s.1))⟩]:=by
 have hz:=ZM h
 have ht:=Zjw h
 have hTl:=ht.1.1
 have hn:=ht.2.1
 have hrow:=ht.2.2
 obtain ⟨n,hnz⟩:∃n,szn s.1=n:=⟨_,rfl⟩
 obtain ⟨T,hT⟩:∃T,steps s=T:=⟨_,rfl⟩
 have hU:ZY s p=ZW T p n:=by unfold ZY;rw [hT,hnz]
 have hP:∀m,isP s p m=fun a=>p a&&dB (cmp (ZW T p n) n a=(m:Int)):=fun m=>by funext a;unfold isP;rw [hU,hnz]
 have hR:∀m,isR s p m=dB (cmp (ZW T p n) n m=(m:Int)∧(1<(ZN (isP s p m) n).length∨(m:Int)∈T.getD m []∨T.getD m []=[])):=fun m=>by unfold isR;rw [hU,hnz,hT]
 have hpr:∀l,Zl7 s p l=(l.filter fun x=>isR s p x.toNat).map fun x=>ZN (isP s p x.toNat) n:=fun l=>by unfold Zl7;rw [hnz]
 rw [hnz] at hz
 rw [hpr,hnz,hT]
 rw [hT] at hTl hrow ht
 rw [hnz] at ht hTl hn
 have hu8:=ZkU (p:=p) ht
 have hsl:(ZN p n).length≤n:=ZO
 have hsm:∀i,i<(ZN p n).length→∃a,a<n∧(ZN p n).getD i 0=(a:Int)∧p a=true:=fun i hi=>ZP.1 (ZH (d:=0) hi)
 refine Mc.Ends.c (mc.ends Zfv ?_)
 simp+contextual(maxSteps:=1000000)(disch:=omega)only[↓Sd,↓So,↓Sk,↓den,↓Z0,Sa,Sb,Sc,Se,O1.d,O2.d,O3.d,cmI,arI,Z1,Z2,↓reduceIte,Nat.reduceLT,Nat.reduceSub,Nat.reduceAdd,Int.reduceAdd,Int.reduceEq,Int.reduceLT,Int.reduceLE,ZD,ZE,ZdA,hTl,Zj4 (ZN p n) n (by omega) (by omega) (fun x hx=>by obtain ⟨a,h1,rfl,_⟩:=ZP.1 hx;omega),ZjM]
 generalize hset:ZN p n=l at hsl hsm
 refine mc.lp_for (List (List Int)) (fun i o=>[⟨L (L I),T⟩,⟨L I,l⟩,⟨I,(i:Int)⟩,⟨L (L I),o⟩,⟨L B,tab p n⟩]) (fun i o=>o=tab (fun k=>if p k=true then (T.getD k []).filter (fun x=>p x.toNat) else []) i) n 0 [] _ rfl (Nat.zero_le _) rfl ?_ ?_
 ·rintro i o hi rfl
  have hol:(tab (fun k=>if p k=true then (T.getD k []).filter (fun x=>p x.toNat) else []) i).length=i:=ZK
  obtain ⟨row,hr⟩:∃row,T.getD i []=row:=⟨_,rfl⟩
  have hrl:row.length≤8:=by rw [←hr];exact hrow _ (ZH (by omega))
  have hri:=fun j (hj:j<row.length)=>ht.1.row (i:=i) _ (by rw [hr];exact ZH (d:=0) hj)
  generalize hoo:tab (fun k=>if p k=true then (T.getD k []).filter (fun x=>p x.toNat) else []) i=oo at hol
  by_cases hp:p i=true
  ·have hnew:oo++[row.filter fun x=>p x.toNat]=tab (fun k=>if p k=true then (T.getD k []).filter (fun x=>p x.toNat) else []) (i+1):=by
    rw [←ZiE,hoo,if_pos hp,hr]
   simp+contextual(maxSteps:=1000000)(disch:=omega)only[↓Sd,↓So,↓Sk,↓den,↓Z0,Sa,Sb,Sc,Se,O1.d,O2.d,O3.d,cmI,arI,Z1,Z2,↓reduceIte,Nat.reduceLT,Nat.reduceSub,Nat.reduceAdd,Int.reduceAdd,Int.reduceEq,Int.reduceLT,Int.reduceLE,ZD,ZE,↓ZF,hTl]
   refine mc.lp_for (List Int) (fun j o=>[⟨L (L I),T⟩,⟨L I,l⟩,⟨I,(i:Int)⟩,⟨I,(j:Int)⟩,⟨L (L I),oo⟩,⟨L B,tab p n⟩,⟨L I,o⟩]) (fun j o=>o=(row.take j).filter fun x=>p x.toNat) row.length 0 [] _ rfl (Nat.zero_le _) rfl ?_ ?_
   ·rintro j o hj rfl
    have hm:=hri j hj
    obtain ⟨m,hm2⟩:∃m:Nat,row.getD j 0=(m:Int):=⟨_,(Int.toNat_of_nonneg hm.1).symm⟩
    rw [hm2] at hm
    have hmn:m<n:=Int.ofNat_lt.1 hm.2
    have hfl:((row.take j).filter fun x=>p x.toNat).length≤8:=Nat.le_trans (List.length_filter_le ..) (by rw [List.length_take];omega)
    have hnx:=Zl9 hj (fun x=>p x.toNat)
    rw [hm2] at hnx
    by_cases hpm:p m=true
    ·simp+contextual(maxSteps:=1000000)(disch:=omega)only[↓Sd,↓So,↓Sk,↓den,↓Z0,Sa,Sb,Sc,Se,O1.d,O2.d,O3.d,cmI,arI,Z1,Z2,↓reduceIte,Nat.reduceLT,Nat.reduceSub,Nat.reduceAdd,Int.reduceAdd,Int.reduceEq,Int.reduceLT,Int.reduceLE,ZD,ZE,↓ZF,hTl,hr,ZK,ZL hi,hp,hm2,ZL hmn,hpm]
     rw [hnx];simp [hpm]
    ·simp+contextual(maxSteps:=1000000)(disch:=omega)only[↓Sd,↓So,↓Sk,↓den,↓Z0,Sa,Sb,Sc,Se,O1.d,O2.d,O3.d,cmI,arI,Z1,Z2,↓reduceIte,Nat.reduceLT,Nat.reduceSub,Nat.reduceAdd,Int.reduceAdd,Int.reduceEq,Int.reduceLT,Int.reduceLE,ZD,ZE,↓ZF,hTl,hr,ZK,ZL hi,hp,hm2,ZL hmn,hpm]
     rw [hnx];simp [hpm]
   ·rintro o rfl
    rw [List.take_length]
    have hfl:(row.filter fun x=>p x.toNat).length≤8:=Nat.le_trans (List.length_filter_le ..) hrl
    simp+contextual(maxSteps:=1000000)(disch:=omega)only[↓Sd,↓So,↓Sk,↓den,↓Z0,Sa,Sb,Sc,Se,O1.d,O2.d,O3.d,cmI,arI,Z1,Z2,↓reduceIte,Nat.reduceLT,Nat.reduceSub,Nat.reduceAdd,Int.reduceAdd,Int.reduceEq,Int.reduceLT,Int.reduceLE,ZD,ZE,↓ZF,hTl,hr,hol]
    exact hnew
  ·have hnew:oo++[[]]=tab (fun k=>if p k=true then (T.getD k []).filter (fun x=>p x.toNat) else []) (i+1):=by
    rw [←ZiE,hoo,if_neg hp]
   simp+contextual(maxSteps:=1000000)(disch:=omega)only[↓Sd,↓So,↓Sk,↓den,↓Z0,Sa,Sb,Sc,Se,O1.d,O2.d,O3.d,cmI,arI,Z1,Z2,↓reduceIte,Nat.reduceLT,Nat.reduceSub,Nat.reduceAdd,Int.reduceAdd,Int.reduceEq,Int.reduceLT,Int.reduceLE,ZD,ZE,↓ZF,hTl]
   refine mc.lp_step ?_
   simp+contextual(maxSteps:=1000000)(disch:=omega)only[↓Sd,↓So,↓Sk,↓den,↓Z0,Sa,Sb,Sc,Se,O1.d,O2.d,O3.d,cmI,arI,Z1,Z2,↓reduceIte,Nat.reduceLT,Nat.reduceSub,Nat.reduceAdd,Int.reduceAdd,Int.reduceEq,Int.reduceLT,Int.reduceLE,ZD,ZE,↓ZF,hTl,hr,ZK,ZL hi,hp,hol]
   exact ⟨fun _=>hnew,fun _=>hnew⟩
 ·rintro o rfl
  have hins:tab (fun k=>if p k=true then (T.getD k []).filter (fun x=>p x.toNat) else []) n=ZW T p n:=rfl
  simp+contextual(maxSteps:=1000000)(disch:=omega)only[↓Sd,↓So,↓Sk,↓den,↓Z0,Sa,Sb,Sc,Se,O1.d,O2.d,O3.d,cmI,arI,Z1,Z2,↓reduceIte,Nat.reduceLT,Nat.reduceSub,Nat.reduceAdd,Int.reduceAdd,Int.reduceEq,Int.reduceLT,Int.reduceLE,ZD,ZE,hTl,hins,Zk9 (ZW T p n) n hu8]
  refine mc.lp_for (List (List Int)) (fun i o=>[⟨L (L I),T⟩,⟨L I,l⟩,⟨I,(i:Int)⟩,⟨L (L I),ZW T p n⟩,⟨L I,tab (cmp (ZW T p n) n) n⟩,⟨L (L I),o⟩])
   (fun i o=>o=((l.take i).filter fun x=>isR s p x.toNat).map fun x=>ZN (isP s p x.toNat) n) l.length 0 [] _ rfl (Nat.zero_le _) rfl ?_ ?_
  ·rintro i o hi rfl
   obtain ⟨m,hmn,hm,hpm⟩:=hsm i hi
   have hol:(((l.take i).filter fun x=>isR s p x.toNat).map fun x=>ZN (isP s p x.toNat) n).length≤n:=by
    rw [List.length_map];exact Nat.le_trans (List.length_filter_le ..) (by rw [List.length_take];omega)
   have hnx:((l.take (i+1)).filter fun x=>isR s p x.toNat).map (fun x=>ZN (isP s p x.toNat) n)=((l.take i).filter fun x=>isR s p x.toNat).map (fun x=>ZN (isP s p x.toNat) n)++if isR s p m=true then [ZN (isP s p m) n] else []:=by
    rw [Zl9 hi (fun x=>isR s p x.toNat),hm,List.map_append]
    congr 1
    simp only [Int.toNat_natCast]
    split<;>simp
   generalize hoo:((l.take i).filter fun x=>isR s p x.toNat).map (fun x=>ZN (isP s p x.toNat) n)=oo at hol hnx
   by_cases hc:cmp (ZW T p n) n m=(m:Int)
   ·simp+contextual(maxSteps:=1000000)(disch:=omega)only[↓Sd,↓So,↓Sk,↓den,↓Z0,Sa,Sb,Sc,Se,O1.d,O2.d,O3.d,cmI,arI,Z1,Z2,↓reduceIte,Nat.reduceLT,Nat.reduceSub,Nat.reduceAdd,Int.reduceAdd,Int.reduceEq,Int.reduceLT,Int.reduceLE,ZD,ZE,↓ZF,hm,ZK,ZL hmn,hc]
    refine mc.lp_for (List Int) (fun j o=>[⟨L (L I),T⟩,⟨L I,l⟩,⟨I,(i:Int)⟩,⟨I,(j:Int)⟩,⟨L (L I),ZW T p n⟩,⟨L I,tab (cmp (ZW T p n) n) n⟩,⟨L (L I),oo⟩,⟨L I,o⟩]) (fun j o=>o=(l.take j).filter fun x=>dB (cmp (ZW T p n) n x.toNat=(m:Int))) l.length 0 [] _ rfl (Nat.zero_le _) rfl ?_ ?_
    ·rintro j o hj rfl
     obtain ⟨b,hbn,hb,hpb⟩:=hsm j hj
     have hfl:((l.take j).filter fun x=>dB (cmp (ZW T p n) n x.toNat=(m:Int))).length≤n:=Nat.le_trans (List.length_filter_le ..) (by rw [List.length_take];omega)
     have hnx2:=Zl9 hj (fun x=>dB (cmp (ZW T p n) n x.toNat=(m:Int)))
     rw [hb] at hnx2
     simp only [Int.toNat_natCast] at hnx2
     by_cases hcb:cmp (ZW T p n) n b=(m:Int)
     ·simp+contextual(maxSteps:=1000000)(disch:=omega)only[↓Sd,↓So,↓Sk,↓den,↓Z0,Sa,Sb,Sc,Se,O1.d,O2.d,O3.d,cmI,arI,Z1,Z2,↓reduceIte,Nat.reduceLT,Nat.reduceSub,Nat.reduceAdd,Int.reduceAdd,Int.reduceEq,Int.reduceLT,Int.reduceLE,ZD,ZE,↓ZF,hm,hb,ZK,ZL hmn,ZL hbn,hcb]
      rw [hnx2,if_pos (ZQ hcb)]
     ·simp+contextual(maxSteps:=1000000)(disch:=omega)only[↓Sd,↓So,↓Sk,↓den,↓Z0,Sa,Sb,Sc,Se,O1.d,O2.d,O3.d,cmI,arI,Z1,Z2,↓reduceIte,Nat.reduceLT,Nat.reduceSub,Nat.reduceAdd,Int.reduceAdd,Int.reduceEq,Int.reduceLT,Int.reduceLE,ZD,ZE,↓ZF,hm,hb,ZK,ZL hmn,ZL hbn,hcb]
      rw [hnx2,if_neg (by rw [ZR hcb];simp)];simp
    ·rintro o rfl
     have hPm:(l.filter fun x=>dB (cmp (ZW T p n) n x.toNat=(m:Int)))=ZN (isP s p m) n:=by
      rw [←hset,hP];exact ZkK (q:=fun k=>dB (cmp (ZW T p n) n k=(m:Int)))
     rw [List.take_length,hPm]
     have hpl:(ZN (isP s p m) n).length≤n:=ZO
     have hUm:(m:Int)∈(ZW T p n).getD m []↔(m:Int)∈T.getD m []:=by rw [ZkT hmn];simp [hpm]
     have hUl:((ZW T p n).getD m []).length≤8:=hu8.2.2 _ (ZH (by rw [hu8.1.1];exact hmn))
     have hins2:(ZW T p n).length=n:=ZK
     by_cases h1:1<(ZN (isP s p m) n).length
     ·have hr1:isR s p m=true:=by rw [hR];exact ZQ ⟨hc,.inl h1⟩
      rw [if_pos hr1] at hnx
      simp+contextual(maxSteps:=1000000)(disch:=omega)only[↓Sd,↓So,↓Sk,↓den,↓Z0,Sa,Sb,Sc,Se,O1.d,O2.d,O3.d,cmI,arI,Z1,Z2,↓reduceIte,Nat.reduceLT,Nat.reduceSub,Nat.reduceAdd,Int.reduceAdd,Int.reduceEq,Int.reduceLT,Int.reduceLE,ZD,ZE,↓ZF,hm]
      exact hnx.symm
     ·by_cases h2:(m:Int)∈T.getD m []
      ·have hr1:isR s p m=true:=by rw [hR];exact ZQ ⟨hc,.inr (.inl h2)⟩
       rw [if_pos hr1] at hnx
       simp+contextual(maxSteps:=1000000)(disch:=omega)only[↓Sd,↓So,↓Sk,↓den,↓Z0,Sa,Sb,Sc,Se,O1.d,O2.d,O3.d,cmI,arI,Z1,Z2,↓reduceIte,Nat.reduceLT,Nat.reduceSub,Nat.reduceAdd,Int.reduceAdd,Int.reduceEq,Int.reduceLT,Int.reduceLE,ZD,ZE,↓ZF,hm,hins2,ZjD _ _ (show ((ZW T p n).getD m []).length≤1048576 by omega),ZQ (hUm.2 h2)]
       exact hnx.symm
      ·by_cases h3:T.getD m []=[]
       ·have hr1:isR s p m=true:=by rw [hR];exact ZQ ⟨hc,.inr (.inr h3)⟩
        rw [if_pos hr1] at hnx
        simp+contextual(maxSteps:=1000000)(disch:=omega)only[↓Sd,↓So,↓Sk,↓den,↓Z0,Sa,Sb,Sc,Se,O1.d,O2.d,O3.d,cmI,arI,Z1,Z2,↓reduceIte,Nat.reduceLT,Nat.reduceSub,Nat.reduceAdd,Int.reduceAdd,Int.reduceEq,Int.reduceLT,Int.reduceLE,ZD,ZE,↓ZF,hm,hins2,ZjD _ _ (show ((ZW T p n).getD m []).length≤1048576 by omega),ZR (fun h=>h2 (hUm.1 h)),hTl,h3,List.length_nil]
        exact hnx.symm
       ·have hr1:¬isR s p m=true:=by
         rw [hR,ZR]
         ·simp
         ·rintro ⟨-,g | g | g⟩
          ·exact h1 g
          ·exact h2 g
          ·exact h3 g
        rw [if_neg hr1,List.append_nil] at hnx
        have h4:=List.length_pos_iff.2 h3
        simp+contextual(maxSteps:=1000000)(disch:=omega)only[↓Sd,↓So,↓Sk,↓den,↓Z0,Sa,Sb,Sc,Se,O1.d,O2.d,O3.d,cmI,arI,Z1,Z2,↓reduceIte,Nat.reduceLT,Nat.reduceSub,Nat.reduceAdd,Int.reduceAdd,Int.reduceEq,Int.reduceLT,Int.reduceLE,ZD,ZE,↓ZF,hm,hins2,ZjD _ _ (show ((ZW T p n).getD m []).length≤1048576 by omega),ZR (fun h=>h2 (hUm.1 h)),hTl]
        exact hnx.symm
   ·have hr1:¬isR s p m=true:=by
     rw [hR,ZR]
     ·simp
     ·exact fun g=>hc g.1
    rw [if_neg hr1,List.append_nil] at hnx
    simp+contextual(maxSteps:=1000000)(disch:=omega)only[↓Sd,↓So,↓Sk,↓den,↓Z0,Sa,Sb,Sc,Se,O1.d,O2.d,O3.d,cmI,arI,Z1,Z2,↓reduceIte,Nat.reduceLT,Nat.reduceSub,Nat.reduceAdd,Int.reduceAdd,Int.reduceEq,Int.reduceLT,Int.reduceLE,ZD,ZE,↓ZF,hm,ZK,ZL hmn,hc]
    exact hnx.symm
  ·rintro o rfl
   rw [List.take_length]
   simp+contextual(maxSteps:=1000000)(disch:=omega)only[↓Sd,↓So,↓Sk,↓den,↓Z0,Sa,Sb,Sc,Se,O1.d,O2.d,O3.d,cmI,arI,Z1,Z2,↓reduceIte,Nat.reduceLT,Nat.reduceSub,Nat.reduceAdd,Int.reduceAdd,Int.reduceEq,Int.reduceLT,Int.reduceLE,ZD,ZE,]
theorem Zlc (s:Sy) (hs:ZI s) (h:valid s) (strong:List Int) (hst:Zla s strong) (hsl:strong.length≤1048576) (q:Nat→Bool) (Q:List AV→Prop) :
  mc.C ZbG [⟨L V3,s.1⟩,⟨L TR,s.2⟩,⟨L (L B),tab (fun k=>tab (rub s k) (szn s.1)) s.2.length⟩,⟨L I,strong⟩,⟨L I,ZN q (szn s.1)⟩] Q=Q [⟨L I,ZN (ZZ s strong q) (szn s.1)⟩]:=by
 have hz:=ZM h
 have hql:(ZN q (szn s.1)).length≤szn s.1:=ZO
 refine Mc.Ends.c (mc.ends Zfy ?_)
 simp+contextual(maxSteps:=1000000)(disch:=omega)only[↓Sd,↓So,↓Sk,↓den,↓Z0,Sa,Sb,Sc,Se,O1.d,O2.d,O3.d,cmI,arI,Z1,Z2,↓reduceIte,Nat.reduceLT,Nat.reduceSub,Nat.reduceAdd,Int.reduceAdd,Int.reduceEq,Int.reduceLT,Int.reduceLE,ZD,ZE,ZdD]
 refine mc.lp_for (List Int) (fun i o=>[⟨L (L B),tab (fun k=>tab (rub s k) (szn s.1)) s.2.length⟩,⟨L I,strong⟩,⟨L I,ZN q (szn s.1)⟩,⟨L I,o⟩,⟨I,(i:Int)⟩,⟨L V3,s.1⟩,⟨L TR,s.2⟩]) (fun i o=>o=ZN (ZZ s (strong.take i) q) (szn s.1)) strong.length 0 (ZN q (szn s.1)) _ rfl (Nat.zero_le _) ?_ ?_ ?_
 ·refine ZiT fun a ha=>?_
  unfold ZZ
  rw [ZR]
  ·simp
  ·rintro ⟨k,h1,-⟩;simp at h1
 ·rintro i o hi rfl
  have hk:=hst _ (ZH (d:=0) hi)
  obtain ⟨k,hk2⟩:∃k:Nat,strong.getD i 0=(k:Int):=⟨_,(Int.toNat_of_nonneg hk.1).symm⟩
  rw [hk2] at hk
  have hkR:k<s.2.length:=Int.ofNat_lt.1 hk.2
  have hnext:∀a,ZZ s (strong.take (i+1)) q a=(ZZ s (strong.take i) q a&&!(!ZX s k q&&rub s k a)):=by
   intro a
   unfold ZZ
   rw [Bool.and_assoc]
   congr 1
   by_cases h1:∃k:Nat,(k:Int)∈strong.take i∧ZX s k q=false∧rub s k a=true
   ·obtain ⟨j,j1,j2⟩:=h1
    rw [ZQ (show ∃k:Nat,(k:Int)∈strong.take i∧ZX s k q=false∧rub s k a=true from ⟨j,j1,j2⟩),ZQ (show ∃k:Nat,(k:Int)∈strong.take (i+1)∧ZX s k q=false∧rub s k a=true from ⟨j,(ZU hi).2 (.inl j1),j2⟩)];rfl
   ·rw [ZR h1]
    by_cases h2:ZX s k q=false∧rub s k a=true
    ·rw [ZQ ⟨k,(ZU hi).2 (.inr hk2.symm),h2⟩];simp [h2.1,h2.2]
    ·rw [ZR]
     ·cases hA:ZX s k q
      ·have:rub s k a=false:=by
        cases hB:rub s k a with
        | false=>rfl
        | true=>exact absurd ⟨hA,hB⟩ h2
       rw [this];rfl
      ·rfl
     ·rintro ⟨j,j1,j2⟩
      rcases (ZU hi).1 j1 with j3 | j3
      ·exact h1 ⟨j,j3,j2⟩
      ·rw [hk2] at j3
       have:=Int.ofNat_inj.1 j3
       subst this;exact h2 j2
  have hol:(ZN (ZZ s (strong.take i) q) (szn s.1)).length≤szn s.1:=ZO
  have hmem:∀j,j<(ZN (ZZ s (strong.take i) q) (szn s.1)).length→∃a,a<szn s.1∧(ZN (ZZ s (strong.take i) q) (szn s.1)).getD j 0=(a:Int):=fun j hj=>by
   obtain ⟨a,h1,h2,_⟩:=ZP.1 (ZH (d:=0) hj);exact ⟨a,h1,h2⟩
  simp+contextual(maxSteps:=1000000)(disch:=omega)only[↓Sd,↓So,↓Sk,↓den,↓Z0,Sa,Sb,Sc,Se,O1.d,O2.d,O3.d,cmI,arI,Z1,Z2,↓reduceIte,Nat.reduceLT,Nat.reduceSub,Nat.reduceAdd,Int.reduceAdd,Int.reduceEq,Int.reduceLT,Int.reduceLE,ZD,ZE,↓ZF,hk2]
  refine Zl6 s hs h q k hkR fun x hx=>?_
  by_cases hL:ZX s k q=true
  ·have h0:=hx.2 hL
   simp+contextual(maxSteps:=1000000)(disch:=omega)only[↓Sd,↓So,↓Sk,↓den,↓Z0,Sa,Sb,Sc,Se,O1.d,O2.d,O3.d,cmI,arI,Z1,Z2,↓reduceIte,Nat.reduceLT,Nat.reduceSub,Nat.reduceAdd,Int.reduceAdd,Int.reduceEq,Int.reduceLT,Int.reduceLE,ZD,ZE,↓ZF,]
   exact ZiT fun a _=>by rw [hnext,hL];simp
  ·have h0:¬0≤x:=fun g=>hL (hx.1 g)
   have hL':ZX s k q=false:=by simpa using hL
   simp+contextual(maxSteps:=1000000)(disch:=omega)only[↓Sd,↓So,↓Sk,↓den,↓Z0,Sa,Sb,Sc,Se,O1.d,O2.d,O3.d,cmI,arI,Z1,Z2,↓reduceIte,Nat.reduceLT,Nat.reduceSub,Nat.reduceAdd,Int.reduceAdd,Int.reduceEq,Int.reduceLT,Int.reduceLE,ZD,ZE,↓ZF,]
   have hfin:(ZN (ZZ s (strong.take i) q) (szn s.1)).filter (fun x=>!rub s k x.toNat)=ZN (ZZ s (strong.take (i+1)) q) (szn s.1):=by
    rw [ZkK (q:=fun a=>!rub s k a)]
    exact ZiT fun a _=>by rw [hnext,hL'];simp
   generalize ZN (ZZ s (strong.take i) q) (szn s.1)=o at hol hmem hfin
   refine mc.lp_for (List Int) (fun j r=>[⟨L (L B),tab (fun k=>tab (rub s k) (szn s.1)) s.2.length⟩,⟨L I,strong⟩,⟨L I,ZN q (szn s.1)⟩,⟨L I,o⟩,⟨I,(i:Int)⟩,⟨I,(j:Int)⟩,⟨L V3,s.1⟩,⟨L TR,s.2⟩,⟨L I,r⟩]) (fun j r=>r=(o.take j).filter fun x=>!rub s k x.toNat) o.length 0 [] _ rfl (Nat.zero_le _) rfl ?_ ?_
   ·rintro j r hj rfl
    obtain ⟨a,ha,hja⟩:=hmem j hj
    have hnx:=Zl9 hj (fun x=>!rub s k x.toNat)
    rw [hja] at hnx
    simp only [Int.toNat_natCast] at hnx
    have hfl:((o.take j).filter fun x=>!rub s k x.toNat).length≤szn s.1:=Nat.le_trans (List.length_filter_le ..) (by rw [List.length_take];omega)
    by_cases hu:rub s k a=true
    ·simp+contextual(maxSteps:=1000000)(disch:=omega)only[↓Sd,↓So,↓Sk,↓den,↓Z0,Sa,Sb,Sc,Se,O1.d,O2.d,O3.d,cmI,arI,Z1,Z2,↓reduceIte,Nat.reduceLT,Nat.reduceSub,Nat.reduceAdd,Int.reduceAdd,Int.reduceEq,Int.reduceLT,Int.reduceLE,ZD,ZE,↓ZF,hk2,hja,ZK,ZL hkR,ZL ha,hu]
     rw [hnx];simp [hu]
    ·simp+contextual(maxSteps:=1000000)(disch:=omega)only[↓Sd,↓So,↓Sk,↓den,↓Z0,Sa,Sb,Sc,Se,O1.d,O2.d,O3.d,cmI,arI,Z1,Z2,↓reduceIte,Nat.reduceLT,Nat.reduceSub,Nat.reduceAdd,Int.reduceAdd,Int.reduceEq,Int.reduceLT,Int.reduceLE,ZD,ZE,↓ZF,hk2,hja,ZK,ZL hkR,ZL ha,hu]
     rw [hnx];simp [hu]
   ·rintro r rfl
    rw [List.take_length,hfin]
    simp+contextual(maxSteps:=1000000)(disch:=omega)only[↓Sd,↓So,↓Sk,↓den,↓Z0,Sa,Sb,Sc,Se,O1.d,O2.d,O3.d,cmI,arI,Z1,Z2,↓reduceIte,Nat.reduceLT,Nat.reduceSub,Nat.reduceAdd,Int.reduceAdd,Int.reduceEq,Int.reduceLT,Int.reduceLE,ZD,ZE,↓ZF,]
 ·rintro o rfl
  rw [List.take_length]
  simp+contextual(maxSteps:=1000000)(disch:=omega)only[↓Sd,↓So,↓Sk,↓den,↓Z0,Sa,Sb,Sc,Se,O1.d,O2.d,O3.d,cmI,arI,Z1,Z2,↓reduceIte,Nat.reduceLT,Nat.reduceSub,Nat.reduceAdd,Int.reduceAdd,Int.reduceEq,Int.reduceLT,Int.reduceLE,ZD,ZE,]
theorem Zld (s:Sy) (hs:ZI s) (h:valid s) (weak:List Int) (hst:Zla s weak) (hsl:weak.length≤1048576) (q:Nat→Bool) (Q:List AV→Prop) :
  mc.C ZbH [⟨L V3,s.1⟩,⟨L TR,s.2⟩,⟨L (L B),tab (fun k=>tab (rub s k) (szn s.1)) s.2.length⟩,⟨L I,weak⟩,⟨L I,ZN q (szn s.1)⟩] Q=Q [⟨B,!Zl8 s weak q⟩]:=by
 have hz:=ZM h
 have hql:(ZN q (szn s.1)).length≤szn s.1:=ZO
 have hall:(∀x∈ZN q (szn s.1),∀k,rub s k x.toNat=true→True):=fun _ _ _ _=>trivial
 refine Mc.Ends.c (mc.ends Zfz ?_)
 simp+contextual(maxSteps:=1000000)(disch:=omega)only[↓Sd,↓So,↓Sk,↓den,↓Z0,Sa,Sb,Sc,Se,O1.d,O2.d,O3.d,cmI,arI,Z1,Z2,↓reduceIte,Nat.reduceLT,Nat.reduceSub,Nat.reduceAdd,Int.reduceAdd,Int.reduceEq,Int.reduceLT,Int.reduceLE,ZD,ZE,ZdE]
 refine mc.lp_for Unit (fun i _=>[⟨L (L B),tab (fun k=>tab (rub s k) (szn s.1)) s.2.length⟩,⟨L I,weak⟩,⟨L I,ZN q (szn s.1)⟩,⟨I,(i:Int)⟩,⟨L V3,s.1⟩,⟨L TR,s.2⟩])
  (fun i _=>∀k:Nat,(k:Int)∈weak.take i→¬((∀a,a<szn s.1→q a=true→rub s k a=true)∧ZX s k q=false)) weak.length 0 () _ rfl (Nat.zero_le _) (fun k hk=>by simp at hk) ?_ ?_
 ·rintro i _ hi hI
  have hk:=hst _ (ZH (d:=0) hi)
  obtain ⟨k,hk2⟩:∃k:Nat,weak.getD i 0=(k:Int):=⟨_,(Int.toNat_of_nonneg hk.1).symm⟩
  rw [hk2] at hk
  have hkR:k<s.2.length:=Int.ofNat_lt.1 hk.2
  have hnext:¬((∀a,a<szn s.1→q a=true→rub s k a=true)∧ZX s k q=false)→∀k:Nat,(k:Int)∈weak.take (i+1)→¬((∀a,a<szn s.1→q a=true→rub s k a=true)∧ZX s k q=false):=by
   intro h1 j hj
   rcases (ZU hi).1 hj with h2 | h2
   ·exact hI j h2
   ·rw [hk2] at h2
    have:=Int.ofNat_inj.1 h2
    subst this;exact h1
  have hmem:∀j,j<(ZN q (szn s.1)).length→∃a,a<szn s.1∧(ZN q (szn s.1)).getD j 0=(a:Int)∧q a=true:=fun j hj=>ZP.1 (ZH (d:=0) hj)
  have hin:=@Zl6 s hs h q k hkR
  have hev:(∀x∈ZN q (szn s.1),rub s k x.toNat=true)↔∀a,a<szn s.1→q a=true→rub s k a=true:=by
   constructor
   ·intro h1 a ha hqa;exact h1 (a:Int) (ZP.2 ⟨a,ha,rfl,hqa⟩)
   ·intro h1 x hx
    obtain ⟨a,ha,rfl,hqa⟩:=ZP.1 hx
    exact h1 a ha hqa
  generalize ZN q (szn s.1)=l at hql hmem hin hev
  simp+contextual(maxSteps:=1000000)(disch:=omega)only[↓Sd,↓So,↓Sk,↓den,↓Z0,Sa,Sb,Sc,Se,O1.d,O2.d,O3.d,cmI,arI,Z1,Z2,↓reduceIte,Nat.reduceLT,Nat.reduceSub,Nat.reduceAdd,Int.reduceAdd,Int.reduceEq,Int.reduceLT,Int.reduceLE,ZD,ZE,↓ZF,]
  refine mc.lp_for Bool (fun j b=>[⟨L (L B),tab (fun k=>tab (rub s k) (szn s.1)) s.2.length⟩,⟨L I,weak⟩,⟨L I,l⟩,⟨I,(i:Int)⟩,⟨B,b⟩,⟨I,(j:Int)⟩,⟨L V3,s.1⟩,⟨L TR,s.2⟩]) (fun j b=>b=dB (∀x∈l.take j,rub s k x.toNat=true)) l.length 0 true _ rfl (Nat.zero_le _) (by rw [ZQ];intro x hx;simp at hx) ?_ ?_
  ·rintro j b hj rfl
   obtain ⟨a,ha,hja,hqa⟩:=hmem j hj
   by_cases h1:∀x∈l.take j,rub s k x.toNat=true
   ·simp+contextual(maxSteps:=1000000)(disch:=omega)only[↓Sd,↓So,↓Sk,↓den,↓Z0,Sa,Sb,Sc,Se,O1.d,O2.d,O3.d,cmI,arI,Z1,Z2,↓reduceIte,Nat.reduceLT,Nat.reduceSub,Nat.reduceAdd,Int.reduceAdd,Int.reduceEq,Int.reduceLT,Int.reduceLE,ZD,ZE,↓ZF,ZQ h1,hk2,hja,ZK,ZL hkR,ZL ha]
    by_cases h2:rub s k a=true
    ·rw [h2,ZQ]
     intro x hx
     rcases (ZU hj).1 hx with h3 | h3
     ·exact h1 x h3
     ·rw [h3,hja];exact h2
    ·rw [ZR]
     ·simpa using h2
     ·intro h3
      have:=h3 (l.getD j 0) ((ZU hj).2 (.inr rfl))
      rw [hja] at this;exact h2 this
   ·simp+contextual(maxSteps:=1000000)(disch:=omega)only[↓Sd,↓So,↓Sk,↓den,↓Z0,Sa,Sb,Sc,Se,O1.d,O2.d,O3.d,cmI,arI,Z1,Z2,↓reduceIte,Nat.reduceLT,Nat.reduceSub,Nat.reduceAdd,Int.reduceAdd,Int.reduceEq,Int.reduceLT,Int.reduceLE,ZD,ZE,↓ZF,ZR h1]
    rw [ZR]
    exact fun h3=>h1 fun x hx=>h3 x ((ZU hj).2 (.inl hx))
  ·rintro b rfl
   rw [List.take_length]
   by_cases h1:∀x∈l,rub s k x.toNat=true
   ·simp+contextual(maxSteps:=1000000)(disch:=omega)only[↓Sd,↓So,↓Sk,↓den,↓Z0,Sa,Sb,Sc,Se,O1.d,O2.d,O3.d,cmI,arI,Z1,Z2,↓reduceIte,Nat.reduceLT,Nat.reduceSub,Nat.reduceAdd,Int.reduceAdd,Int.reduceEq,Int.reduceLT,Int.reduceLE,ZD,ZE,↓ZF,ZQ h1,hk2]
    refine hin fun x hx=>?_
    by_cases hL:ZX s k q=true
    ·have h0:=hx.2 hL
     simp+contextual(maxSteps:=1000000)(disch:=omega)only[↓Sd,↓So,↓Sk,↓den,↓Z0,Sa,Sb,Sc,Se,O1.d,O2.d,O3.d,cmI,arI,Z1,Z2,↓reduceIte,Nat.reduceLT,Nat.reduceSub,Nat.reduceAdd,Int.reduceAdd,Int.reduceEq,Int.reduceLT,Int.reduceLE,ZD,ZE,↓ZF,]
     exact hnext fun g=>by rw [hL] at g;exact absurd g.2 (by simp)
    ·have h0:¬0≤x:=fun g=>hL (hx.1 g)
     have hD:Zl8 s weak q=true:=ZQ ⟨k,by rw [←hk2];exact ZH hi,hev.1 h1,by simpa using hL⟩
     simp+contextual(maxSteps:=1000000)(disch:=omega)only[↓Sd,↓So,↓Sk,↓den,↓Z0,Sa,Sb,Sc,Se,O1.d,O2.d,O3.d,cmI,arI,Z1,Z2,↓reduceIte,Nat.reduceLT,Nat.reduceSub,Nat.reduceAdd,Int.reduceAdd,Int.reduceEq,Int.reduceLT,Int.reduceLE,ZD,ZE,↓ZF,hD]
     rfl
   ·simp+contextual(maxSteps:=1000000)(disch:=omega)only[↓Sd,↓So,↓Sk,↓den,↓Z0,Sa,Sb,Sc,Se,O1.d,O2.d,O3.d,cmI,arI,Z1,Z2,↓reduceIte,Nat.reduceLT,Nat.reduceSub,Nat.reduceAdd,Int.reduceAdd,Int.reduceEq,Int.reduceLT,Int.reduceLE,ZD,ZE,↓ZF,ZR h1]
    exact hnext fun g=>h1 (hev.2 g.1)
 ·rintro _ hI
  rw [List.take_length] at hI
  have hD:Zl8 s weak q=false:=ZR fun ⟨k,h1,h2⟩=>hI k h1 h2
  simp+contextual(maxSteps:=1000000)(disch:=omega)only[↓Sd,↓So,↓Sk,↓den,↓Z0,Sa,Sb,Sc,Se,O1.d,O2.d,O3.d,cmI,arI,Z1,Z2,↓reduceIte,Nat.reduceLT,Nat.reduceSub,Nat.reduceAdd,Int.reduceAdd,Int.reduceEq,Int.reduceLT,Int.reduceLE,ZD,ZE,hD]
  rfl
noncomputable def Z_ (s:Sy) (weak strong:List Int) (f:(Nat→Bool)→List (List Int)) (q:Nat→Bool):List (List Int) :=
 if Zl8 s weak q=true then [] else if (ZN (ZZ s strong q) (szn s.1)).length=(ZN q (szn s.1)).length then [ZN q (szn s.1)] else f (ZZ s strong q)
noncomputable def crs (s:Sy) (weak strong:List Int):Nat→(Nat→Bool)→List (List Int)
 | 0,_=>[]
 | f+1,p=>((ZN p (szn s.1)).filter fun x=>isR s p x.toNat).flatMap fun x=>Z_ s weak strong (crs s weak strong f) (isP s p x.toNat)
theorem Zle {s:Sy} {strong:List Int} {q:Nat→Bool} {a:Nat} (h:ZZ s strong q a=true):q a=true:=by
 unfold ZZ at h
 simp only [Bool.and_eq_true] at h
 exact h.1
theorem Zlf {s:Sy} {p:Nat→Bool} {m a:Nat} (h:isP s p m a=true):p a=true∧cmp (ZY s p) (szn s.1) a=(m:Int):=by
 unfold isP at h
 simp only [Bool.and_eq_true] at h
 exact ⟨h.1,ZiV.1 h.2⟩
theorem Zlg {s:Sy} {p:Nat→Bool} {m:Nat} (hp:p m=true) (h:isR s p m=true):isP s p m m=true:=by
 unfold isP
 rw [hp,ZQ (ZiV.1 h).1];rfl
theorem Zlh {p:Nat→Bool} {n a:Nat} (ha:a<n) (hp:p a=true):ZN p n≠[]:=fun h=>by
 have:(a:Int)∈ZN p n:=ZP.2 ⟨a,ha,rfl,hp⟩
 rw [h] at this;simp at this
structure CorOf (s:Sy) (p:Nat→Bool) (L:List (List Int)):Prop where
 dj:L.Pairwise fun c d=>∀x∈c,x∉d
 sub:∀c∈L,∃q:Nat→Bool,c=ZN q (szn s.1)∧c≠[]∧∀a,q a=true→p a=true
theorem roots_pw {f:Int→Bool} {p:Nat→Bool} {n:Nat}:((ZN p n).filter f).Pairwise (fun a b=>a<b):=by
 refine List.Pairwise.filter _ ?_
 induction n with
 | zero=>exact List.Pairwise.nil
 | succ n ih =>
  rw [ZN]
  split
  ·refine List.pairwise_append.2 ⟨ih,List.pairwise_singleton _ _,fun a ha b hb=>?_⟩
   rw [List.mem_singleton.1 hb]
   have:=Zj2 a ha
   exact this
  ·exact ih
theorem Zli {s:Sy} {weak strong:List Int}:∀{f:Nat} {p:Nat→Bool},CorOf s p (crs s weak strong f p)
 | 0,p=>⟨List.Pairwise.nil,fun c hc=>by simp [crs] at hc⟩
 | f+1,p=>by
  have hsub:∀(m:Nat),m<szn s.1→p m=true→isR s p m=true→∀c∈Z_ s weak strong (crs s weak strong f) (isP s p m),∃q:Nat→Bool,c=ZN q (szn s.1)∧c≠[]∧∀a,q a=true→isP s p m a=true:=by
   intro m hm hp hr c hc
   unfold Z_ at hc
   split at hc
   ·simp at hc
   ·split at hc
    ·rw [List.mem_singleton.1 hc]
     exact ⟨_,rfl,Zlh hm (Zlg hp hr),fun a h=>h⟩
    ·obtain ⟨q,h1,h2,h3⟩:=(Zli (f:=f)).sub c hc
     exact ⟨q,h1,h2,fun a h=>Zle (h3 a h)⟩
  have hroot:∀x∈(ZN p (szn s.1)).filter (fun x=>isR s p x.toNat),∃m:Nat,x=(m:Int)∧m<szn s.1∧p m=true∧isR s p m=true:=by
   intro x hx
   obtain ⟨h1,h2⟩:=List.mem_filter.1 hx
   obtain ⟨m,h3,rfl,h4⟩:=ZP.1 h1
   exact ⟨m,rfl,h3,h4,by simpa using h2⟩
  refine ⟨?_,fun c hc=>?_⟩
  ·unfold crs
   rw [List.pairwise_flatMap]
   refine ⟨fun x hx=>?_,?_⟩
   ·unfold Z_
    split
    ·exact List.Pairwise.nil
    ·split
     ·exact List.pairwise_singleton _ _
     ·exact (Zli (f:=f)).dj
   ·refine roots_pw.imp_of_mem ?_
    intro x y hx hy hlt c hc d hd z hz hz2
    obtain ⟨m,rfl,m1,m2,m3⟩:=hroot x hx
    obtain ⟨m',rfl,m1',m2',m3'⟩:=hroot y hy
    simp only [Int.toNat_natCast] at hc hd
    obtain ⟨q,rfl,-,q2⟩:=hsub m m1 m2 m3 c hc
    obtain ⟨q',rfl,-,q2'⟩:=hsub m' m1' m2' m3' d hd
    obtain ⟨a,-,rfl,ha⟩:=ZP.1 hz
    obtain ⟨a',-,he,ha'⟩:=ZP.1 hz2
    have he:=Int.ofNat_inj.1 he
    subst he
    have h1:=(Zlf (q2 _ ha)).2
    have h2:=(Zlf (q2' _ ha')).2
    rw [h1] at h2
    omega
  ·unfold crs at hc
   obtain ⟨x,hx,hc⟩:=List.mem_flatMap.1 hc
   obtain ⟨m,rfl,m1,m2,m3⟩:=hroot x hx
   simp only [Int.toNat_natCast] at hc
   obtain ⟨q,h1,h2,h3⟩:=hsub m m1 m2 m3 c hc
   exact ⟨q,h1,h2,fun a h=>(Zlf (h3 a h)).1⟩
theorem Zlj {n:Int}:∀{L:List (List Int)},L.Pairwise (fun c d=>∀x∈c,x∉d)→L.length≤(L.filter fun c=>!decide (n∈c)).length+1
 | [],_=>Nat.zero_le _
 | c::L,h=>by
  obtain ⟨h1,h2⟩:=List.pairwise_cons.1 h
  by_cases hc:n∈c
  ·have:L.filter (fun c=>!decide (n∈c))=L:=List.filter_eq_self.2 fun d hd=>by simpa using h1 d hd n hc
   simp [hc,this]
  ·have:=Zlj (n:=n) h2
   simp [hc];omega
theorem Zlk:∀{n:Nat} {L:List (List Int)},L.Pairwise (fun c d=>∀x∈c,x∉d)→(∀c∈L,c≠[]∧∀x∈c,0≤x∧x<(n:Int))→L.length≤n
 | 0,L,_,h=>by
  cases L with
  | nil=>exact Nat.le_refl _
  | cons c L =>
   obtain ⟨h1,h2⟩:=h c (List.mem_cons_self ..)
   cases c with
   | nil=>exact absurd rfl h1
   | cons x c=>have:=h2 x (List.mem_cons_self ..);omega
 | n+1,L,hp,h=>by
  have h1:=Zlj (n:=(n:Int)) hp
  have h2:=Zlk (n:=n) (hp.filter fun c=>!decide ((n:Int)∈c)) fun c hc=>by
   obtain ⟨g1,g2⟩:=List.mem_filter.1 hc
   obtain ⟨g3,g4⟩:=h c g1
   refine ⟨g3,fun x hx=>?_⟩
   have g5:=g4 x hx
   have:x≠(n:Int):=fun he=>by simp at g2;exact g2 (he▸hx)
   omega
  omega
theorem Zll {s:Sy} {weak strong:List Int} {f:Nat} {p:Nat→Bool}:(crs s weak strong f p).length≤szn s.1:=by
 have h:=Zli (s:=s) (weak:=weak) (strong:=strong) (f:=f) (p:=p)
 refine Zlk h.dj fun c hc=>?_
 obtain ⟨q,rfl,h2,_⟩:=h.sub c hc
 exact ⟨h2,fun x hx=>by obtain ⟨a,h1,rfl,_⟩:=ZP.1 hx;omega⟩
theorem Zlm {α β:Type} (l:List α) (f:α→List β) (i:Nat):((l.take i).flatMap f).length≤(l.flatMap f).length:=by
 have h:l.flatMap f=(l.take i++l.drop i).flatMap f:=by rw [List.take_append_drop]
 rw [h,List.flatMap_append,List.length_append]
 omega
theorem Zln {β:Type} {l:List Int} {i:Nat} (h:i<l.length) (f:Int→List β):(l.take (i+1)).flatMap f=(l.take i).flatMap f++f (l.getD i 0):=by
 rw [←ZhY (d:=0) h,List.flatMap_append]
 simp
theorem Zlo {s:Sy} {weak strong:List Int} {f:Nat} {p:Nat→Bool} (i:Nat) :
  ((((ZN p (szn s.1)).filter fun x=>isR s p x.toNat).take i).flatMap fun x=>Z_ s weak strong (crs s weak strong f) (isP s p x.toNat)).length≤szn s.1 :=
 Nat.le_trans (Zlm _ _ i) (Zll (f:=f+1))
theorem Zlp {s:Sy} {strong:List Int} {q:Nat→Bool} (h:¬(ZN (ZZ s strong q) (szn s.1)).length=(ZN q (szn s.1)).length):(ZN (ZZ s strong q) (szn s.1)).length<(ZN q (szn s.1)).length:=by
 have:=(Zjb (p:=ZZ s strong q) (q:=q) (n:=szn s.1) fun k _ hk=>Zle hk).1
 omega
theorem Zlq (s:Sy) (hs:ZI s) (h:valid s) (weak strong:List Int) (hw:Zla s weak) (hst:Zla s strong) (hwl:weak.length≤1048576) (hsl:strong.length≤1048576) :
  ∀(f:Nat) (p:Nat→Bool),(ZN p (szn s.1)).length≤f→∀(Q:List AV→Prop),
  mc.C ZbI [⟨L V3,s.1⟩,⟨L TR,s.2⟩,⟨L (L I),steps s⟩,⟨L (L B),tab (fun k=>tab (rub s k) (szn s.1)) s.2.length⟩,⟨L I,weak⟩,⟨L I,strong⟩,⟨L I,ZN p (szn s.1)⟩] Q=Q [⟨L (L I),crs s weak strong (f+1) p⟩]:=by
 have hz:=ZM h
 intro f
 induction f with
 | zero =>
  intro p hf Q
  refine Mc.Ends.c (mc.ends ZfA ?_)
  have hnil:ZN p (szn s.1)=[]:=List.eq_nil_of_length_eq_zero (by omega)
  have hP:=fun Q=>Zlb s h p Q
  have hpr:Zl7 s p []=[]:=rfl
  have hcr:crs s weak strong 1 p=[]:=by unfold crs;rw [hnil];rfl
  rw [hnil] at hP ⊢
  rw [hpr] at hP
  simp+contextual(maxSteps:=1000000)(disch:=omega)only[↓Sd,↓So,↓Sk,↓den,↓Z0,Sa,Sb,Sc,Se,O1.d,O2.d,O3.d,cmI,arI,Z1,Z2,↓reduceIte,Nat.reduceLT,Nat.reduceSub,Nat.reduceAdd,Int.reduceAdd,Int.reduceEq,Int.reduceLT,Int.reduceLE,ZD,ZE,ZdF,hP]
  refine mc.lp_step ?_
  simp+contextual(maxSteps:=1000000)(disch:=omega)only[↓Sd,↓So,↓Sk,↓den,↓Z0,Sa,Sb,Sc,Se,O1.d,O2.d,O3.d,cmI,arI,Z1,Z2,↓reduceIte,Nat.reduceLT,Nat.reduceSub,Nat.reduceAdd,Int.reduceAdd,Int.reduceEq,Int.reduceLT,Int.reduceLE,ZD,ZE,List.length_nil,hcr]
 | succ f ih =>
  intro p hf Q
  refine Mc.Ends.c (mc.ends ZfA ?_)
  simp+contextual(maxSteps:=1000000)(disch:=omega)only[↓Sd,↓So,↓Sk,↓den,↓Z0,Sa,Sb,Sc,Se,O1.d,O2.d,O3.d,cmI,arI,Z1,Z2,↓reduceIte,Nat.reduceLT,Nat.reduceSub,Nat.reduceAdd,Int.reduceAdd,Int.reduceEq,Int.reduceLT,Int.reduceLE,ZD,ZE,ZdF,Zlb s h p]
  have hpl:(Zl7 s p (ZN p (szn s.1))).length=((ZN p (szn s.1)).filter fun x=>isR s p x.toNat).length:=by unfold Zl7;rw [List.length_map]
  have hFl:((ZN p (szn s.1)).filter fun x=>isR s p x.toNat).length≤szn s.1:=Nat.le_trans (List.length_filter_le ..) ZO
  have hpg:∀i,i<((ZN p (szn s.1)).filter fun x=>isR s p x.toNat).length→(Zl7 s p (ZN p (szn s.1))).getD i []=ZN (isP s p (((ZN p (szn s.1)).filter fun x=>isR s p x.toNat).getD i 0).toNat) (szn s.1):=by
   intro i hi
   unfold Zl7
   rw [List.getD_eq_getElem?_getD,List.getElem?_map,List.getD_eq_getElem?_getD,List.getElem?_eq_getElem hi]
   rfl
  have hb:=fun i=>Zlo (s:=s) (weak:=weak) (strong:=strong) (f:=f+1) (p:=p) i
  have hfin:crs s weak strong (f+1+1) p=((ZN p (szn s.1)).filter fun x=>isR s p x.toNat).flatMap fun x=>Z_ s weak strong (crs s weak strong (f+1)) (isP s p x.toNat):=rfl
  rw [hfin]
  generalize (ZN p (szn s.1)).filter (fun x=>isR s p x.toNat)=F at hpl hFl hpg hb
  generalize Zl7 s p (ZN p (szn s.1))=PR at hpl hpg
  obtain ⟨UB,hUB⟩:∃UB,tab (fun k=>tab (rub s k) (szn s.1)) s.2.length=UB:=⟨_,rfl⟩
  have hStr:=fun q Q=>Zlc s hs h strong hst hsl q Q
  have hWk:=fun q Q=>Zld s hs h weak hw hwl q Q
  rw [hUB] at hStr hWk ih ⊢
  refine mc.lp_for (List (List Int)) (fun i o=>[⟨L (L I),steps s⟩,⟨L (L B),UB⟩,⟨L I,weak⟩,⟨L I,strong⟩,⟨L (L I),PR⟩,⟨I,(i:Int)⟩,⟨L V3,s.1⟩,⟨L TR,s.2⟩,⟨L (L I),o⟩])
   (fun i o=>o=(F.take i).flatMap fun x=>Z_ s weak strong (crs s weak strong (f+1)) (isP s p x.toNat)) F.length 0 [] _ rfl (Nat.zero_le _) rfl ?_ ?_
  ·rintro i o hi rfl
   have hg:=hpg i hi
   have hnx:=Zln hi fun x=>Z_ s weak strong (crs s weak strong (f+1)) (isP s p x.toNat)
   have hb1:=hb i
   have hb2:=hb (i+1)
   have hql:(ZN (isP s p (F.getD i 0).toNat) (szn s.1)).length≤f+1:=Nat.le_trans (Zjb fun k _ hk=>(Zlf hk).1).1 hf
   rw [hnx] at hb2
   rw [List.length_append] at hb2
   generalize (F.getD i 0).toNat=m at hg hnx hb2 hql
   generalize isP s p m=q at hg hnx hb2 hql
   generalize hO:((F.take i).flatMap fun x=>Z_ s weak strong (crs s weak strong (f+1)) (isP s p x.toNat))=O at hnx hb1 hb2
   by_cases hd:Zl8 s weak q=true
   ·have hc2:Z_ s weak strong (crs s weak strong (f+1)) q=[]:=if_pos hd
    rw [hc2,List.append_nil] at hnx
    by_cases he:(ZN (ZZ s strong q) (szn s.1)).length=(ZN q (szn s.1)).length
    ·simp+contextual(maxSteps:=1000000)(disch:=omega)only[↓Sd,↓So,↓Sk,↓den,↓Z0,Sa,Sb,Sc,Se,O1.d,O2.d,O3.d,cmI,arI,Z1,Z2,↓reduceIte,Nat.reduceLT,Nat.reduceSub,Nat.reduceAdd,Int.reduceAdd,Int.reduceEq,Int.reduceLT,Int.reduceLE,ZD,ZE,↓ZF,hpl,hg,hStr,he,hWk,hd,Bool.not_true]
     exact hnx.symm
    ·simp+contextual(maxSteps:=1000000)(disch:=omega)only[↓Sd,↓So,↓Sk,↓den,↓Z0,Sa,Sb,Sc,Se,O1.d,O2.d,O3.d,cmI,arI,Z1,Z2,↓reduceIte,Nat.reduceLT,Nat.reduceSub,Nat.reduceAdd,Int.reduceAdd,Int.reduceEq,Int.reduceLT,Int.reduceLE,ZD,ZE,↓ZF,hpl,hg,hStr,he,hWk,hd,Bool.not_true]
     exact hnx.symm
   ·have hd':Zl8 s weak q=false:=by simpa using hd
    by_cases he:(ZN (ZZ s strong q) (szn s.1)).length=(ZN q (szn s.1)).length
    ·have hc2:Z_ s weak strong (crs s weak strong (f+1)) q=[ZN q (szn s.1)]:=by unfold Z_;rw [if_neg hd,if_pos he]
     rw [hc2] at hnx hb2
     simp only [List.length_singleton] at hb2
     simp+contextual(maxSteps:=1000000)(disch:=omega)only[↓Sd,↓So,↓Sk,↓den,↓Z0,Sa,Sb,Sc,Se,O1.d,O2.d,O3.d,cmI,arI,Z1,Z2,↓reduceIte,Nat.reduceLT,Nat.reduceSub,Nat.reduceAdd,Int.reduceAdd,Int.reduceEq,Int.reduceLT,Int.reduceLE,ZD,ZE,↓ZF,hpl,hg,hStr,he,hWk,hd',Bool.not_false]
     exact hnx.symm
    ·have hc2:Z_ s weak strong (crs s weak strong (f+1)) q=crs s weak strong (f+1) (ZZ s strong q):=by unfold Z_;rw [if_neg hd,if_neg he]
     rw [hc2] at hnx hb2
     have hlt:=Zlp he
     have hih:=fun Q=>ih (ZZ s strong q) (by omega) Q
     generalize crs s weak strong (f+1) (ZZ s strong q)=M at hnx hb2 hih
     simp+contextual(maxSteps:=1000000)(disch:=omega)only[↓Sd,↓So,↓Sk,↓den,↓Z0,Sa,Sb,Sc,Se,O1.d,O2.d,O3.d,cmI,arI,Z1,Z2,↓reduceIte,Nat.reduceLT,Nat.reduceSub,Nat.reduceAdd,Int.reduceAdd,Int.reduceEq,Int.reduceLT,Int.reduceLE,ZD,ZE,↓ZF,hpl,hg,hStr,he,hWk,hd',Bool.not_false,hih]
     refine mc.lp_for (List (List Int)) (fun j o=>[⟨L (L I),steps s⟩,⟨L (L B),UB⟩,⟨L I,weak⟩,⟨L I,strong⟩,⟨L (L I),PR⟩,⟨I,(i:Int)⟩,⟨I,(j:Int)⟩,⟨L V3,s.1⟩,⟨L TR,s.2⟩,⟨L (L I),o⟩,⟨L (L I),M⟩])
      (fun j o=>o=O++M.take j) M.length 0 O _ rfl (Nat.zero_le _) (by simp) ?_ ?_
     ·rintro j o hj rfl
      have hol:O.length+(M.take j).length≤szn s.1:=by rw [List.length_take];omega
      simp+contextual(maxSteps:=1000000)(disch:=omega)only[↓Sd,↓So,↓Sk,↓den,↓Z0,Sa,Sb,Sc,Se,O1.d,O2.d,O3.d,cmI,arI,Z1,Z2,↓reduceIte,Nat.reduceLT,Nat.reduceSub,Nat.reduceAdd,Int.reduceAdd,Int.reduceEq,Int.reduceLT,Int.reduceLE,ZD,ZE,]
      rw [List.append_assoc,ZhY hj]
     ·rintro o rfl
      rw [List.take_length]
      simp+contextual(maxSteps:=1000000)(disch:=omega)only[↓Sd,↓So,↓Sk,↓den,↓Z0,Sa,Sb,Sc,Se,O1.d,O2.d,O3.d,cmI,arI,Z1,Z2,↓reduceIte,Nat.reduceLT,Nat.reduceSub,Nat.reduceAdd,Int.reduceAdd,Int.reduceEq,Int.reduceLT,Int.reduceLE,ZD,ZE,↓ZF,]
      exact hnx.symm
  ·rintro o rfl
   rw [List.take_length]
   simp+contextual(maxSteps:=1000000)(disch:=omega)only[↓Sd,↓So,↓Sk,↓den,↓Z0,Sa,Sb,Sc,Se,O1.d,O2.d,O3.d,cmI,arI,Z1,Z2,↓reduceIte,Nat.reduceLT,Nat.reduceSub,Nat.reduceAdd,Int.reduceAdd,Int.reduceEq,Int.reduceLT,Int.reduceLE,ZD,ZE,hpl]
theorem Zlr {p:Nat→Bool} {a:Nat}:∀{b:Nat},a≤b→∃r,ZN p b=ZN p a++r
 | 0,h=>⟨[],by rw [Nat.le_zero.1 h];simp⟩
 | b+1,h=>by
  by_cases he:a=b+1
  ·exact ⟨[],by rw [he];simp⟩
  ·obtain ⟨r,hr⟩:=Zlr (p:=p) (a:=a) (b:=b) (by omega)
   rw [ZN]
   split
   ·exact ⟨r++[(b:Int)],by rw [hr,List.append_assoc]⟩
   ·exact ⟨r,hr⟩
theorem Zls {p:Nat→Bool} {g:Int→Bool} {β:Type} {f:Int→List β} {a b:Nat} (h:a≤b):(((ZN p a).filter g).flatMap f).length≤(((ZN p b).filter g).flatMap f).length:=by
 obtain ⟨r,hr⟩:=Zlr (p:=p) h
 rw [hr,List.filter_append,List.flatMap_append,List.length_append]
 omega
theorem Zlt {s:Sy} {strong:List Int} {q:Nat→Bool} {i k:Nat} (hi:i<strong.length) (hk:strong.getD i 0=(k:Int)) (a:Nat) :
  ZZ s (strong.take (i+1)) q a=(ZZ s (strong.take i) q a&&!(!ZX s k q&&rub s k a)):=by
 unfold ZZ
 rw [Bool.and_assoc]
 congr 1
 by_cases h1:∃k:Nat,(k:Int)∈strong.take i∧ZX s k q=false∧rub s k a=true
 ·obtain ⟨j,j1,j2⟩:=h1
  rw [ZQ (show ∃k:Nat,(k:Int)∈strong.take i∧ZX s k q=false∧rub s k a=true from ⟨j,j1,j2⟩),ZQ (show ∃k:Nat,(k:Int)∈strong.take (i+1)∧ZX s k q=false∧rub s k a=true from ⟨j,(ZU hi).2 (.inl j1),j2⟩)];rfl
 ·rw [ZR h1]
  by_cases h2:ZX s k q=false∧rub s k a=true
  ·rw [ZQ ⟨k,(ZU hi).2 (.inr hk.symm),h2⟩];simp [h2.1,h2.2]
  ·rw [ZR]
   ·cases hA:ZX s k q
    ·have:rub s k a=false:=by
      cases hB:rub s k a with
      | false=>rfl
      | true=>exact absurd ⟨hA,hB⟩ h2
     rw [this];rfl
    ·rfl
   ·rintro ⟨j,j1,j2⟩
    rcases (ZU hi).1 j1 with j3 | j3
    ·exact h1 ⟨j,j3,j2⟩
    ·rw [hk] at j3
     have:=Int.ofNat_inj.1 j3
     subst this;exact h2 j2
noncomputable def Zlu (s:Sy) (strong:List Int) (q:Nat→Bool):Bool:=dB (∃a,a<szn s.1∧q a=true∧¬ZZ s strong q a=true)
theorem Zlv {s:Sy} {strong:List Int} {q:Nat→Bool}:Zlu s strong q=true↔¬(ZN (ZZ s strong q) (szn s.1)).length=(ZN q (szn s.1)).length:=by
 have hm:=Zjb (p:=ZZ s strong q) (q:=q) (n:=szn s.1) fun k _ hk=>Zle hk
 constructor
 ·intro h he
  obtain ⟨a,h1,h2,h3⟩:=ZiV.1 h
  exact h3 (hm.2 (by omega) a h1 h2)
 ·intro h
  refine ZQ ?_
  obtain ⟨a,h1,h2,h3⟩:=Zkc (Zlp h)
  exact ⟨a,h1,h2,h3⟩
theorem Zlw (l:List Bool) (h:l≠[]) (hl:l.length≤1048576) (Q:List AV→Prop):mc.C Zcl [⟨L B,l⟩] Q=Q [⟨L B,l⟩]:=by
 refine Mc.Ends.c (mc.ends Zgd ?_)
 have h1:l.isEmpty=false:=by cases l with | nil=>exact absurd rfl h | cons=>rfl
 simp+contextual(maxSteps:=1000000)(disch:=omega)only[↓Sd,↓So,↓Sk,↓den,↓Z0,Sa,Sb,Sc,Se,O1.d,O2.d,O3.d,cmI,arI,Z1,Z2,↓reduceIte,Nat.reduceLT,Nat.reduceSub,Nat.reduceAdd,Int.reduceAdd,Int.reduceEq,Int.reduceLT,Int.reduceLE,ZD,ZE,Zei,h1,List.length_nil,List.nil_append,Bool.not_false]
theorem Zlx (s:Sy) (h:valid s) (weak strong:List Int) (hw:Zla s weak) (hst:Zla s strong) (hwl:weak.length≤1048576) (hsl:strong.length≤1048576) :
  ∀(f:Nat) (p:Nat→Bool),(ZN p (szn s.1)).length≤f→∀(Q:List AV→Prop),
  mc.C Zcm [⟨FBox,fbx s weak strong⟩,⟨L B,tab p (szn s.1)⟩] Q=Q [⟨L (L I),crs s weak strong (f+1) p⟩,⟨FBox,fbx s weak strong⟩]:=by
 have hz:=ZM h
 have ht:=Zjw h
 have hTl:=ht.1.1
 have hg:∀k,k<s.2.length→(toT s).getD k []=tab (rtg s k) (szn s.1):=fun k hk=>ZL hk
 have hl:(toT s).length=s.2.length:=ZK
 have hLd:=fun k hk q Q=>Zl3 s h weak strong k hk q Q
 intro f
 induction f using Nat.strongRecOn with
 | ind f ih =>
  intro p hf Q
  have hTj:=fun Q=>ZkY (steps s) p (szn s.1) ht Q
  refine Mc.Ends.c (mc.ends Zge ?_)
  simp+contextual(maxSteps:=1000000)(disch:=omega)only[↓Sd,↓So,↓Sk,↓den,↓Z0,Sa,Sb,Sc,Se,O1.d,O2.d,O3.d,cmI,arI,Z1,Z2,↓reduceIte,Nat.reduceLT,Nat.reduceSub,Nat.reduceAdd,Int.reduceAdd,Int.reduceEq,Int.reduceLT,Int.reduceLE,ZD,ZE,Zej,hTj,hTl]
  obtain ⟨PT,hPT⟩:∃PT:Nat→Int,(fun k=>if p k=true then cmp (ZW (steps s) p (szn s.1)) (szn s.1) k else -1)=PT:=⟨_,rfl⟩
  have hPTe:∀m a:Nat,decide (PT a=(m:Int))=isP s p m a:=by
   intro m a
   rw [←hPT]
   unfold isP ZY
   by_cases hp:p a=true
   ·simp only [hp,if_true,Bool.true_and]
    exact dB_eq.symm
   ·have:p a=false:=by simpa using hp
    simp only [this,Bool.false_and,Bool.false_eq_true,if_false,decide_eq_false_iff_not]
    omega
  rw [hPT]
  have hfin:crs s weak strong (f+1) p=((ZN p (szn s.1)).filter fun x=>isR s p x.toNat).flatMap fun x=>Z_ s weak strong (crs s weak strong f) (isP s p x.toNat):=rfl
  have hbd:∀m,m≤szn s.1→(((ZN p m).filter fun x=>isR s p x.toNat).flatMap fun x=>Z_ s weak strong (crs s weak strong f) (isP s p x.toNat)).length≤szn s.1:=fun m hm=>Nat.le_trans (Zls hm) (Zll (f:=f+1))
  rw [hfin]
  refine mc.lp_for (List (List Int)) (fun m o=>[⟨I,(szn s.1:Int)⟩,⟨I,(m:Int)⟩,⟨L V3,s.1⟩,⟨L TR,s.2⟩,⟨L (L I),steps s⟩,⟨L I,weak⟩,⟨L I,strong⟩,⟨L (L I),toT s⟩,⟨L (L I),o⟩,⟨L I,tab PT (szn s.1)⟩])
   (fun m o=>o=((ZN p m).filter fun x=>isR s p x.toNat).flatMap fun x=>Z_ s weak strong (crs s weak strong f) (isP s p x.toNat)) (szn s.1) 0 [] _ rfl (Nat.zero_le _) rfl ?_ ?_
  ·rintro m o hm rfl
   have hb1:=hbd m (by omega)
   have hb2:=hbd (m+1) (by omega)
   have hnx:((ZN p (m+1)).filter fun x=>isR s p x.toNat).flatMap (fun x=>Z_ s weak strong (crs s weak strong f) (isP s p x.toNat))=((ZN p m).filter fun x=>isR s p x.toNat).flatMap (fun x=>Z_ s weak strong (crs s weak strong f) (isP s p x.toNat))++if p m=true∧isR s p m=true then Z_ s weak strong (crs s weak strong f) (isP s p m) else []:=by
    by_cases hp:p m=true
    ·rw [ZiR hp,List.filter_append,List.flatMap_append]
     congr 1
     by_cases hr:isR s p m=true
     ·simp [hr,hp]
     ·simp [hr]
    ·rw [ZiS hp];simp [hp]
   generalize hO:((ZN p m).filter fun x=>isR s p x.toNat).flatMap (fun x=>Z_ s weak strong (crs s weak strong f) (isP s p x.toNat))=O at hb1 hnx ⊢
   rw [hnx,List.length_append] at hb2
   have hPm:(PT m=(m:Int))↔isP s p m m=true:=by rw [←hPTe];simp
   simp+contextual(maxSteps:=1000000)(disch:=omega)only[↓Sd,↓So,↓Sk,↓den,↓Z0,Sa,Sb,Sc,Se,O1.d,O2.d,O3.d,cmI,arI,Z1,Z2,↓reduceIte,Nat.reduceLT,Nat.reduceSub,Nat.reduceAdd,Int.reduceAdd,Int.reduceEq,Int.reduceLT,Int.reduceLE,ZD,ZE,]
   refine mc.wp_join (fun us=>us=[⟨I,(szn s.1:Int)⟩,⟨I,(m:Int)⟩,⟨L V3,s.1⟩,⟨L TR,s.2⟩,⟨L (L I),steps s⟩,⟨L I,weak⟩,⟨L I,strong⟩,⟨L (L I),toT s⟩,⟨L (L I),((ZN p (m+1)).filter fun x=>isR s p x.toNat).flatMap (fun x=>Z_ s weak strong (crs s weak strong f) (isP s p x.toNat))⟩,⟨L I,tab PT (szn s.1)⟩]) ?_ ?_
   by_cases hpm:PT m=(m:Int)
   ·have hq:=hPm.1 hpm
    have hpp:=Zlf hq
    have hTm:((steps s).getD m []).length≤8:=ht.2.2 _ (ZH (by omega))
    have hql:(ZN (isP s p m) (szn s.1)).length≤(ZN p (szn s.1)).length:=(Zjb fun k _ hk=>(Zlf hk).1).1
    have hqp:1≤(ZN (isP s p m) (szn s.1)).length:=List.length_pos_iff.2 (Zlh hm hq)
    have hRm:isR s p m=dB (1<(ZN (isP s p m) (szn s.1)).length∨(m:Int)∈(steps s).getD m []∨(steps s).getD m []=[]):=by
     unfold isR
     exact ZiW ⟨fun g=>g.2,fun g=>⟨hpp.2,g⟩⟩
    simp+contextual(maxSteps:=1000000)(disch:=omega)only[↓Sd,↓So,↓Sk,↓den,↓Z0,Sa,Sb,Sc,Se,O1.d,O2.d,O3.d,cmI,arI,Z1,Z2,↓reduceIte,Nat.reduceLT,Nat.reduceSub,Nat.reduceAdd,Int.reduceAdd,Int.reduceEq,Int.reduceLT,Int.reduceLE,ZD,ZE,ZK,ZL hm,hpm,hTl,List.length_replicate]
    refine mc.lp_for (List Bool) (fun j o=>[⟨I,(m:Int)⟩,⟨I,(szn s.1:Int)⟩,⟨I,(m:Int)⟩,⟨I,(szn s.1:Int)⟩,⟨I,(j:Int)⟩,⟨L V3,s.1⟩,⟨L TR,s.2⟩,⟨L (L I),steps s⟩,⟨L I,weak⟩,⟨L I,strong⟩,⟨L (L I),toT s⟩,⟨L (L I),O⟩,⟨L I,tab PT (szn s.1)⟩,⟨L B,o⟩])
     (fun j o=>o=tab (isP s p m) j++List.replicate (szn s.1 - j) false) (szn s.1) 0 (List.replicate (szn s.1) false) _ rfl (Nat.zero_le _) (by simp [tab]) ?_ ?_
    ·rintro j o hj rfl
     have hlen:(tab (isP s p m) j++List.replicate (szn s.1 - j) false).length=szn s.1:=by simp [ZK];omega
     simp+contextual(maxSteps:=1000000)(disch:=omega)only[↓Sd,↓So,↓Sk,↓den,↓Z0,Sa,Sb,Sc,Se,O1.d,O2.d,O3.d,cmI,arI,Z1,Z2,↓reduceIte,Nat.reduceLT,Nat.reduceSub,Nat.reduceAdd,Int.reduceAdd,Int.reduceEq,Int.reduceLT,Int.reduceLE,ZD,ZE,hlen,ZK,ZL hj]
     exact ZiF hj (hPTe m j)
    ·rintro o rfl
     rw [Nat.sub_self,List.replicate_zero,List.append_nil]
     generalize hqq:isP s p m=q at *
     simp+contextual(maxSteps:=1000000)(disch:=omega)only[↓Sd,↓So,↓Sk,↓den,↓Z0,Sa,Sb,Sc,Se,O1.d,O2.d,O3.d,cmI,arI,Z1,Z2,↓reduceIte,Nat.reduceLT,Nat.reduceSub,Nat.reduceAdd,Int.reduceAdd,Int.reduceEq,Int.reduceLT,Int.reduceLE,ZD,ZE,Zjo q (szn s.1) (by omega)]
     have hall:∀j,j<(ZN q (szn s.1)).length→∃a,a<szn s.1∧(ZN q (szn s.1)).getD j 0=(a:Int)∧q a=true:=fun j hj=>ZP.1 (ZH (d:=0) hj)
     have hall2:∀a,a<szn s.1→q a=true→(a:Int)∈ZN q (szn s.1):=fun a ha hqa=>ZP.2 ⟨a,ha,rfl,hqa⟩
     have hal:(ZN q (szn s.1)).length≤szn s.1:=ZO
     obtain ⟨A,hA⟩:∃A,ZN q (szn s.1)=A:=⟨_,rfl⟩
     refine mc.wp_join (fun us=>us=[⟨I,(szn s.1:Int)⟩,⟨I,(m:Int)⟩,⟨L V3,s.1⟩,⟨L TR,s.2⟩,⟨L (L I),steps s⟩,⟨L I,weak⟩,⟨L I,strong⟩,⟨L (L I),toT s⟩,⟨L (L I),O⟩,⟨L I,tab PT (szn s.1)⟩,⟨L B,tab q (szn s.1)⟩,⟨L I,A⟩]∧isR s p m=true) ?_ ?_
     ·by_cases h1:(ZN q (szn s.1)).length=1
      ·by_cases h2:(steps s).getD m []=[]
       ·have hr1:isR s p m=true:=by rw [hRm];exact ZQ (.inr (.inr h2))
        simp+contextual(maxSteps:=1000000)(disch:=omega)only[↓Sd,↓So,↓Sk,↓den,↓Z0,Sa,Sb,Sc,Se,O1.d,O2.d,O3.d,cmI,arI,Z1,Z2,↓reduceIte,Nat.reduceLT,Nat.reduceSub,Nat.reduceAdd,Int.reduceAdd,Int.reduceEq,Int.reduceLT,Int.reduceLE,ZD,ZE,h1,hTl,h2,List.length_nil]
        exact ⟨hA,hr1⟩
       ·have h2':=List.length_pos_iff.2 h2
        by_cases h3:(m:Int)∈(steps s).getD m []
        ·have hr1:isR s p m=true:=by rw [hRm];exact ZQ (.inr (.inl h3))
         simp+contextual(maxSteps:=1000000)(disch:=omega)only[↓Sd,↓So,↓Sk,↓den,↓Z0,Sa,Sb,Sc,Se,O1.d,O2.d,O3.d,cmI,arI,Z1,Z2,↓reduceIte,Nat.reduceLT,Nat.reduceSub,Nat.reduceAdd,Int.reduceAdd,Int.reduceEq,Int.reduceLT,Int.reduceLE,ZD,ZE,h1,hTl,ZkM _ _ (show ((steps s).getD m []).length≤1048576 by omega),ZQ h3,Bool.not_true]
         exact ⟨hA,hr1⟩
        ·have hr1:¬isR s p m=true:=by
          rw [hRm,ZR]
          ·simp
          ·rintro (g | g | g)
           ·omega
           ·exact h3 g
           ·exact h2 g
         rw [if_neg fun g=>hr1 g.2,List.append_nil] at hnx
         simp+contextual(maxSteps:=1000000)(disch:=omega)only[↓Sd,↓So,↓Sk,↓den,↓Z0,Sa,Sb,Sc,Se,O1.d,O2.d,O3.d,cmI,arI,Z1,Z2,↓reduceIte,Nat.reduceLT,Nat.reduceSub,Nat.reduceAdd,Int.reduceAdd,Int.reduceEq,Int.reduceLT,Int.reduceLE,ZD,ZE,h1,hTl,ZkM _ _ (show ((steps s).getD m []).length≤1048576 by omega),ZR h3,Bool.not_false]
         exact hnx.symm
      ·have hr1:isR s p m=true:=by rw [hRm];exact ZQ (.inl (by omega))
       simp+contextual(maxSteps:=1000000)(disch:=omega)only[↓Sd,↓So,↓Sk,↓den,↓Z0,Sa,Sb,Sc,Se,O1.d,O2.d,O3.d,cmI,arI,Z1,Z2,↓reduceIte,Nat.reduceLT,Nat.reduceSub,Nat.reduceAdd,Int.reduceAdd,Int.reduceEq,Int.reduceLT,Int.reduceLE,ZD,ZE,h1]
       exact ⟨hA,hr1⟩
     ·rintro us ⟨rfl,hr1⟩
      rw [if_pos ⟨hpp.1,hr1⟩] at hnx hb2
      rw [hA] at hall hall2 hal
      refine mc.wp_join (fun us=>us=[⟨B,Zl8 s weak q⟩,⟨I,(szn s.1:Int)⟩,⟨I,(m:Int)⟩,⟨L V3,s.1⟩,⟨L TR,s.2⟩,⟨L (L I),steps s⟩,⟨L I,weak⟩,⟨L I,strong⟩,⟨L (L I),toT s⟩,⟨L (L I),O⟩,⟨L I,tab PT (szn s.1)⟩,⟨L B,tab q (szn s.1)⟩,⟨L I,A⟩]) ?_ ?_
      ·simp+contextual(maxSteps:=1000000)(disch:=omega)only[↓Sd,↓So,↓Sk,↓den,↓Z0,Sa,Sb,Sc,Se,O1.d,O2.d,O3.d,cmI,arI,Z1,Z2,↓reduceIte,Nat.reduceLT,Nat.reduceSub,Nat.reduceAdd,Int.reduceAdd,Int.reduceEq,Int.reduceLT,Int.reduceLE,ZD,ZE,]
       refine mc.lp_for Unit (fun i _=>[⟨L I,weak⟩,⟨I,(weak.length:Int)⟩,⟨I,(i:Int)⟩,⟨I,(szn s.1:Int)⟩,⟨I,(m:Int)⟩,⟨L V3,s.1⟩,⟨L TR,s.2⟩,⟨L (L I),steps s⟩,⟨L I,weak⟩,⟨L I,strong⟩,⟨L (L I),toT s⟩,⟨L B,tab q (szn s.1)⟩,⟨L I,A⟩,⟨L (L I),O⟩,⟨L I,tab PT (szn s.1)⟩])
        (fun i _=>∀k:Nat,(k:Int)∈weak.take i→¬((∀a,a<szn s.1→q a=true→rub s k a=true)∧ZX s k q=false)) weak.length 0 () _ rfl (Nat.zero_le _) (fun k hk=>by simp at hk) ?_ ?_
       ·rintro i _ hi hI
        have hk:=hw _ (ZH (d:=0) hi)
        obtain ⟨k,hk2⟩:∃k:Nat,weak.getD i 0=(k:Int):=⟨_,(Int.toNat_of_nonneg hk.1).symm⟩
        rw [hk2] at hk
        have hkR:k<s.2.length:=Int.ofNat_lt.1 hk.2
        have hnext:¬((∀a,a<szn s.1→q a=true→rub s k a=true)∧ZX s k q=false)→∀k:Nat,(k:Int)∈weak.take (i+1)→¬((∀a,a<szn s.1→q a=true→rub s k a=true)∧ZX s k q=false):=by
         intro h1 j hj
         rcases (ZU hi).1 hj with h2 | h2
         ·exact hI j h2
         ·rw [hk2] at h2
          have:=Int.ofNat_inj.1 h2
          subst this;exact h1
        by_cases hL:ZX s k q=true
        ·simp+contextual(maxSteps:=1000000)(disch:=omega)only[↓Sd,↓So,↓Sk,↓den,↓Z0,Sa,Sb,Sc,Se,O1.d,O2.d,O3.d,cmI,arI,Z1,Z2,↓reduceIte,Nat.reduceLT,Nat.reduceSub,Nat.reduceAdd,Int.reduceAdd,Int.reduceEq,Int.reduceLT,Int.reduceLE,ZD,ZE,↓ZF,hk2,hLd k hkR,hL,Bool.not_true]
         exact hnext fun g=>by rw [hL] at g;exact absurd g.2 (by simp)
        ·have hL':ZX s k q=false:=by simpa using hL
         simp+contextual(maxSteps:=1000000)(disch:=omega)only[↓Sd,↓So,↓Sk,↓den,↓Z0,Sa,Sb,Sc,Se,O1.d,O2.d,O3.d,cmI,arI,Z1,Z2,↓reduceIte,Nat.reduceLT,Nat.reduceSub,Nat.reduceAdd,Int.reduceAdd,Int.reduceEq,Int.reduceLT,Int.reduceLE,ZD,ZE,↓ZF,hk2,hLd k hkR,hL',Bool.not_false]
         refine mc.lp_for Unit (fun j _=>[⟨I,(A.length:Int)⟩,⟨I,(j:Int)⟩,⟨L I,weak⟩,⟨I,(i:Int)⟩,⟨I,(weak.length:Int)⟩,⟨I,(i:Int)⟩,⟨I,(szn s.1:Int)⟩,⟨I,(m:Int)⟩,⟨L V3,s.1⟩,⟨L TR,s.2⟩,⟨L (L I),steps s⟩,⟨L I,weak⟩,⟨L I,strong⟩,⟨L (L I),toT s⟩,⟨L I,A⟩,⟨I,(k:Int)⟩,⟨L B,tab q (szn s.1)⟩,⟨L (L I),O⟩,⟨L I,tab PT (szn s.1)⟩])
          (fun j _=>∀x∈A.take j,rub s k x.toNat=true) A.length 0 () _ rfl (Nat.zero_le _) (fun x hx=>by simp at hx) ?_ ?_
         ·rintro j _ hj hJ
          obtain ⟨a,ha,hja,hqa⟩:=hall j hj
          by_cases hu:rub s k a=true
          ·have hr:=(Zk_ h).2 hu
           simp+contextual(maxSteps:=1000000)(disch:=omega)only[↓Sd,↓So,↓Sk,↓den,↓Z0,Sa,Sb,Sc,Se,O1.d,O2.d,O3.d,cmI,arI,Z1,Z2,↓reduceIte,Nat.reduceLT,Nat.reduceSub,Nat.reduceAdd,Int.reduceAdd,Int.reduceEq,Int.reduceLT,Int.reduceLE,ZD,ZE,↓ZF,hja,hl,hg k hkR,ZK,ZL ha]
           intro x hx
           rcases (ZU hj).1 hx with h2 | h2
           ·exact hJ x h2
           ·rw [h2,hja];exact hu
          ·have hr:=Zl1 h hu
           simp+contextual(maxSteps:=1000000)(disch:=omega)only[↓Sd,↓So,↓Sk,↓den,↓Z0,Sa,Sb,Sc,Se,O1.d,O2.d,O3.d,cmI,arI,Z1,Z2,↓reduceIte,Nat.reduceLT,Nat.reduceSub,Nat.reduceAdd,Int.reduceAdd,Int.reduceEq,Int.reduceLT,Int.reduceLE,ZD,ZE,↓ZF,hja,hl,hg k hkR,ZK,ZL ha,hr,Bool.not_true,decide_eq_true (show (j:Int)≥0 by omega)]
           exact hnext fun g=>hu (g.1 a ha hqa)
         ·rintro _ hJ
          rw [List.take_length] at hJ
          have hD:Zl8 s weak q=true:=ZQ ⟨k,by rw [←hk2];exact ZH hi,fun a ha hqa=>hJ (a:Int) (hall2 a ha hqa),hL'⟩
          simp+contextual(maxSteps:=1000000)(disch:=omega)only[↓Sd,↓So,↓Sk,↓den,↓Z0,Sa,Sb,Sc,Se,O1.d,O2.d,O3.d,cmI,arI,Z1,Z2,↓reduceIte,Nat.reduceLT,Nat.reduceSub,Nat.reduceAdd,Int.reduceAdd,Int.reduceEq,Int.reduceLT,Int.reduceLE,ZD,ZE,↓ZF,hD,decide_eq_false (show ¬(-1:Int)≥0 by omega),Bool.not_false,decide_eq_true (show (i:Int)≥0 by omega)]
          exact fun hx=>absurd (decide_eq_false (by omega)) hx
       ·rintro _ hI
        rw [List.take_length] at hI
        have hD:Zl8 s weak q=false:=ZR fun ⟨k,h1,h2⟩=>hI k h1 h2
        simp+contextual(maxSteps:=1000000)(disch:=omega)only[↓Sd,↓So,↓Sk,↓den,↓Z0,Sa,Sb,Sc,Se,O1.d,O2.d,O3.d,cmI,arI,Z1,Z2,↓reduceIte,Nat.reduceLT,Nat.reduceSub,Nat.reduceAdd,Int.reduceAdd,Int.reduceEq,Int.reduceLT,Int.reduceLE,ZD,ZE,hD]
        exact decide_eq_false (by omega)
      ·rintro us rfl
       by_cases hD:Zl8 s weak q=true
       ·have hc2:Z_ s weak strong (crs s weak strong f) q=[]:=if_pos hD
        rw [hc2,List.append_nil] at hnx
        simp+contextual(maxSteps:=1000000)(disch:=omega)only[↓Sd,↓So,↓Sk,↓den,↓Z0,Sa,Sb,Sc,Se,O1.d,O2.d,O3.d,cmI,arI,Z1,Z2,↓reduceIte,Nat.reduceLT,Nat.reduceSub,Nat.reduceAdd,Int.reduceAdd,Int.reduceEq,Int.reduceLT,Int.reduceLE,ZD,ZE,hD]
        exact hnx.symm
       ·have hD':Zl8 s weak q=false:=by simpa using hD
        simp+contextual(maxSteps:=1000000)(disch:=omega)only[↓Sd,↓So,↓Sk,↓den,↓Z0,Sa,Sb,Sc,Se,O1.d,O2.d,O3.d,cmI,arI,Z1,Z2,↓reduceIte,Nat.reduceLT,Nat.reduceSub,Nat.reduceAdd,Int.reduceAdd,Int.reduceEq,Int.reduceLT,Int.reduceLE,ZD,ZE,hD',Zlw (tab q (szn s.1)) (fun g=>by have:=congrArg List.length g;rw [ZK] at this;simp at this;omega) (by rw [ZK];omega)]
        refine mc.lp_for (Bool×(Nat→Bool)) (fun i z=>[⟨B,z.1⟩,⟨I,(szn s.1:Int)⟩,⟨I,(m:Int)⟩,⟨L I,strong⟩,⟨I,(strong.length:Int)⟩,⟨I,(i:Int)⟩,⟨L V3,s.1⟩,⟨L TR,s.2⟩,⟨L (L I),steps s⟩,⟨L I,weak⟩,⟨L I,strong⟩,⟨L (L I),toT s⟩,⟨L (L I),O⟩,⟨L I,tab PT (szn s.1)⟩,⟨L B,tab q (szn s.1)⟩,⟨L I,A⟩,⟨L B,tab z.2 (szn s.1)⟩])
         (fun i z=>(∀a,a<szn s.1→z.2 a=ZZ s (strong.take i) q a)∧z.1=Zlu s (strong.take i) q) strong.length 0 (false,q) _ rfl (Nat.zero_le _) ⟨fun a _=>?_,?_⟩ ?_ ?_
        ·unfold ZZ
         rw [ZR]
         ·simp
         ·rintro ⟨k,h1,-⟩;simp at h1
        ·refine (ZR ?_).symm
         rintro ⟨a,-,h2,h3⟩
         refine h3 ?_
         unfold ZZ
         rw [ZR]
         ·simp [h2]
         ·rintro ⟨k,h1,-⟩;simp at h1
        ·rintro i ⟨cg,lf⟩ hi ⟨hz1,hz2⟩
         dsimp only at hz1 hz2
         have hk:=hst _ (ZH (d:=0) hi)
         obtain ⟨k,hk2⟩:∃k:Nat,strong.getD i 0=(k:Int):=⟨_,(Int.toNat_of_nonneg hk.1).symm⟩
         rw [hk2] at hk
         have hkR:k<s.2.length:=Int.ofNat_lt.1 hk.2
         have hsn:=fun a=>Zlt (s:=s) (q:=q) hi hk2 a
         by_cases hL:ZX s k q=true
         ·have hsn2:∀a,ZZ s (strong.take (i+1)) q a=ZZ s (strong.take i) q a:=fun a=>by rw [hsn,hL];simp
          simp+contextual(maxSteps:=1000000)(disch:=omega)only[↓Sd,↓So,↓Sk,↓den,↓Z0,Sa,Sb,Sc,Se,O1.d,O2.d,O3.d,cmI,arI,Z1,Z2,↓reduceIte,Nat.reduceLT,Nat.reduceSub,Nat.reduceAdd,Int.reduceAdd,Int.reduceEq,Int.reduceLT,Int.reduceLE,ZD,ZE,↓ZF,hk2,hLd k hkR,hL]
          refine ⟨(cg,lf),⟨rfl,rfl⟩,fun a ha=>by rw [hsn2];exact hz1 a ha,?_⟩
          dsimp only
          rw [hz2]
          exact ZiW (by simp only [hsn2])
         ·have hL':ZX s k q=false:=by simpa using hL
          have hsn2:∀a,ZZ s (strong.take (i+1)) q a=(ZZ s (strong.take i) q a&&!rub s k a):=fun a=>by rw [hsn,hL'];simp
          simp+contextual(maxSteps:=1000000)(disch:=omega)only[↓Sd,↓So,↓Sk,↓den,↓Z0,Sa,Sb,Sc,Se,O1.d,O2.d,O3.d,cmI,arI,Z1,Z2,↓reduceIte,Nat.reduceLT,Nat.reduceSub,Nat.reduceAdd,Int.reduceAdd,Int.reduceEq,Int.reduceLT,Int.reduceLE,ZD,ZE,↓ZF,hk2,hLd k hkR,hL']
          refine mc.lp_for (Bool×(Nat→Bool)) (fun j z=>[⟨B,z.1⟩,⟨I,(k:Int)⟩,⟨I,(szn s.1:Int)⟩,⟨I,(m:Int)⟩,⟨L I,strong⟩,⟨I,(strong.length:Int)⟩,⟨I,(i:Int)⟩,⟨I,(A.length:Int)⟩,⟨I,(j:Int)⟩,⟨L V3,s.1⟩,⟨L TR,s.2⟩,⟨L (L I),steps s⟩,⟨L I,weak⟩,⟨L I,strong⟩,⟨L (L I),toT s⟩,⟨L (L I),O⟩,⟨L I,tab PT (szn s.1)⟩,⟨L B,tab q (szn s.1)⟩,⟨L I,A⟩,⟨L B,tab z.2 (szn s.1)⟩])
           (fun j z=>(∀a,a<szn s.1→z.2 a=(lf a&&!(rub s k a&&dB ((a:Int)∈A.take j))))∧z.1=(cg||dB (∃x∈A.take j,rub s k x.toNat=true))) A.length 0 (cg,lf) _ rfl (Nat.zero_le _) ⟨fun a _=>?_,?_⟩ ?_ ?_
          ·rw [ZR (by simp)];simp
          ·rw [ZR (by simp)];simp
          ·rintro j ⟨cg2,lf2⟩ hj ⟨hy1,hy2⟩
           dsimp only at hy1 hy2
           obtain ⟨a,ha,hja,hqa⟩:=hall j hj
           have hmn:∀b:Nat,(b:Int)∈A.take (j+1)↔(b:Int)∈A.take j∨b=a:=fun b=>by
            rw [ZU hj,hja]
            exact or_congr Iff.rfl ⟨fun g=>Int.ofNat_inj.1 g,fun g=>by rw [g]⟩
           by_cases hu:rub s k a=true
           ·have hr:=(Zk_ h).2 hu
            simp+contextual(maxSteps:=1000000)(disch:=omega)only[↓Sd,↓So,↓Sk,↓den,↓Z0,Sa,Sb,Sc,Se,O1.d,O2.d,O3.d,cmI,arI,Z1,Z2,↓reduceIte,Nat.reduceLT,Nat.reduceSub,Nat.reduceAdd,Int.reduceAdd,Int.reduceEq,Int.reduceLT,Int.reduceLE,ZD,ZE,↓ZF,hja,hl,hg k hkR,ZK,ZL ha,ZiX]
            refine ⟨(true,fun b=>if b=a then false else lf2 b),⟨rfl,rfl⟩,fun b hb=>?_,?_⟩
            ·dsimp only
             by_cases he:b=a
             ·subst he
              rw [if_pos rfl,hu,ZQ ((hmn b).2 (.inr rfl))];simp
             ·rw [if_neg he,hy1 b hb,ZiW (show (b:Int)∈A.take (j+1)↔(b:Int)∈A.take j from ⟨fun g=>((hmn b).1 g).resolve_right he,fun g=>(hmn b).2 (.inl g)⟩)]
            ·dsimp only
             rw [ZQ (show ∃x∈A.take (j+1),rub s k x.toNat=true from ⟨(a:Int),(hmn a).2 (.inr rfl),hu⟩)];simp
           ·have hr:=Zl1 h hu
            simp+contextual(maxSteps:=1000000)(disch:=omega)only[↓Sd,↓So,↓Sk,↓den,↓Z0,Sa,Sb,Sc,Se,O1.d,O2.d,O3.d,cmI,arI,Z1,Z2,↓reduceIte,Nat.reduceLT,Nat.reduceSub,Nat.reduceAdd,Int.reduceAdd,Int.reduceEq,Int.reduceLT,Int.reduceLE,ZD,ZE,↓ZF,hja,hl,hg k hkR,ZK,ZL ha,hr]
            refine ⟨(cg2,lf2),⟨rfl,rfl⟩,fun b hb=>?_,?_⟩
            ·dsimp only
             rw [hy1 b hb]
             by_cases he:b=a
             ·subst he
              have:rub s k b=false:=by simpa using hu
              rw [this];simp
             ·rw [ZiW (show (b:Int)∈A.take (j+1)↔(b:Int)∈A.take j from ⟨fun g=>((hmn b).1 g).resolve_right he,fun g=>(hmn b).2 (.inl g)⟩)]
            ·dsimp only
             rw [hy2]
             congr 1
             refine ZiW ⟨?_,?_⟩
             ·rintro ⟨x,h1,h2⟩;exact ⟨x,(ZU hj).2 (.inl h1),h2⟩
             ·rintro ⟨x,h1,h2⟩
              rcases (ZU hj).1 h1 with h3 | h3
              ·exact ⟨x,h3,h2⟩
              ·rw [h3,hja] at h2;exact absurd h2 hu
          ·rintro ⟨cg2,lf2⟩ ⟨hy1,hy2⟩
           dsimp only at hy1 hy2
           rw [List.take_length] at hy1 hy2
           simp+contextual(maxSteps:=1000000)(disch:=omega)only[↓Sd,↓So,↓Sk,↓den,↓Z0,Sa,Sb,Sc,Se,O1.d,O2.d,O3.d,cmI,arI,Z1,Z2,↓reduceIte,Nat.reduceLT,Nat.reduceSub,Nat.reduceAdd,Int.reduceAdd,Int.reduceEq,Int.reduceLT,Int.reduceLE,ZD,ZE,↓ZF,]
           refine ⟨(cg2,lf2),⟨rfl,rfl⟩,fun a ha=>?_,?_⟩
           ·dsimp only
            rw [hy1 a ha,hsn2,hz1 a ha]
            by_cases hqa:q a=true
            ·rw [ZQ (hall2 a ha hqa),Bool.and_true]
            ·have:ZZ s (strong.take i) q a=false:=by
              cases hs:ZZ s (strong.take i) q a with
              | false=>rfl
              | true=>exact absurd (Zle hs) hqa
             rw [this];rfl
           ·dsimp only
            rw [hy2,hz2]
            by_cases h1:Zlu s (strong.take i) q=true
            ·obtain ⟨a,a1,a2,a3⟩:=ZiV.1 h1
             rw [h1,Bool.true_or]
             exact (ZQ ⟨a,a1,a2,by rw [hsn2];simp only [Bool.and_eq_true,not_and];exact fun g=>absurd g a3⟩).symm
            ·have h1':Zlu s (strong.take i) q=false:=by simpa using h1
             rw [h1',Bool.false_or]
             refine ZiW ⟨?_,?_⟩
             ·rintro ⟨x,x1,x2⟩
              obtain ⟨jj,hjj,rfl⟩:=List.getElem_of_mem x1
              obtain ⟨a,b1,b2,b3⟩:=hall jj hjj
              rw [List.getD_eq_getElem?_getD,List.getElem?_eq_getElem hjj,Option.getD_some] at b2
              rw [b2] at x2
              simp only [Int.toNat_natCast] at x2
              exact ⟨a,b1,b3,by rw [hsn2,x2];simp⟩
             ·rintro ⟨a,a1,a2,a3⟩
              have h4:ZZ s (strong.take i) q a=true:=by
               cases hs:ZZ s (strong.take i) q a with
               | true=>rfl
               | false=>exact absurd (ZQ ⟨a,a1,a2,by rw [hs];simp⟩) h1
              refine ⟨(a:Int),hall2 a a1 a2,?_⟩
              rw [hsn2,h4] at a3
              simpa using a3
        ·rintro ⟨cg,lf⟩ ⟨hz1,hz2⟩
         dsimp only at hz1 hz2
         rw [List.take_length] at hz1 hz2
         have hlf:tab lf (szn s.1)=tab (ZZ s strong q) (szn s.1):=ZS hz1
         by_cases hC:Zlu s strong q=true
         ·have hne:=Zlv.1 hC
          have hc2:Z_ s weak strong (crs s weak strong f) q=crs s weak strong f (ZZ s strong q):=by unfold Z_;rw [if_neg hD,if_neg hne]
          rw [hc2] at hnx hb2
          have hlt:=Zlp hne
          rw [hA] at hlt hql hqp
          obtain ⟨f',rfl⟩:∃f',f=f'+1:=⟨f - 1,by omega⟩
          have hih:=fun Q=>ih f' (Nat.lt_succ_self _) (ZZ s strong q) (by omega) Q
          simp+contextual(maxSteps:=1000000)(disch:=omega)only[↓Sd,↓So,↓Sk,↓den,↓Z0,Sa,Sb,Sc,Se,O1.d,O2.d,O3.d,cmI,arI,Z1,Z2,↓reduceIte,Nat.reduceLT,Nat.reduceSub,Nat.reduceAdd,Int.reduceAdd,Int.reduceEq,Int.reduceLT,Int.reduceLE,ZD,ZE,hz2,hC,hlf,hih]
          exact hnx.symm
         ·have hC':Zlu s strong q=false:=by simpa using hC
          have hc2:Z_ s weak strong (crs s weak strong f) q=[A]:=by
           unfold Z_
           rw [if_neg hD,if_pos (Classical.not_not.1 fun g=>hC (Zlv.2 g)),hA]
          rw [hc2] at hnx hb2
          simp only [List.length_singleton] at hb2
          simp+contextual(maxSteps:=1000000)(disch:=omega)only[↓Sd,↓So,↓Sk,↓den,↓Z0,Sa,Sb,Sc,Se,O1.d,O2.d,O3.d,cmI,arI,Z1,Z2,↓reduceIte,Nat.reduceLT,Nat.reduceSub,Nat.reduceAdd,Int.reduceAdd,Int.reduceEq,Int.reduceLT,Int.reduceLE,ZD,ZE,hz2,hC']
          exact hnx.symm
   ·have hno:¬(p m=true∧isR s p m=true):=fun g=>hpm (hPm.2 (Zlg g.1 g.2))
    rw [if_neg hno,List.append_nil] at hnx
    simp+contextual(maxSteps:=1000000)(disch:=omega)only[↓Sd,↓So,↓Sk,↓den,↓Z0,Sa,Sb,Sc,Se,O1.d,O2.d,O3.d,cmI,arI,Z1,Z2,↓reduceIte,Nat.reduceLT,Nat.reduceSub,Nat.reduceAdd,Int.reduceAdd,Int.reduceEq,Int.reduceLT,Int.reduceLE,ZD,ZE,ZK,ZL hm,hpm]
    exact hnx.symm
   ·rintro us rfl
    simp+contextual(maxSteps:=1000000)(disch:=omega)only[↓Sd,↓So,↓Sk,↓den,↓Z0,Sa,Sb,Sc,Se,O1.d,O2.d,O3.d,cmI,arI,Z1,Z2,↓reduceIte,Nat.reduceLT,Nat.reduceSub,Nat.reduceAdd,Int.reduceAdd,Int.reduceEq,Int.reduceLT,Int.reduceLE,ZD,ZE,]
  ·rintro o rfl
   simp+contextual(maxSteps:=1000000)(disch:=omega)only[↓Sd,↓So,↓Sk,↓den,↓Z0,Sa,Sb,Sc,Se,O1.d,O2.d,O3.d,cmI,arI,Z1,Z2,↓reduceIte,Nat.reduceLT,Nat.reduceSub,Nat.reduceAdd,Int.reduceAdd,Int.reduceEq,Int.reduceLT,Int.reduceLE,ZD,ZE,]
theorem Zly (s:Sy) (l:List Int) (hs:ZI s) (hl:l.length≤1048576) (Q:List AV→Prop):mc.C Zbd [⟨L V3,s.1⟩,⟨L TR,s.2⟩,⟨L I,l⟩] Q=Q [⟨B,decide (ZT l (s.2.length:Int)∧valid s)⟩]:=by
 refine Mc.Ends.c (mc.ends Zf5 ?_)
 generalize hK:decide (ZT l (s.2.length:Int)∧valid s)=K
 have hR:s.2.length≤1048576:=hs.2.1
 simp+contextual(maxSteps:=1000000)(disch:=omega)only[↓Sd,↓So,↓Sk,↓den,↓Z0,Sa,Sb,Sc,Se,O1.d,O2.d,O3.d,cmI,arI,Z1,Z2,↓reduceIte,Nat.reduceLT,Nat.reduceSub,Nat.reduceAdd,Int.reduceAdd,Int.reduceEq,Int.reduceLT,Int.reduceLE,ZD,ZE,Zda]
 refine ZgT (fun i=>[⟨L I,l⟩,⟨I,(i:Int)⟩,⟨L V3,s.1⟩,⟨L TR,s.2⟩]) (fun i=>(0≤l.getD i 0∧l.getD i 0≤(s.2.length:Int) - 1)∧(0<i→l.getD (i - 1) 0<l.getD i 0)) l.length _ rfl ?_ ?_
 ·intro i hi
  have hno:¬((0≤l.getD i 0∧l.getD i 0≤(s.2.length:Int) - 1)∧(0<i→l.getD (i - 1) 0<l.getD i 0))→false=K:=fun h=>by rw [←hK,decide_eq_false];exact fun h1=>h (h1.1 i hi)
  simp+contextual(maxSteps:=1000000)(disch:=omega)only[↓Sd,↓So,↓Sk,↓den,↓Z0,Sa,Sb,Sc,Se,O1.d,O2.d,O3.d,cmI,arI,Z1,Z2,↓reduceIte,Nat.reduceLT,Nat.reduceSub,Nat.reduceAdd,Int.reduceAdd,Int.reduceEq,Int.reduceLT,Int.reduceLE,ZD,ZE,↓ZF,ZgX]
  grind
 ·intro h
  simp+contextual(maxSteps:=1000000)(disch:=omega)only[↓Sd,↓So,↓Sk,↓den,↓Z0,Sa,Sb,Sc,Se,O1.d,O2.d,O3.d,cmI,arI,Z1,Z2,↓reduceIte,Nat.reduceLT,Nat.reduceSub,Nat.reduceAdd,Int.reduceAdd,Int.reduceEq,Int.reduceLT,Int.reduceLE,ZD,ZE,Zhs s hs]
  rw [←hK];exact decide_eq_decide.2 ⟨fun g=>⟨h,g⟩,fun g=>g.2⟩
def Zlz (s:Sy) (weak strong l:List Int):Prop:=Zjq s l∧ZT weak (s.2.length:Int)∧ZT strong (s.2.length:Int)
theorem Zlz.rl {s:Sy} {weak strong l:List Int} (h:Zlz s weak strong l):Zla s weak∧Zla s strong:=⟨fun x hx=>ZiZ h.2.1 x hx,fun x hx=>ZiZ h.2.2 x hx⟩
noncomputable def mks (l:List Int) (k:Nat):Bool:=dB ((k:Int)∈l)
end Go.Proofs.YtknlennollmgeaaGreat
namespace Go.Proofs.YtknlennollmgeaaGreat
open Go Go.Sm Go.Sm.Q
set_option linter.unusedSimpArgs false
set_option linter.unusedVariables false
theorem ZlA {l:List Int} {n:Nat} (h:ZT l n):ZN (mks l) n=l:=by
 have key:∀m,m≤n→ZN (mks l) m=l.filter fun x=>decide (x<(m:Int)):=by
  intro m
  induction m with
  | zero =>
   intro _
   refine (List.filter_eq_nil_iff.2 fun x hx=>?_).symm
   have:=ZiZ h x hx
   simp;omega
  | succ m ih =>
   intro hm
   have hp:l.Pairwise (fun a b=>a<b):=by
    rw [List.pairwise_iff_getElem]
    intro i j hi hj hij
    have:∀d,i+d+1<l.length→l.getD i 0<l.getD (i+d+1) 0:=by
     intro d
     induction d with
     | zero=>intro hd;exact (h (i+1) hd).2 (by omega)
     | succ d ihd =>
      intro hd
      have h1:=ihd (by omega)
      have h2:=(h (i+(d+1)+1) hd).2 (by omega)
      rw [show i+(d+1)+1 - 1=i+d+1 by omega] at h2
      omega
    have h3 := this (j - i - 1) (by omega)
    rw [show i + (j - i - 1) + 1 = j by omega] at h3
    rwa [List.getD_eq_getElem?_getD,List.getD_eq_getElem?_getD,List.getElem?_eq_getElem hi,List.getElem?_eq_getElem hj] at h3
   rw [ZN,ih (by omega)]
   clear ih
   unfold mks
   have hcl:∀(l:List Int),l.Pairwise (fun a b=>a<b)→l.filter (fun x=>decide (x<((m+1:Nat):Int)))=l.filter (fun x=>decide (x<(m:Int)))++if (m:Int)∈l then [(m:Int)] else []:=by
    intro l
    induction l with
    | nil=>intro _;simp
    | cons x l ihl =>
     intro hq
     obtain ⟨q1,q2⟩:=List.pairwise_cons.1 hq
     have e:=ihl q2
     by_cases hx:x<(m:Int)
     ·have hx2:x<((m+1:Nat):Int):=by omega
      have hne:¬(m:Int)=x:=by omega
      rw [List.filter_cons_of_pos (by simpa using hx2),List.filter_cons_of_pos (by simpa using hx),e]
      simp [hne]
     ·by_cases he:x=(m:Int)
      ·subst he
       have h0:l.filter (fun x=>decide (x<((m+1:Nat):Int)))=[]:=List.filter_eq_nil_iff.2 fun y hy=>by have:=q1 y hy;simp;omega
       have h1:l.filter (fun x=>decide (x<(m:Int)))=[]:=List.filter_eq_nil_iff.2 fun y hy=>by have:=q1 y hy;simp;omega
       rw [List.filter_cons_of_pos (by simp;omega),List.filter_cons_of_neg (by simp),h0,h1]
       simp
      ·have h0:∀y∈x::l,(m:Int)<y:=fun y hy=>by
        rcases List.mem_cons.1 hy with rfl | hy
        ·omega
        ·have:=q1 y hy;omega
       have h1:(x::l).filter (fun x=>decide (x<((m+1:Nat):Int)))=[]:=List.filter_eq_nil_iff.2 fun y hy=>by have:=h0 y hy;simp;omega
       have h2:(x::l).filter (fun x=>decide (x<(m:Int)))=[]:=List.filter_eq_nil_iff.2 fun y hy=>by have:=h0 y hy;simp;omega
       rw [h1,h2,if_neg fun g=>by have:=h0 _ g;omega];rfl
   rw [hcl l hp]
   by_cases hm2:(m:Int)∈l
   ·rw [if_pos (ZQ hm2),if_pos hm2]
   ·rw [if_neg (by rw [ZR hm2];simp),if_neg hm2,List.append_nil]
 rw [key n (Nat.le_refl _)]
 exact List.filter_eq_self.2 fun x hx=>by have:=ZiZ h x hx;simpa using this.2
noncomputable def ZlB (s:Sy) (weak strong l:List Int):List (List Int):=crs s weak strong (szn s.1+1) (mks l)
noncomputable def ZlC (s:Sy) (weak strong l:List Int):List (List Int):=if dB (Zlz s weak strong l)=true then ZlB s weak strong l else []
theorem ZlD {s:Sy} {weak strong l:List Int} (h:valid s):ZkI (ZlB s weak strong l):=by
 have hz:=ZM h
 have h1:=Zll (s:=s) (weak:=weak) (strong:=strong) (f:=szn s.1+1) (p:=mks l)
 have h2:=Zli (s:=s) (weak:=weak) (strong:=strong) (f:=szn s.1+1) (p:=mks l)
 refine ⟨by unfold ZlB;omega,fun c hc=>?_⟩
 obtain ⟨q,rfl,-,-⟩:=h2.sub c hc
 have:=@ZO q (szn s.1)
 omega
theorem ZlE (s:Sy) (weak strong:List Int) (hs:ZI s) (hwl:weak.length≤1048576) (hsl:strong.length≤1048576) (Q:List AV→Prop) :
  mc.C Zbe [⟨L V3,s.1⟩,⟨L TR,s.2⟩,⟨L I,weak⟩,⟨L I,strong⟩] Q=Q [⟨B,decide (valid s∧ZT weak (s.2.length:Int)∧ZT strong (s.2.length:Int))⟩]:=by
 refine Mc.Ends.c (mc.ends Zf6 ?_)
 generalize hK:decide (valid s∧ZT weak (s.2.length:Int)∧ZT strong (s.2.length:Int))=K
 simp+contextual(maxSteps:=1000000)(disch:=omega)only[↓Sd,↓So,↓Sk,↓den,↓Z0,Sa,Sb,Sc,Se,O1.d,O2.d,O3.d,cmI,arI,Z1,Z2,↓reduceIte,Nat.reduceLT,Nat.reduceSub,Nat.reduceAdd,Int.reduceAdd,Int.reduceEq,Int.reduceLT,Int.reduceLE,ZD,ZE,Zdb,Zly s weak hs hwl,Zly s strong hs hsl]
 rw [←hK]
 refine ⟨fun h1=>?_,fun h1=>?_⟩
 ·have h2:=h1.1
  have h3:=h1.2
  refine Eq.symm (decide_eq_decide.2 ⟨fun g=>?_,fun g=>?_⟩)
  ·first | exact g.2.2 | exact ⟨g.2.2,g.1⟩
  ·first | exact ⟨h3,h2,g⟩ | exact ⟨g.2,h2,g.1⟩
 ·exact (decide_eq_false fun g=>h1 ⟨g.2.1,g.1⟩).symm
theorem ZlF (s:Sy) (weak strong l:List Int) (hs:ZI s) (hwl:weak.length≤1048576) (hsl:strong.length≤1048576) (hl:l.length≤1048576) (Q:List AV→Prop) :
  mc.C ZbJ [⟨L V3,s.1⟩,⟨L TR,s.2⟩,⟨L I,weak⟩,⟨L I,strong⟩,⟨L I,l⟩] Q=Q [⟨L (L I),ZlC s weak strong l⟩]:=by
 refine Mc.Ends.c (mc.ends ZfB ?_)
 by_cases hok:Zlz s weak strong l
 ·have hv:=hok.1.1
  have hz:=ZM hv
  have hlu:ZN (mks l) (szn s.1)=l:=ZlA hok.1.n
  have hco:ZlC s weak strong l=ZlB s weak strong l:=by unfold ZlC;rw [if_pos (ZQ hok)]
  have hC:=fun Q=>Zlq s hs hv weak strong hok.rl.1 hok.rl.2 hwl hsl (szn s.1) (mks l) ZO Q
  rw [hlu] at hC
  have hCe:crs s weak strong (szn s.1+1) (mks l)=ZlB s weak strong l:=rfl
  have hsm:=ZlD (weak:=weak) (strong:=strong) (l:=l) hv
  rw [hco]
  rw [hCe] at hC
  generalize ZlB s weak strong l=M at hC hsm
  have h1:=hsm.1
  simp+contextual(maxSteps:=1000000)(disch:=omega)only[↓Sd,↓So,↓Sk,↓den,↓Z0,Sa,Sb,Sc,Se,O1.d,O2.d,O3.d,cmI,arI,Z1,Z2,↓reduceIte,Nat.reduceLT,Nat.reduceSub,Nat.reduceAdd,Int.reduceAdd,Int.reduceEq,Int.reduceLT,Int.reduceLE,ZD,ZE,ZdG,ZlE s weak strong hs hwl hsl,decide_eq_true (show valid s∧ZT weak (s.2.length:Int)∧ZT strong (s.2.length:Int) from ⟨hv,hok.2⟩),Bool.not_true,Zjs s l hs hl,decide_eq_true hok.1,ZiN s hs hv,Zl4 s hs hv,hC]
  refine mc.lp_for (List (List Int)) (fun i o=>[⟨I,(i:Int)⟩,⟨L (L I),o⟩,⟨L (L I),M⟩]) (fun i o=>o=M.take i) M.length 0 [] _ rfl (Nat.zero_le _) rfl ?_ ?_
  ·rintro i o hi rfl
   have h2:=hsm.row i
   have h3:(M.take i).length≤4000:=by rw [List.length_take];omega
   simp+contextual(maxSteps:=1000000)(disch:=omega)only[↓Sd,↓So,↓Sk,↓den,↓Z0,Sa,Sb,Sc,Se,O1.d,O2.d,O3.d,cmI,arI,Z1,Z2,↓reduceIte,Nat.reduceLT,Nat.reduceSub,Nat.reduceAdd,Int.reduceAdd,Int.reduceEq,Int.reduceLT,Int.reduceLE,ZD,ZE,Ziq (M.getD i []) (by omega)]
   exact ZhY hi
  ·rintro o rfl
   rw [List.take_length]
   simp+contextual(maxSteps:=1000000)(disch:=omega)only[↓Sd,↓So,↓Sk,↓den,↓Z0,Sa,Sb,Sc,Se,O1.d,O2.d,O3.d,cmI,arI,Z1,Z2,↓reduceIte,Nat.reduceLT,Nat.reduceSub,Nat.reduceAdd,Int.reduceAdd,Int.reduceEq,Int.reduceLT,Int.reduceLE,ZD,ZE,]
 ·have hco:ZlC s weak strong l=[]:=by unfold ZlC;rw [if_neg (by rw [ZR hok];simp)]
  rw [hco]
  by_cases h1:valid s∧ZT weak (s.2.length:Int)∧ZT strong (s.2.length:Int)
  ·have h2:¬Zjq s l:=fun g=>hok ⟨g,h1.2⟩
   simp+contextual(maxSteps:=1000000)(disch:=omega)only[↓Sd,↓So,↓Sk,↓den,↓Z0,Sa,Sb,Sc,Se,O1.d,O2.d,O3.d,cmI,arI,Z1,Z2,↓reduceIte,Nat.reduceLT,Nat.reduceSub,Nat.reduceAdd,Int.reduceAdd,Int.reduceEq,Int.reduceLT,Int.reduceLE,ZD,ZE,ZdG,ZlE s weak strong hs hwl hsl,decide_eq_true h1,Bool.not_true,Zjs s l hs hl,decide_eq_false h2,Bool.not_false]
  ·simp+contextual(maxSteps:=1000000)(disch:=omega)only[↓Sd,↓So,↓Sk,↓den,↓Z0,Sa,Sb,Sc,Se,O1.d,O2.d,O3.d,cmI,arI,Z1,Z2,↓reduceIte,Nat.reduceLT,Nat.reduceSub,Nat.reduceAdd,Int.reduceAdd,Int.reduceEq,Int.reduceLT,Int.reduceLE,ZD,ZE,ZdG,ZlE s weak strong hs hwl hsl,decide_eq_false h1,Bool.not_false]
theorem ZlG {X:List (List Int)} {i:Nat} (h:i<X.length):(X.take (i+1)).flatten=(X.take i).flatten++X.getD i []:=by
 rw [←ZhY (d:=[]) h,List.flatten_append];simp
theorem ZlH {X:List (List Int)} {i:Nat}:(X.take i).flatten.length≤X.flatten.length:=by
 conv=>rhs;rw [←List.take_append_drop i X,List.flatten_append,List.length_append]
 omega
theorem ZlI {s:Sy} {p:Nat→Bool} {L:List (List Int)} (h:CorOf s p L):L.flatten.length≤szn s.1:=by
 have h1:(L.flatten.map fun x=>[x]).length≤szn s.1:=by
  refine Zlk ?_ fun c hc=>?_
  ·rw [List.pairwise_map]
   have h2:L.flatten.Pairwise (fun a b=>a≠b):=by
    rw [List.pairwise_flatten]
    refine ⟨fun c hc=>?_,h.dj.imp fun {c d} hcd x hx y hy he=>hcd x hx (by rw [he];exact hy)⟩
    obtain ⟨q,rfl,-,-⟩:=h.sub c hc
    have:=roots_pw (f:=fun _=>true) (p:=q) (n:=szn s.1)
    rw [List.filter_eq_self.2 (fun _ _=>rfl)] at this
    exact this.imp fun hab=>by omega
   exact h2.imp fun hab x hx hy=>by simp only [List.mem_singleton] at hx hy;exact hab (hx.symm.trans hy)
  ·obtain ⟨x,hx,rfl⟩:=List.mem_map.1 hc
   refine ⟨by simp,fun y hy=>?_⟩
   rw [List.mem_singleton.1 hy]
   obtain ⟨c,h3,h4⟩:=List.mem_flatten.1 hx
   obtain ⟨q,rfl,-,-⟩:=h.sub c h3
   obtain ⟨a,h5,rfl,_⟩:=ZP.1 h4
   omega
 rwa [List.length_map] at h1
theorem ZlJ {s:Sy} {p:Nat→Bool} {L:List (List Int)} (h:CorOf s p L) {x:Int} (hx:x∈L.flatten):∃a:Nat,x=(a:Int)∧a<szn s.1∧p a=true:=by
 obtain ⟨c,h3,h4⟩:=List.mem_flatten.1 hx
 obtain ⟨q,rfl,-,h5⟩:=h.sub c h3
 obtain ⟨a,h6,rfl,h7⟩:=ZP.1 h4
 exact ⟨a,rfl,h6,h5 a h7⟩
noncomputable def ZlK (s:Sy) (p:Nat→Bool) (F:List Int) (k:Nat):Bool:=dB (Rch (Zjy (ZY s p) (szn s.1)) F k)
theorem ZlL {s:Sy} {p:Nat→Bool} {k:Nat}:ZlK s p [] k=false:=ZR fun h=>by
 induction h with
 | base h=>simp at h
 | step _ _ ih=>exact ih
theorem ZlM (X:List (List Int)) (h:X.flatten.length≤4000000) (hx:X.length≤4000) (Q:List AV→Prop):mc.C ZcH [⟨L (L I),X⟩] Q=Q [⟨L I,X.flatten⟩]:=by
 refine Mc.Ends.c (mc.ends ZgA ?_)
 simp+contextual(maxSteps:=1000000)(disch:=omega)only[↓Sd,↓So,↓Sk,↓den,↓Z0,Sa,Sb,Sc,Se,O1.d,O2.d,O3.d,cmI,arI,Z1,Z2,↓reduceIte,Nat.reduceLT,Nat.reduceSub,Nat.reduceAdd,Int.reduceAdd,Int.reduceEq,Int.reduceLT,Int.reduceLE,ZD,ZE,ZeF]
 refine mc.lp_for Unit (fun i _=>[⟨L (L I),X⟩,⟨I,((X.take i).flatten.length:Int)⟩,⟨L (L I),X⟩,⟨I,(X.length:Int)⟩,⟨I,(i:Int)⟩]) (fun _ _=>True) X.length 0 () _ rfl (by omega) trivial ?_ ?_
 ·rintro i - hi -
  have h1:=@ZlH X (i+1)
  rw [ZlG hi] at h1 ⊢
  rw [List.length_append] at h1 ⊢
  simp+contextual(maxSteps:=1000000)(disch:=omega)only[↓Sd,↓So,↓Sk,↓den,↓Z0,Sa,Sb,Sc,Se,O1.d,O2.d,O3.d,cmI,arI,Z1,Z2,↓reduceIte,Nat.reduceLT,Nat.reduceSub,Nat.reduceAdd,Int.reduceAdd,Int.reduceEq,Int.reduceLT,Int.reduceLE,ZD,ZE,]
 ·rintro - -
  rw [List.take_length]
  simp+contextual(maxSteps:=1000000)(disch:=omega)only[↓Sd,↓So,↓Sk,↓den,↓Z0,Sa,Sb,Sc,Se,O1.d,O2.d,O3.d,cmI,arI,Z1,Z2,↓reduceIte,Nat.reduceLT,Nat.reduceSub,Nat.reduceAdd,Int.reduceAdd,Int.reduceEq,Int.reduceLT,Int.reduceLE,ZD,ZE,]
  refine mc.lp_for (List Int) (fun i o=>[⟨L (L I),X⟩,⟨I,(X.length:Int)⟩,⟨I,(i:Int)⟩,⟨L I,o⟩]) (fun i o=>o=(X.take i).flatten) X.length 0 [] _ rfl (by omega) (by simp) ?_ ?_
  ·rintro i o hi rfl
   have h1:=@ZlH X (i+1)
   rw [ZlG hi] at h1 ⊢
   rw [List.length_append] at h1
   simp+contextual(maxSteps:=1000000)(disch:=omega)only[↓Sd,↓So,↓Sk,↓den,↓Z0,Sa,Sb,Sc,Se,O1.d,O2.d,O3.d,cmI,arI,Z1,Z2,↓reduceIte,Nat.reduceLT,Nat.reduceSub,Nat.reduceAdd,Int.reduceAdd,Int.reduceEq,Int.reduceLT,Int.reduceLE,ZD,ZE,]
  ·rintro o rfl
   rw [List.take_length]
   simp+contextual(maxSteps:=1000000)(disch:=omega)only[↓Sd,↓So,↓Sk,↓den,↓Z0,Sa,Sb,Sc,Se,O1.d,O2.d,O3.d,cmI,arI,Z1,Z2,↓reduceIte,Nat.reduceLT,Nat.reduceSub,Nat.reduceAdd,Int.reduceAdd,Int.reduceEq,Int.reduceLT,Int.reduceLE,ZD,ZE,]
theorem ZlN (s:Sy) (h:valid s) (weak strong:List Int) (hw:Zla s weak) (hst:Zla s strong) (hwl:weak.length≤1048576) (hsl:strong.length≤1048576) (p:Nat→Bool) (Q:List AV→Prop) :
  mc.C ZcJ [⟨FBox,fbx s weak strong⟩,⟨L B,tab p (szn s.1)⟩] Q=Q [⟨L B,tab (ZlK s p (crs s weak strong (szn s.1+1) p).flatten) (szn s.1)⟩,⟨FBox,fbx s weak strong⟩]:=by
 have hz:=ZM h
 have ht:=Zjw h
 have hTl:=ht.1.1
 have hC:=fun Q=>Zlx s h weak strong hw hst hwl hsl (szn s.1) p ZO Q
 have hcor:=Zli (s:=s) (weak:=weak) (strong:=strong) (f:=szn s.1+1) (p:=p)
 have hcl:=Zll (s:=s) (weak:=weak) (strong:=strong) (f:=szn s.1+1) (p:=p)
 generalize crs s weak strong (szn s.1+1) p=M at hC hcor hcl
 have hfl:=ZlI hcor
 have hU:ZY s p=ZW (steps s) p (szn s.1):=rfl
 have hu8:=ZkU (p:=p) ht
 refine Mc.Ends.c (mc.ends ZgC ?_)
 simp+contextual(maxSteps:=1000000)(disch:=omega)only[↓Sd,↓So,↓Sk,↓den,↓Z0,Sa,Sb,Sc,Se,O1.d,O2.d,O3.d,cmI,arI,Z1,Z2,↓reduceIte,Nat.reduceLT,Nat.reduceSub,Nat.reduceAdd,Int.reduceAdd,Int.reduceEq,Int.reduceLT,Int.reduceLE,ZD,ZE,ZeH,fbx,hTl]
 obtain ⟨IR,hIR⟩:∃IR:Nat→List Int,(fun k=>if p k=true then ((steps s).getD k []).filter (fun x=>p x.toNat) else [])=IR:=⟨_,rfl⟩
 refine mc.lp_for (List (List Int)) (fun i o=>[⟨L B,tab p (szn s.1)⟩,⟨L (L I),steps s⟩,⟨I,(szn s.1:Int)⟩,⟨I,(i:Int)⟩,⟨L V3,s.1⟩,⟨L TR,s.2⟩,⟨L (L I),steps s⟩,⟨L I,weak⟩,⟨L I,strong⟩,⟨L (L I),toT s⟩,⟨L (L I),o⟩])
  (fun i o=>o=tab IR i++List.replicate (szn s.1 - i) []) (szn s.1) 0 (List.replicate (szn s.1) []) _ rfl (Nat.zero_le _) (by simp [tab]) ?_ ?_
 ·rintro i o hi rfl
  have hrl:((steps s).getD i []).length≤8:=ht.2.2 _ (ZH (by omega))
  have hri:=fun x hx=>ht.1.row (i:=i) x hx
  obtain ⟨row,hr⟩:∃row,(steps s).getD i []=row:=⟨_,rfl⟩
  rw [hr] at hrl hri
  simp+contextual(maxSteps:=1000000)(disch:=omega)only[↓Sd,↓So,↓Sk,↓den,↓Z0,Sa,Sb,Sc,Se,O1.d,O2.d,O3.d,cmI,arI,Z1,Z2,↓reduceIte,Nat.reduceLT,Nat.reduceSub,Nat.reduceAdd,Int.reduceAdd,Int.reduceEq,Int.reduceLT,Int.reduceLE,ZD,ZE,hTl,hr]
  rw [ZhP hi,List.replicate_succ]
  refine mc.lp_for (List Int) (fun j o=>[⟨L B,tab p (szn s.1)⟩,⟨I,(i:Int)⟩,⟨L (L I),steps s⟩,⟨I,(szn s.1:Int)⟩,⟨I,(i:Int)⟩,⟨L I,row⟩,⟨I,(row.length:Int)⟩,⟨I,(j:Int)⟩,⟨L V3,s.1⟩,⟨L TR,s.2⟩,⟨L (L I),steps s⟩,⟨L I,weak⟩,⟨L I,strong⟩,⟨L (L I),toT s⟩,⟨L (L I),tab IR i++o::List.replicate (szn s.1 - (i+1)) []⟩])
   (fun j o=>o=if p i=true then (row.take j).filter (fun x=>p x.toNat) else []) row.length 0 [] _ rfl (Nat.zero_le _) (by simp) ?_ ?_
  ·rintro j o hj rfl
   have hm:=hri _ (ZH (d:=0) hj)
   obtain ⟨m,hm2⟩:∃m:Nat,row.getD j 0=(m:Int):=⟨_,(Int.toNat_of_nonneg hm.1).symm⟩
   rw [hm2] at hm
   have hmn:m<szn s.1:=Int.ofNat_lt.1 hm.2
   have hnx:=Zl9 hj (fun x=>p x.toNat)
   rw [hm2] at hnx
   by_cases hp:p i=true
   ·simp only [hp,if_true]
    have hol:((row.take j).filter fun x=>p x.toNat).length≤8:=Nat.le_trans (List.length_filter_le ..) (by rw [List.length_take];omega)
    have hlen:(tab IR i++((row.take j).filter fun x=>p x.toNat)::List.replicate (szn s.1 - (i+1)) []).length=szn s.1:=by simp [ZK];omega
    by_cases hpm:p m=true
    ·simp+contextual(maxSteps:=1000000)(disch:=omega)only[↓Sd,↓So,↓Sk,↓den,↓Z0,Sa,Sb,Sc,Se,O1.d,O2.d,O3.d,cmI,arI,Z1,Z2,↓reduceIte,Nat.reduceLT,Nat.reduceSub,Nat.reduceAdd,Int.reduceAdd,Int.reduceEq,Int.reduceLT,Int.reduceLE,ZD,ZE,↓ZF,hm2,ZK,ZL hi,hp,ZL hmn,hpm,hlen,ZiH,ZiG]
     refine ⟨_,rfl,?_⟩
     rw [hnx];simp [hpm]
    ·simp+contextual(maxSteps:=1000000)(disch:=omega)only[↓Sd,↓So,↓Sk,↓den,↓Z0,Sa,Sb,Sc,Se,O1.d,O2.d,O3.d,cmI,arI,Z1,Z2,↓reduceIte,Nat.reduceLT,Nat.reduceSub,Nat.reduceAdd,Int.reduceAdd,Int.reduceEq,Int.reduceLT,Int.reduceLE,ZD,ZE,↓ZF,hm2,ZK,ZL hi,hp,ZL hmn,hpm]
     refine ⟨_,rfl,?_⟩
     rw [hnx];simp [hpm]
   ·simp only [hp,Bool.false_eq_true,if_false]
    simp+contextual(maxSteps:=1000000)(disch:=omega)only[↓Sd,↓So,↓Sk,↓den,↓Z0,Sa,Sb,Sc,Se,O1.d,O2.d,O3.d,cmI,arI,Z1,Z2,↓reduceIte,Nat.reduceLT,Nat.reduceSub,Nat.reduceAdd,Int.reduceAdd,Int.reduceEq,Int.reduceLT,Int.reduceLE,ZD,ZE,↓ZF,hm2,ZK,ZL hi,hp]
    exact ⟨[],rfl,rfl⟩
  ·rintro o rfl
   rw [List.take_length]
   simp+contextual(maxSteps:=1000000)(disch:=omega)only[↓Sd,↓So,↓Sk,↓den,↓Z0,Sa,Sb,Sc,Se,O1.d,O2.d,O3.d,cmI,arI,Z1,Z2,↓reduceIte,Nat.reduceLT,Nat.reduceSub,Nat.reduceAdd,Int.reduceAdd,Int.reduceEq,Int.reduceLT,Int.reduceLE,ZD,ZE,]
   rw [←ZiE,List.append_assoc,←hIR]
   simp only [hr];rfl
 ·rintro o rfl
  rw [Nat.sub_self,List.replicate_zero,List.append_nil]
  have hIU:tab IR (szn s.1)=ZW (steps s) p (szn s.1):=by rw [←hIR];rfl
  have hF:∀x∈M.flatten,0≤x∧x<(szn s.1:Int):=fun x hx=>by obtain ⟨a,rfl,h1,_⟩:=ZlJ hcor hx;omega
  simp+contextual(maxSteps:=1000000)(disch:=omega)only[↓Sd,↓So,↓Sk,↓den,↓Z0,Sa,Sb,Sc,Se,O1.d,O2.d,O3.d,cmI,arI,Z1,Z2,↓reduceIte,Nat.reduceLT,Nat.reduceSub,Nat.reduceAdd,Int.reduceAdd,Int.reduceEq,Int.reduceLT,Int.reduceLE,ZD,ZE,hIU,Zjz _ (szn s.1) hu8,hC,ZlM M (by omega) (by omega),Zjk (Zjy (ZW (steps s) p (szn s.1)) (szn s.1)) M.flatten (szn s.1) (by omega) (ZjB hu8) hF (by omega)]
  rfl
noncomputable def fwR (s:Sy) (weak strong l:List Int):List Int:=if dB (Zlz s weak strong l)=true then ZN (ZlK s (mks l) (ZlB s weak strong l).flatten) (szn s.1) else []
theorem ZlO {T:List (List Int)} {F:List Int} {n k:Nat} (ht:Tbl T n) (hF:∀x∈F,0≤x∧x<(n:Int)) (hk:k<n):Rch T F k↔Lay T F n k:=by
 constructor
 ·intro h
  have h1:=dst_rch.2 h
  have h2:=ZkG ht (fun x hx=>(hF x hx).2) hk
  exact Zkb.2 ⟨h1,by omega⟩
 ·exact Lay.rch
theorem ZlP (s:Sy) (weak strong l:List Int) (hs:ZI s) (hwl:weak.length≤1048576) (hsl:strong.length≤1048576) (hl:l.length≤1048576) (Q:List AV→Prop) :
  mc.C ZcX [⟨L V3,s.1⟩,⟨L TR,s.2⟩,⟨L I,weak⟩,⟨L I,strong⟩,⟨L I,l⟩] Q=Q [⟨L I,fwR s weak strong l⟩]:=by
 refine Mc.Ends.c (mc.ends ZgQ ?_)
 have hFC:=fun Q=>ZlF s weak strong l hs hwl hsl hl Q
 by_cases hok:Zlz s weak strong l
 ·have hv:=hok.1.1
  have hz:=ZM hv
  have ht:=Zjw hv
  have hTl:=ht.1.1
  have hmk:tab (fun k=>dB ((k:Int)∈l)) (szn s.1)=tab (mks l) (szn s.1):=rfl
  have hco:fwR s weak strong l=ZN (ZlK s (mks l) (ZlB s weak strong l).flatten) (szn s.1):=by unfold fwR;rw [if_pos (ZQ hok)]
  have hcr:ZlC s weak strong l=ZlB s weak strong l:=by unfold ZlC;rw [if_pos (ZQ hok)]
  rw [hco]
  rw [hcr] at hFC
  have hcor:CorOf s (mks l) (ZlB s weak strong l):=Zli
  have hsm:=ZlD (weak:=weak) (strong:=strong) (l:=l) hv
  generalize ZlB s weak strong l=M at hFC hcor hsm
  have hMl:=hsm.1
  by_cases hM:M=[]
  ·subst hM
   simp+contextual(maxSteps:=1000000)(disch:=omega)only[↓Sd,↓So,↓Sk,↓den,↓Z0,Sa,Sb,Sc,Se,O1.d,O2.d,O3.d,cmI,arI,Z1,Z2,↓reduceIte,Nat.reduceLT,Nat.reduceSub,Nat.reduceAdd,Int.reduceAdd,Int.reduceEq,Int.reduceLT,Int.reduceLE,ZD,ZE,ZeV,hFC,List.length_nil]
   rw [List.flatten_nil,ZiT (q:=fun _=>false) fun k _=>ZlL]
   rw [List.eq_nil_of_length_eq_zero (Zjm.2 fun _ _=>rfl)]
  ·have hM2:=List.length_pos_iff.2 hM
   simp+contextual(maxSteps:=1000000)(disch:=omega)only[↓Sd,↓So,↓Sk,↓den,↓Z0,Sa,Sb,Sc,Se,O1.d,O2.d,O3.d,cmI,arI,Z1,Z2,↓reduceIte,Nat.reduceLT,Nat.reduceSub,Nat.reduceAdd,Int.reduceAdd,Int.reduceEq,Int.reduceLT,Int.reduceLE,ZD,ZE,ZeV,hFC,ZiN s hs hv,hTl,Zj4 l (szn s.1) (by omega) hl hok.1.mem,hmk]
   refine mc.lp_for (Nat→Bool) (fun i o=>[⟨I,(i:Int)⟩,⟨L (L I),M⟩,⟨L (L I),steps s⟩,⟨L B,tab (mks l) (szn s.1)⟩,⟨L B,tab o (szn s.1)⟩]) (fun i o=>∀k,k<szn s.1→o k=dB ((k:Int)∈(M.take i).flatten)) M.length 0 (fun _=>false) _ (by simp [tab,List.map_const']) (Nat.zero_le _) (fun k _=>(ZR (by simp)).symm) ?_ ?_
   ·rintro i o hi ho
    have hrl:(M.getD i []).length≤4000:=hsm.row i
    obtain ⟨row,hr⟩:∃row,M.getD i []=row:=⟨_,rfl⟩
    have hrm:∀j,j<row.length→∃a:Nat,row.getD j 0=(a:Int)∧a<szn s.1:=by
     intro j hj
     obtain ⟨a,h1,h2,-⟩:=ZlJ hcor (x:=row.getD j 0) (List.mem_flatten.2 ⟨row,by rw [←hr];exact ZH hi,ZH hj⟩)
     exact ⟨a,h1,h2⟩
    rw [hr] at hrl
    simp+contextual(maxSteps:=1000000)(disch:=omega)only[↓Sd,↓So,↓Sk,↓den,↓Z0,Sa,Sb,Sc,Se,O1.d,O2.d,O3.d,cmI,arI,Z1,Z2,↓reduceIte,Nat.reduceLT,Nat.reduceSub,Nat.reduceAdd,Int.reduceAdd,Int.reduceEq,Int.reduceLT,Int.reduceLE,ZD,ZE,]
    refine mc.lp_for (Nat→Bool) (fun j o=>[⟨I,(i:Int)⟩,⟨I,(j:Int)⟩,⟨L (L I),M⟩,⟨L (L I),steps s⟩,⟨L B,tab (mks l) (szn s.1)⟩,⟨L B,tab o (szn s.1)⟩]) (fun j o=>∀k,k<szn s.1→o k=dB ((k:Int)∈(M.take i).flatten++row.take j)) row.length 0 o _ rfl (Nat.zero_le _) (fun k hk=>by rw [ho k hk];simp) ?_ ?_
    ·rintro j o hj ho
     obtain ⟨a,ha,han⟩:=hrm j hj
     simp+contextual(maxSteps:=1000000)(disch:=omega)only[↓Sd,↓So,↓Sk,↓den,↓Z0,Sa,Sb,Sc,Se,O1.d,O2.d,O3.d,cmI,arI,Z1,Z2,↓reduceIte,Nat.reduceLT,Nat.reduceSub,Nat.reduceAdd,Int.reduceAdd,Int.reduceEq,Int.reduceLT,Int.reduceLE,ZD,ZE,hr,ha,ZK,ZiX]
     refine ⟨_,rfl,fun k hk=>?_⟩
     by_cases he:k=a
     ·subst he
      rw [if_pos rfl,ZQ]
      exact List.mem_append_right _ ((ZU hj).2 (.inr ha.symm))
     ·rw [if_neg he,ho k hk]
      refine ZiW ?_
      rw [List.mem_append,List.mem_append,ZU hj,ha]
      constructor
      ·rintro (g | g)
       ·exact .inl g
       ·exact .inr (.inl g)
      ·rintro (g | g | g)
       ·exact .inl g
       ·exact .inr g
       ·exact absurd (Int.ofNat_inj.1 g) he
    ·rintro o ho
     simp+contextual(maxSteps:=1000000)(disch:=omega)only[↓Sd,↓So,↓Sk,↓den,↓Z0,Sa,Sb,Sc,Se,O1.d,O2.d,O3.d,cmI,arI,Z1,Z2,↓reduceIte,Nat.reduceLT,Nat.reduceSub,Nat.reduceAdd,Int.reduceAdd,Int.reduceEq,Int.reduceLT,Int.reduceLE,ZD,ZE,hr]
     refine ⟨o,rfl,fun k hk=>?_⟩
     rw [ho k hk,List.take_length,ZlG hi,hr]
   ·rintro o ho
    have hu8:=ZkU (p:=mks l) ht
    have hU:ZY s (mks l)=ZW (steps s) (mks l) (szn s.1):=rfl
    have hF:∀x∈M.flatten,0≤x∧x<(szn s.1:Int):=fun x hx=>by obtain ⟨a,rfl,h1,_⟩:=ZlJ hcor hx;omega
    have hFp:∀k:Nat,(k:Int)∈M.flatten→mks l k=true:=fun k hk=>by
     obtain ⟨a,h1,-,h2⟩:=ZlJ hcor hk
     rw [Int.ofNat_inj.1 h1];exact h2
    generalize hFF:M.flatten=F at *
    have hlay:∀d k,Lay (Zjy (ZY s (mks l)) (szn s.1)) F d k→k<szn s.1:=fun d k h=>(h.rch).lt (ZjB hu8) fun x hx=>(hF x hx).2
    have hstep:∀d k,k<szn s.1→(Lay (Zjy (ZY s (mks l)) (szn s.1)) F (d+1) k↔Lay (Zjy (ZY s (mks l)) (szn s.1)) F d k∨(ahead (steps s) (layB (Zjy (ZY s (mks l)) (szn s.1)) F d) (szn s.1) k∧mks l k=true)):=by
     intro d k hk
     constructor
     ·rintro (g | ⟨a,g1,g2⟩)
      ·exact .inl g
      ·have ha:=hlay d a g1
       rw [ZjA ha,Zju] at g2
       obtain ⟨b,hb,hkb,g3⟩:=g2
       have hkb:=Int.ofNat_inj.1 hkb
       subst hkb
       rw [hU,ZkT hk] at g3
       exact .inr ⟨⟨a,ha,ZQ g1,g3.2.1⟩,g3.1⟩
     ·rintro (g | ⟨⟨b,hb,g1,g2⟩,g3⟩)
      ·exact .inl g
      ·refine .inr ⟨b,ZiV.1 g1,?_⟩
       rw [ZjA hb,Zju]
       refine ⟨k,hk,rfl,?_⟩
       rw [hU,ZkT hk]
       refine ⟨g3,g2,?_⟩
       have h1:=ZiV.1 g1
       have:∀d k,Lay (Zjy (ZY s (mks l)) (szn s.1)) F d k→mks l k=true:=by
        intro d
        induction d with
        | zero=>intro k h;exact hFp k h
        | succ d ih =>
         intro k h
         rcases h with h | ⟨a,h2,h3⟩
         ·exact ih k h
         ·have ha:=hlay d a h2
          rw [ZjA ha,Zju] at h3
          obtain ⟨b,hb,hkb,h4⟩:=h3
          rw [Int.ofNat_inj.1 hkb]
          rw [hU,ZkT hb] at h4
          exact h4.1
       exact this d b h1
    simp+contextual(maxSteps:=1000000)(disch:=omega)only[↓Sd,↓So,↓Sk,↓den,↓Z0,Sa,Sb,Sc,Se,O1.d,O2.d,O3.d,cmI,arI,Z1,Z2,↓reduceIte,Nat.reduceLT,Nat.reduceSub,Nat.reduceAdd,Int.reduceAdd,Int.reduceEq,Int.reduceLT,Int.reduceLE,ZD,ZE,]
    refine mc.lp_for (Nat→Bool) (fun i o=>[⟨I,(i:Int)⟩,⟨L (L I),steps s⟩,⟨L B,tab (mks l) (szn s.1)⟩,⟨L B,tab o (szn s.1)⟩]) (fun i o=>∀k,k<szn s.1→o k=layB (Zjy (ZY s (mks l)) (szn s.1)) F i k) (szn s.1) 0 o _ rfl (Nat.zero_le _) (fun k hk=>by rw [ho k hk,List.take_length,hFF];rfl) ?_ ?_
    ·rintro i o hi ho
     have hoe:tab o (szn s.1)=tab (layB (Zjy (ZY s (mks l)) (szn s.1)) F i) (szn s.1):=ZS ho
     have hnew:∀k,k<szn s.1→layB (Zjy (ZY s (mks l)) (szn s.1)) F (i+1) k=(layB (Zjy (ZY s (mks l)) (szn s.1)) F i k||(dB (ahead (steps s) (layB (Zjy (ZY s (mks l)) (szn s.1)) F i) (szn s.1) k)&&mks l k)):=by
      intro k hk
      have eA:layB (Zjy (ZY s (mks l)) (szn s.1)) F (i+1) k=dB (Lay (Zjy (ZY s (mks l)) (szn s.1)) F (i+1) k):=rfl
      have eB:layB (Zjy (ZY s (mks l)) (szn s.1)) F i k=dB (Lay (Zjy (ZY s (mks l)) (szn s.1)) F i k):=rfl
      rw [eA,eB]
      by_cases h1:Lay (Zjy (ZY s (mks l)) (szn s.1)) F i k
      ·rw [ZQ h1,ZQ ((hstep i k hk).2 (.inl h1))];rfl
      ·by_cases h2:ahead (steps s) (layB (Zjy (ZY s (mks l)) (szn s.1)) F i) (szn s.1) k
       ·by_cases h3:mks l k=true
        ·rw [ZQ ((hstep i k hk).2 (.inr ⟨h2,h3⟩)),ZR h1,ZQ h2,h3];rfl
        ·rw [ZR fun g=>(((hstep i k hk).1 g).elim h1 fun g=>h3 g.2),ZR h1];simp [h3]
       ·rw [ZR fun g=>(((hstep i k hk).1 g).elim h1 fun g=>h2 g.1),ZR h1,ZR h2];rfl
     rw [hoe]
     generalize layB (Zjy (ZY s (mks l)) (szn s.1)) F (i+1)=NW at hnew
     generalize layB (Zjy (ZY s (mks l)) (szn s.1)) F i=OL at hnew
     simp+contextual(maxSteps:=1000000)(disch:=omega)only[↓Sd,↓So,↓Sk,↓den,↓Z0,Sa,Sb,Sc,Se,O1.d,O2.d,O3.d,cmI,arI,Z1,Z2,↓reduceIte,Nat.reduceLT,Nat.reduceSub,Nat.reduceAdd,Int.reduceAdd,Int.reduceEq,Int.reduceLT,Int.reduceLE,ZD,ZE,hTl,ZjC (steps s) OL (szn s.1) (by omega) ht.1]
     refine mc.lp_for (Nat→Bool) (fun j o=>[⟨I,(i:Int)⟩,⟨I,(j:Int)⟩,⟨L (L I),steps s⟩,⟨L B,tab (mks l) (szn s.1)⟩,⟨L B,tab o (szn s.1)⟩,⟨L B,tab (fun k=>dB (ahead (steps s) OL (szn s.1) k)) (szn s.1)⟩]) (fun j o=>∀k,k<szn s.1→o k=if k<j then NW k else OL k) (szn s.1) 0 OL _ rfl (Nat.zero_le _) (fun k _=>by simp) ?_ ?_
     ·rintro j o hj ho
      have hoj:o j=OL j:=by rw [ho j hj,if_neg (Nat.lt_irrefl _)]
      have fin:∀(b:Bool),b=NW j→∀k,k<szn s.1→(if k=j then b else o k)=if k<j+1 then NW k else OL k:=by
       intro b hb k hk
       by_cases he:k=j
       ·subst he;rw [if_pos rfl,if_pos (Nat.lt_succ_self _),hb]
       ·rw [if_neg he,ho k hk]
        by_cases h1:k<j
        ·rw [if_pos h1,if_pos (by omega)]
        ·rw [if_neg h1,if_neg (by omega)]
      have hN:=hnew j hj
      by_cases h1:OL j=true
      ·simp+contextual(maxSteps:=1000000)(disch:=omega)only[↓Sd,↓So,↓Sk,↓den,↓Z0,Sa,Sb,Sc,Se,O1.d,O2.d,O3.d,cmI,arI,Z1,Z2,↓reduceIte,Nat.reduceLT,Nat.reduceSub,Nat.reduceAdd,Int.reduceAdd,Int.reduceEq,Int.reduceLT,Int.reduceLE,ZD,ZE,↓ZF,hTl,ZK,ZL hj,hoj,h1,ZiX]
       exact ⟨_,rfl,fin true (by rw [hN,h1];rfl)⟩
      ·have h1':OL j=false:=by simpa using h1
       by_cases h2:ahead (steps s) OL (szn s.1) j
       ·simp+contextual(maxSteps:=1000000)(disch:=omega)only[↓Sd,↓So,↓Sk,↓den,↓Z0,Sa,Sb,Sc,Se,O1.d,O2.d,O3.d,cmI,arI,Z1,Z2,↓reduceIte,Nat.reduceLT,Nat.reduceSub,Nat.reduceAdd,Int.reduceAdd,Int.reduceEq,Int.reduceLT,Int.reduceLE,ZD,ZE,↓ZF,hTl,ZK,ZL hj,hoj,h1,ZQ h2,ZiX]
        exact ⟨_,rfl,fin (mks l j) (by rw [hN,h1',ZQ h2];simp)⟩
       ·simp+contextual(maxSteps:=1000000)(disch:=omega)only[↓Sd,↓So,↓Sk,↓den,↓Z0,Sa,Sb,Sc,Se,O1.d,O2.d,O3.d,cmI,arI,Z1,Z2,↓reduceIte,Nat.reduceLT,Nat.reduceSub,Nat.reduceAdd,Int.reduceAdd,Int.reduceEq,Int.reduceLT,Int.reduceLE,ZD,ZE,↓ZF,hTl,ZK,ZL hj,hoj,h1,ZR h2,ZiX]
        exact ⟨_,rfl,fin false (by rw [hN,h1',ZR h2];rfl)⟩
     ·rintro o ho
      simp+contextual(maxSteps:=1000000)(disch:=omega)only[↓Sd,↓So,↓Sk,↓den,↓Z0,Sa,Sb,Sc,Se,O1.d,O2.d,O3.d,cmI,arI,Z1,Z2,↓reduceIte,Nat.reduceLT,Nat.reduceSub,Nat.reduceAdd,Int.reduceAdd,Int.reduceEq,Int.reduceLT,Int.reduceLE,ZD,ZE,hTl]
      exact ⟨o,rfl,fun k hk=>by rw [ho k hk,if_pos hk]⟩
    ·rintro o ho
     have hoe:tab o (szn s.1)=tab (ZlK s (mks l) F) (szn s.1):=ZS fun k hk=>by
      rw [ho k hk]
      exact ZiW (ZlO (ZjB hu8) hF hk).symm
     rw [hoe]
     simp+contextual(maxSteps:=1000000)(disch:=omega)only[↓Sd,↓So,↓Sk,↓den,↓Z0,Sa,Sb,Sc,Se,O1.d,O2.d,O3.d,cmI,arI,Z1,Z2,↓reduceIte,Nat.reduceLT,Nat.reduceSub,Nat.reduceAdd,Int.reduceAdd,Int.reduceEq,Int.reduceLT,Int.reduceLE,ZD,ZE,hTl,Zj7 (ZlK s (mks l) F) (szn s.1) (by omega)]
 ·have hco:fwR s weak strong l=[]:=by unfold fwR;rw [if_neg (by rw [ZR hok];simp)]
  have hcr:ZlC s weak strong l=[]:=by unfold ZlC;rw [if_neg (by rw [ZR hok];simp)]
  rw [hcr] at hFC
  rw [hco]
  simp+contextual(maxSteps:=1000000)(disch:=omega)only[↓Sd,↓So,↓Sk,↓den,↓Z0,Sa,Sb,Sc,Se,O1.d,O2.d,O3.d,cmI,arI,Z1,Z2,↓reduceIte,Nat.reduceLT,Nat.reduceSub,Nat.reduceAdd,Int.reduceAdd,Int.reduceEq,Int.reduceLT,Int.reduceLE,ZD,ZE,ZeV,hFC,List.length_nil]
theorem ZlQ {s:Sy} {p:Nat→Bool} {F:List Int} (hF:∀k:Nat,(k:Int)∈F→k<szn s.1∧p k=true) {k:Nat} (h:ZlK s p F k=true):k<szn s.1∧p k=true:=by
 have h':=ZiV.1 h
 clear h
 induction h' with
 | base h1=>exact hF _ h1
 | step _ h1 ih =>
  rw [ZjA ih.1,Zju] at h1
  obtain ⟨b,hb,hkb,h4⟩:=h1
  rw [Int.ofNat_inj.1 hkb]
  rw [show ZY s p=ZW (steps s) p (szn s.1) from rfl,ZkT hb] at h4
  exact ⟨hb,h4.1⟩
def lft (s:Sy) (l:List Tm):List Int:=ZN (fun k=>!ZiP s l k) (szn s.1)
theorem ZlR {s:Sy} {l:List Tm} {k:Nat} (hk:k<szn s.1):mks (lft s l) k=!ZiP s l k:=by
 unfold mks lft;rw [Zja];simp [hk]
def ZlS (s:Sy) (weak strong:List Int) (l:List Tm):Prop:=valid s∧kf l s.1.length=2∧ZT weak (s.2.length:Int)∧ZT strong (s.2.length:Int)
theorem ZlS.fair {s:Sy} {weak strong:List Int} {l:List Tm} (h:ZlS s weak strong l):Zlz s weak strong (lft s l) :=
 ⟨⟨h.1,by rw [←(ZM h.1).1];exact Zj3 (Nat.le_refl _)⟩,h.2.2⟩
theorem ZlT {s:Sy} {l:List Tm} (h:valid s):(lft s l).length≤400:=ZjJ h
noncomputable def acW (s:Sy) (weak strong:List Int) (l:List Tm) (k:Nat):Bool:=ZlK s (mks (lft s l)) (ZlB s weak strong (lft s l)).flatten k
noncomputable def acV (s:Sy) (weak strong:List Int) (l:List Tm):Bool:=dB (ZlS s weak strong l∧¬acW s weak strong l (num s.1 (ZJ s.1)).toNat=true)
theorem ZlU {s:Sy} {weak strong:List Int} {l:List Tm} {k:Nat} (h:acW s weak strong l k=true):k<szn s.1∧ZiP s l k=false:=by
 have h1:=ZlQ (fun k hk=>by
  obtain ⟨a,h2,h3,h4⟩:=ZlJ (Zli (s:=s) (weak:=weak) (strong:=strong) (f:=szn s.1+1) (p:=mks (lft s l))) hk
  rw [Int.ofNat_inj.1 h2];exact ⟨h3,h4⟩) h
 exact ⟨h1.1,by have:=h1.2;rw [ZlR h1.1] at this;simpa using this⟩
theorem ZlV (s:Sy) (weak strong:List Int) (l:List Tm) (hs:ZI s) (hwl:weak.length≤1048576) (hsl:strong.length≤1048576) (hf:Few l) (Q:List AV→Prop) :
  mc.C ZcY [⟨L V3,s.1⟩,⟨L TR,s.2⟩,⟨L I,weak⟩,⟨L I,strong⟩,⟨L T4,l⟩] Q=Q [⟨B,acV s weak strong l⟩]:=by
 refine Mc.Ends.c (mc.ends ZgR ?_)
 by_cases h1:valid s∧ZT weak (s.2.length:Int)∧ZT strong (s.2.length:Int)
 ·have hv:=h1.1
  have hz:=ZM hv
  by_cases h2:kf l s.1.length=2
  ·have hok:ZlS s weak strong l:=⟨hv,h2,h1.2⟩
   have hsw:ZN (fun k=>dB ((k:Int)∈ZN (fun _=>true) (szn s.1))&&!dB ((k:Int)∈ZN (ZiP s l) (szn s.1))) 400=lft s l:=by
    rw [Zje hz.2.2];unfold lft;exact ZiT fun k _=>by simp
   have hfw:=fun Q=>ZlP s weak strong (lft s l) hs hwl hsl (Nat.le_trans (ZlT hv) (by omega)) Q
   have hfe:fwR s weak strong (lft s l)=ZN (acW s weak strong l) (szn s.1):=by unfold fwR;rw [if_pos (ZQ hok.fair)];rfl
   rw [hfe] at hfw
   obtain ⟨m,hm,hmn⟩:=ZjL hv
   have hac:acV s weak strong l=!acW s weak strong l m:=by
    unfold acV
    rw [hm,Int.toNat_natCast]
    cases hW:acW s weak strong l m
    ·exact ZQ ⟨hok,by simp⟩
    ·exact ZR fun g=>g.2 rfl
   have hul:(ZN (acW s weak strong l) (szn s.1)).length≤szn s.1:=ZO
   have hdu:dB ((m:Int)∈ZN (acW s weak strong l) (szn s.1))=acW s weak strong l m:=by rw [Zja];simp [hmn]
   have hl1:ZT (ZN (fun _=>true) (szn s.1)) 400:=Zj3 (m:=400) hz.2.2
   have hl2:ZT (ZN (ZiP s l) (szn s.1)) 400:=Zj3 (m:=400) hz.2.2
   rw [hac]
   generalize acW s weak strong l=W at hfw hul hdu
   simp+contextual(maxSteps:=1000000)(disch:=omega)only[↓Sd,↓So,↓Sk,↓den,↓Z0,Sa,Sb,Sc,Se,O1.d,O2.d,O3.d,cmI,arI,Z1,Z2,↓reduceIte,Nat.reduceLT,Nat.reduceSub,Nat.reduceAdd,Int.reduceAdd,Int.reduceEq,Int.reduceLT,Int.reduceLE,ZD,ZE,ZeW,ZlE s weak strong hs hwl hsl,decide_eq_true h1,Bool.not_true,Zha l s.1.length 2 hf (by omega),decide_eq_true h2,Zhv s hs,if_pos hv,←hz.1,ZkL (szn s.1) (by omega),ZiU s l hs hf hv h2,
    Zjd (ZN (fun _=>true) (szn s.1)) (ZN (ZiP s l) (szn s.1)) hl1 hl2,hsw,hfw,Zip s hs hv,Ziu s _ hv.1.2 hv.2.2.1 (Zim hv.2.2.1),hm,ZjD _ _ (show (ZN W (szn s.1)).length≤1048576 by omega),hdu]
  ·have hac:acV s weak strong l=false:=ZR fun g=>h2 g.1.2.1
   rw [hac]
   simp+contextual(maxSteps:=1000000)(disch:=omega)only[↓Sd,↓So,↓Sk,↓den,↓Z0,Sa,Sb,Sc,Se,O1.d,O2.d,O3.d,cmI,arI,Z1,Z2,↓reduceIte,Nat.reduceLT,Nat.reduceSub,Nat.reduceAdd,Int.reduceAdd,Int.reduceEq,Int.reduceLT,Int.reduceLE,ZD,ZE,ZeW,ZlE s weak strong hs hwl hsl,decide_eq_true h1,Bool.not_true,Zha l s.1.length 2 hf (by omega),decide_eq_false h2,Bool.not_false]
 ·have hac:acV s weak strong l=false:=ZR fun g=>h1 ⟨g.1.1,g.1.2.2⟩
  rw [hac]
  simp+contextual(maxSteps:=1000000)(disch:=omega)only[↓Sd,↓So,↓Sk,↓den,↓Z0,Sa,Sb,Sc,Se,O1.d,O2.d,O3.d,cmI,arI,Z1,Z2,↓reduceIte,Nat.reduceLT,Nat.reduceSub,Nat.reduceAdd,Int.reduceAdd,Int.reduceEq,Int.reduceLT,Int.reduceLE,ZD,ZE,ZeW,ZlE s weak strong hs hwl hsl,decide_eq_false h1,Bool.not_false]
theorem ZlW (s:Sy) (weak strong:List Int) (l:List Tm) (hs:ZI s) (hwl:weak.length≤1048576) (hsl:strong.length≤1048576) (hf:Few l) (Q:List AV→Prop) :
  mc.C ZcQ [⟨L V3,s.1⟩,⟨L TR,s.2⟩,⟨L I,weak⟩,⟨L I,strong⟩,⟨L T4,l⟩] Q=Q [⟨B,acV s weak strong l⟩]:=by
 have hR:s.2.length≤1048576:=hs.2.1
 have hro:∀(x:List Int) (hx:x.length≤1048576) (Q:List AV→Prop),mc.C ZbT [⟨L V3,s.1⟩,⟨L TR,s.2⟩,⟨L I,x⟩] Q=Q [⟨B,decide (ZT x (s.2.length:Int))⟩]:=by
  intro x hx Q
  refine Mc.Ends.c (mc.ends ZfL ?_)
  simp+contextual(maxSteps:=1000000)(disch:=omega)only[↓Sd,↓So,↓Sk,↓den,↓Z0,Sa,Sb,Sc,Se,O1.d,O2.d,O3.d,cmI,arI,Z1,Z2,↓reduceIte,Nat.reduceLT,Nat.reduceSub,Nat.reduceAdd,Int.reduceAdd,Int.reduceEq,Int.reduceLT,Int.reduceLE,ZD,ZE,ZdQ,Zjp x (s.2.length:Int) (by omega) hx]
 refine Mc.Ends.c (mc.ends ZgJ ?_)
 by_cases h0:valid s∧kf l s.1.length=2
 ·have hv:=h0.1
  have hz:=ZM hv
  by_cases h1:ZT weak (s.2.length:Int)
  ·by_cases h2:ZT strong (s.2.length:Int)
   ·have hok:ZlS s weak strong l:=⟨hv,h0.2,h1,h2⟩
    obtain ⟨m,hm,hmn⟩:=ZjL hv
    have hac:acV s weak strong l=!acW s weak strong l m:=by
     unfold acV
     rw [hm,Int.toNat_natCast]
     cases hW:acW s weak strong l m
     ·exact ZQ ⟨hok,by simp⟩
     ·exact ZR fun g=>g.2 rfl
    rw [hac]
    simp+contextual(maxSteps:=1000000)(disch:=omega)only[↓Sd,↓So,↓Sk,↓den,↓Z0,Sa,Sb,Sc,Se,O1.d,O2.d,O3.d,cmI,arI,Z1,Z2,↓reduceIte,Nat.reduceLT,Nat.reduceSub,Nat.reduceAdd,Int.reduceAdd,Int.reduceEq,Int.reduceLT,Int.reduceLE,ZD,ZE,ZeO,Zkz s l hs hf h0,Bool.not_true,hro weak hwl,hro strong hsl,decide_eq_true h1,decide_eq_true h2,ZK]
    refine mc.lp_for (Nat→Bool) (fun i o=>[⟨L I,weak⟩,⟨L I,strong⟩,⟨I,(szn s.1:Int)⟩,⟨I,(i:Int)⟩,⟨L V3,s.1⟩,⟨L TR,s.2⟩,⟨L B,tab o (szn s.1)⟩]) (fun i o=>∀k,k<szn s.1→o k=if k<i then !ZiP s l k else ZiP s l k) (szn s.1) 0 (ZiP s l) _ rfl (Nat.zero_le _) (fun k _=>by simp) ?_ ?_
    ·rintro i o hi ho
     have hoi:o i=ZiP s l i:=by rw [ho i hi,if_neg (Nat.lt_irrefl _)]
     simp+contextual(maxSteps:=1000000)(disch:=omega)only[↓Sd,↓So,↓Sk,↓den,↓Z0,Sa,Sb,Sc,Se,O1.d,O2.d,O3.d,cmI,arI,Z1,Z2,↓reduceIte,Nat.reduceLT,Nat.reduceSub,Nat.reduceAdd,Int.reduceAdd,Int.reduceEq,Int.reduceLT,Int.reduceLE,ZD,ZE,ZK,ZL hi,ZiX,hoi]
     refine ⟨_,rfl,fun k hk=>?_⟩
     by_cases he:k=i
     ·subst he;rw [if_pos rfl,if_pos (Nat.lt_succ_self _)]
     ·rw [if_neg he,ho k hk]
      by_cases h3:k<i
      ·rw [if_pos h3,if_pos (by omega)]
      ·rw [if_neg h3,if_neg (by omega)]
    ·rintro o ho
     have hoe:tab o (szn s.1)=tab (mks (lft s l)) (szn s.1):=ZS fun k hk=>by rw [ho k hk,if_pos hk,ZlR hk]
     have hmm:mks (lft s l) m=!ZiP s l m:=ZlR hmn
     have hfr:=hok.fair
     have hFW:=fun Q=>ZlN s hv weak strong hfr.rl.1 hfr.rl.2 hwl hsl (mks (lft s l)) Q
     have hWe:ZlK s (mks (lft s l)) (crs s weak strong (szn s.1+1) (mks (lft s l))).flatten=acW s weak strong l:=rfl
     rw [hWe] at hFW
     rw [hoe]
     by_cases hh:ZiP s l m=true
     ·have hW:acW s weak strong l m=false:=by
       cases hW:acW s weak strong l m with
       | false=>rfl
       | true=>have:=(ZlU hW).2;rw [hh] at this;cases this
      simp+contextual(maxSteps:=1000000)(disch:=omega)only[↓Sd,↓So,↓Sk,↓den,↓Z0,Sa,Sb,Sc,Se,O1.d,O2.d,O3.d,cmI,arI,Z1,Z2,↓reduceIte,Nat.reduceLT,Nat.reduceSub,Nat.reduceAdd,Int.reduceAdd,Int.reduceEq,Int.reduceLT,Int.reduceLE,ZD,ZE,ZK,Zio s hv.1.2,Ziv s _ hv.1.2 hv.2.2.1 (Zim hv.2.2.1),hm,ZL hmn,hmm,hh,Bool.not_true,Bool.not_false,hW]
     ·have hh':ZiP s l m=false:=by simpa using hh
      simp+contextual(maxSteps:=1000000)(disch:=omega)only[↓Sd,↓So,↓Sk,↓den,↓Z0,Sa,Sb,Sc,Se,O1.d,O2.d,O3.d,cmI,arI,Z1,Z2,↓reduceIte,Nat.reduceLT,Nat.reduceSub,Nat.reduceAdd,Int.reduceAdd,Int.reduceEq,Int.reduceLT,Int.reduceLE,ZD,ZE,ZK,Zio s hv.1.2,Ziv s _ hv.1.2 hv.2.2.1 (Zim hv.2.2.1),hm,ZL hmn,hmm,hh',Bool.not_true,Bool.not_false,Zl2 s hv,hFW]
   ·have hac:acV s weak strong l=false:=ZR fun g=>h2 g.1.2.2.2
    rw [hac]
    simp+contextual(maxSteps:=1000000)(disch:=omega)only[↓Sd,↓So,↓Sk,↓den,↓Z0,Sa,Sb,Sc,Se,O1.d,O2.d,O3.d,cmI,arI,Z1,Z2,↓reduceIte,Nat.reduceLT,Nat.reduceSub,Nat.reduceAdd,Int.reduceAdd,Int.reduceEq,Int.reduceLT,Int.reduceLE,ZD,ZE,ZeO,Zkz s l hs hf h0,Bool.not_true,hro weak hwl,hro strong hsl,decide_eq_true h1,decide_eq_false h2,Bool.not_false]
  ·have hac:acV s weak strong l=false:=ZR fun g=>h1 g.1.2.2.1
   rw [hac]
   simp+contextual(maxSteps:=1000000)(disch:=omega)only[↓Sd,↓So,↓Sk,↓den,↓Z0,Sa,Sb,Sc,Se,O1.d,O2.d,O3.d,cmI,arI,Z1,Z2,↓reduceIte,Nat.reduceLT,Nat.reduceSub,Nat.reduceAdd,Int.reduceAdd,Int.reduceEq,Int.reduceLT,Int.reduceLE,ZD,ZE,ZeO,Zkz s l hs hf h0,Bool.not_true,hro weak hwl,decide_eq_false h1,Bool.not_false]
 ·have hac:acV s weak strong l=false:=ZR fun g=>h0 ⟨g.1.1,g.1.2.1⟩
  rw [hac]
  simp+contextual(maxSteps:=1000000)(disch:=omega)only[↓Sd,↓So,↓Sk,↓den,↓Z0,Sa,Sb,Sc,Se,O1.d,O2.d,O3.d,cmI,arI,Z1,Z2,↓reduceIte,Nat.reduceLT,Nat.reduceSub,Nat.reduceAdd,Int.reduceAdd,Int.reduceEq,Int.reduceLT,Int.reduceLE,ZD,ZE,ZeO,ZkA s l hs hf h0,Bool.not_false]
theorem ZlX (b:List Int) (p:Int) (s:Sy) (hb:Rdy b) (hp:0≤p∧p≤700000000) (hs:Zku s) {Q:List AV→Prop} (h:∀(l:List Int) (p':Int),p≤p'∧p'≤p+500→l.length≤10→Q [⟨L I,l⟩,⟨RD,(b,p')⟩]):mc.C ZcD [⟨RD,(b,p)⟩,⟨L V3,s.1⟩,⟨L TR,s.2⟩] Q:=by
 refine mc.c_of Zgw ?_
 have hR:=hs.2.1
 simp+contextual(maxSteps:=1000000)(disch:=omega)only[↓Sd,↓So,↓Sk,↓den,↓Z0,Sa,Sb,Sc,Se,O1.d,O2.d,O3.d,cmI,arI,Z1,Z2,↓reduceIte,Nat.reduceLT,Nat.reduceSub,Nat.reduceAdd,Int.reduceAdd,Int.reduceEq,Int.reduceLT,Int.reduceLE,ZD,ZE,ZeB]
 refine mc.lp_for (Int×List Int) (fun i z=>[⟨I,(i:Int)⟩,⟨L U,b⟩,⟨I,z.1⟩,⟨L V3,s.1⟩,⟨L TR,s.2⟩,⟨L I,z.2⟩]) (fun i z=>p≤z.1∧z.1≤p+i∧z.2.length≤i) s.2.length 0 (p,[]) _ rfl (Nat.zero_le _) ⟨by dsimp only;omega,by dsimp only;omega,by simp⟩ ?_ ?_
 ·rintro i ⟨p1,l⟩ hi ⟨a1,a2,a3⟩
  simp only at a1 a2 a3
  simp+contextual(maxSteps:=1000000)(disch:=omega)only[↓Sd,↓So,↓Sk,↓den,↓Z0,Sa,Sb,Sc,Se,O1.d,O2.d,O3.d,cmI,arI,Z1,Z2,↓reduceIte,Nat.reduceLT,Nat.reduceSub,Nat.reduceAdd,Int.reduceAdd,Int.reduceEq,Int.reduceLT,Int.reduceLE,ZD,ZE,↓ZF,]
  refine ZV _ _ _ hb (by omega) (by omega) fun a a0 a1=>?_;simp+contextual(maxSteps:=1000000)(disch:=omega)only[↓Sd,↓So,↓Sk,↓den,↓Z0,Sa,Sb,Sc,Se,O1.d,O2.d,O3.d,cmI,arI,Z1,Z2,↓reduceIte,Nat.reduceLT,Nat.reduceSub,Nat.reduceAdd,Int.reduceAdd,Int.reduceEq,Int.reduceLT,Int.reduceLE,ZD,ZE,]
  exact ⟨fun _=>⟨(_,_),⟨rfl,rfl⟩,by dsimp only;omega,by dsimp only;omega,by simp only [List.length_append,List.length_singleton];omega⟩,fun _=>⟨(_,_),⟨rfl,rfl⟩,by dsimp only;omega,by dsimp only;omega,by dsimp only;omega⟩⟩
 ·rintro ⟨p1,l⟩ ⟨a1,a2,a3⟩
  simp only at a1 a2 a3
  simp+contextual(maxSteps:=1000000)(disch:=omega)only[↓Sd,↓So,↓Sk,↓den,↓Z0,Sa,Sb,Sc,Se,O1.d,O2.d,O3.d,cmI,arI,Z1,Z2,↓reduceIte,Nat.reduceLT,Nat.reduceSub,Nat.reduceAdd,Int.reduceAdd,Int.reduceEq,Int.reduceLT,Int.reduceLE,ZD,ZE,↓ZF,]
  refine ZV _ _ _ hb (by omega) (by omega) fun a a0 a1=>?_;simp+contextual(maxSteps:=1000000)(disch:=omega)only[↓Sd,↓So,↓Sk,↓den,↓Z0,Sa,Sb,Sc,Se,O1.d,O2.d,O3.d,cmI,arI,Z1,Z2,↓reduceIte,Nat.reduceLT,Nat.reduceSub,Nat.reduceAdd,Int.reduceAdd,Int.reduceEq,Int.reduceLT,Int.reduceLE,ZD,ZE,]
  refine ⟨fun _=>?_,fun _=>h _ _ (by omega) (by omega)⟩
  refine Zkf _ _ _ hb (by omega) (by simp) (by simp) fun x x0=>?_;simp+contextual(maxSteps:=1000000)(disch:=omega)only[↓Sd,↓So,↓Sk,↓den,↓Z0,Sa,Sb,Sc,Se,O1.d,O2.d,O3.d,cmI,arI,Z1,Z2,↓reduceIte,Nat.reduceLT,Nat.reduceSub,Nat.reduceAdd,Int.reduceAdd,Int.reduceEq,Int.reduceLT,Int.reduceLE,ZD,ZE,]
  exact h _ _ (by omega) (by simp only [List.length_append,List.length_singleton];omega)
theorem ZlY (b:List Int) (hb:Byt b) (hl:ZgU b) {Q:List AV→Prop} (h:∀(b':List Int) (p:Int) (s:Sy) (weak strong:List Int),Rdy b'→0≤p∧p≤100000→Zku s→weak.length≤10→strong.length≤10→Q [⟨RD,(b',p)⟩,⟨L V3,s.1⟩,⟨L TR,s.2⟩,⟨L I,weak⟩,⟨L I,strong⟩]):mc.C ZcE [⟨L U,b⟩] Q:=by
 refine mc.c_of Zgx ?_
 simp+contextual(maxSteps:=1000000)(disch:=omega)only[↓Sd,↓So,↓Sk,↓den,↓Z0,Sa,Sb,Sc,Se,O1.d,O2.d,O3.d,cmI,arI,Z1,Z2,↓reduceIte,Nat.reduceLT,Nat.reduceSub,Nat.reduceAdd,Int.reduceAdd,Int.reduceEq,Int.reduceLT,Int.reduceLE,ZD,ZE,ZeC]
 refine Zkg b hb hl fun b hb=>?_
 simp+contextual(maxSteps:=1000000)(disch:=omega)only[↓Sd,↓So,↓Sk,↓den,↓Z0,Sa,Sb,Sc,Se,O1.d,O2.d,O3.d,cmI,arI,Z1,Z2,↓reduceIte,Nat.reduceLT,Nat.reduceSub,Nat.reduceAdd,Int.reduceAdd,Int.reduceEq,Int.reduceLT,Int.reduceLE,ZD,ZE,]
 refine Zkx _ _ _ hb (by omega) fun s p1 hp1 hs=>?_
 simp+contextual(maxSteps:=1000000)(disch:=omega)only[↓Sd,↓So,↓Sk,↓den,↓Z0,Sa,Sb,Sc,Se,O1.d,O2.d,O3.d,cmI,arI,Z1,Z2,↓reduceIte,Nat.reduceLT,Nat.reduceSub,Nat.reduceAdd,Int.reduceAdd,Int.reduceEq,Int.reduceLT,Int.reduceLE,ZD,ZE,]
 refine ZlX _ _ s hb (by omega) hs fun w p2 hp2 hw=>?_
 refine mc.wp_join (fun us=>∃w':List Int,us=[⟨L U,b⟩,⟨I,p2+1⟩,⟨L V3,s.1⟩,⟨L TR,s.2⟩,⟨L I,w'⟩]∧w'.length≤10) ?_ ?_
 ·simp+contextual(maxSteps:=1000000)(disch:=omega)only[↓Sd,↓So,↓Sk,↓den,↓Z0,Sa,Sb,Sc,Se,O1.d,O2.d,O3.d,cmI,arI,Z1,Z2,↓reduceIte,Nat.reduceLT,Nat.reduceSub,Nat.reduceAdd,Int.reduceAdd,Int.reduceEq,Int.reduceLT,Int.reduceLE,ZD,ZE,]
  refine ZV _ _ _ hb (by omega) (by omega) fun a a0 a1=>?_;simp+contextual(maxSteps:=1000000)(disch:=omega)only[↓Sd,↓So,↓Sk,↓den,↓Z0,Sa,Sb,Sc,Se,O1.d,O2.d,O3.d,cmI,arI,Z1,Z2,↓reduceIte,Nat.reduceLT,Nat.reduceSub,Nat.reduceAdd,Int.reduceAdd,Int.reduceEq,Int.reduceLT,Int.reduceLE,ZD,ZE,]
  exact ⟨fun _=>Nat.zero_le _,fun _=>hw⟩
 ·rintro us ⟨w',rfl,hw'⟩
  simp+contextual(maxSteps:=1000000)(disch:=omega)only[↓Sd,↓So,↓Sk,↓den,↓Z0,Sa,Sb,Sc,Se,O1.d,O2.d,O3.d,cmI,arI,Z1,Z2,↓reduceIte,Nat.reduceLT,Nat.reduceSub,Nat.reduceAdd,Int.reduceAdd,Int.reduceEq,Int.reduceLT,Int.reduceLE,ZD,ZE,]
  refine ZlX _ _ s hb (by omega) hs fun v p3 hp3 hv=>?_
  simp+contextual(maxSteps:=1000000)(disch:=omega)only[↓Sd,↓So,↓Sk,↓den,↓Z0,Sa,Sb,Sc,Se,O1.d,O2.d,O3.d,cmI,arI,Z1,Z2,↓reduceIte,Nat.reduceLT,Nat.reduceSub,Nat.reduceAdd,Int.reduceAdd,Int.reduceEq,Int.reduceLT,Int.reduceLE,ZD,ZE,↓ZF,]
  exact h b p3 s w' v hb (by omega) hs hw' hv
theorem ZlZ {T:List (List Int)} {m k:Nat}:∀{i:Nat},cmp T i k=(m:Int)→eqv T m k
 | 0,h=>by simp only [cmp] at h;omega
 | i+1,h=>by
  unfold cmp at h
  split at h
  ·exact ZlZ h
  ·split at h
   ·rename_i g
    have:i=m:=Int.ofNat_inj.1 h
    subst this;exact ZiV.1 g
   ·omega
theorem eqv.tr {T:List (List Int)} {a b c:Nat} (h:eqv T a b) (h2:eqv T b c):eqv T a c:=⟨h.1.trans h2.1,h2.2.trans h.2⟩
theorem cmp_eq {T:List (List Int)} {a b:Nat} (h:eqv T a b):∀{i:Nat},cmp T i a=cmp T i b
 | 0=>rfl
 | i+1=>by
  unfold cmp
  rw [cmp_eq h]
  have:dB (eqv T i a)=dB (eqv T i b):=ZiW ⟨fun g=>g.tr h,fun g=>g.tr (Zk4 h)⟩
  rw [this]
theorem Zl_ {T:List (List Int)} {n a:Nat} (ha:a<n):∃m:Nat,cmp T n a=(m:Int)∧m≤a∧eqv T m a:=by
 obtain ⟨m,h1,h2⟩:=least (P:=fun m=>eqv T m a) ⟨a,Rch.one,Rch.one⟩
 have h3:m≤a:=by
  rcases Nat.lt_or_ge a m with h4 | h4
  ·exact absurd ⟨Rch.one,Rch.one⟩ (h2 a h4)
  ·exact h4
 exact ⟨m,ZkN (by omega) h1 h2,h3,h1⟩
def scc (s:Sy) (q:Nat→Bool):Prop:=∀a b:Nat,a<szn s.1→b<szn s.1→q a=true→q b=true→Rch (ZY s q) [(a:Int)] b
theorem Zm0 {s:Sy} {q p:Nat→Bool} (h:∀a,a<szn s.1→q a=true→p a=true) (hs:valid s) {a b:Nat} (hr:Rch (ZY s q) [(a:Int)] b):Rch (ZY s p) [(a:Int)] b:=by
 induction hr with
 | base h1=>exact .base h1
 | step _ h1 ih =>
  rename_i x y _
  refine .step ih ?_
  by_cases hx:x<szn s.1
  ·rw [show ZY s q=ZW (steps s) q (szn s.1) from rfl,ZkT hx] at h1
   rw [show ZY s p=ZW (steps s) p (szn s.1) from rfl,ZkT hx]
   have hy:=(Zjw hs).1.row _ h1.2.1
   exact ⟨h x hx h1.1,h1.2.1,h y (by omega) h1.2.2⟩
  ·rw [show ZY s q=ZW (steps s) q (szn s.1) from rfl,List.getD_eq_getElem?_getD,List.getElem?_eq_none (by rw [show (ZW (steps s) q (szn s.1)).length=szn s.1 from ZK];omega)] at h1
   simp at h1
structure IsCore (s:Sy) (weak strong:List Int) (q:Nat→Bool):Prop where
 scc:scc s q
 stay:∀a,a<szn s.1→q a=true→1<(ZN q (szn s.1)).length∨(a:Int)∈(steps s).getD a []∨(steps s).getD a []=[]
 weak:∀k:Nat,(k:Int)∈weak→(∃a,a<szn s.1∧q a=true∧¬rub s k a=true)∨ZX s k q=true
 strong:∀k:Nat,(k:Int)∈strong→ZX s k q=true∨∀a,a<szn s.1→q a=true→¬rub s k a=true
theorem Zm1 {s:Sy} (hs:valid s) {p:Nat→Bool} {m:Nat}:scc s (isP s p m):=by
 intro a b ha hb hqa hqb
 obtain ⟨p1,c1⟩:=Zlf hqa
 obtain ⟨p2,c2⟩:=Zlf hqb
 have e1:=ZlZ c1
 have e2:=ZlZ c2
 have hu8:=ZkU (p:=p) (Zjw hs)
 have key:∀z,Rch (ZY s p) [(a:Int)] z→Rch (ZY s p) [(z:Int)] a→z<szn s.1∧isP s p m z=true∧Rch (ZY s (isP s p m)) [(a:Int)] z:=by
  intro z hz
  induction hz with
  | base h1=>intro _;simp only [List.mem_singleton] at h1;have h1:=Int.ofNat_inj.1 h1;subst h1;exact ⟨ha,hqa,Rch.one⟩
  | step h0 h1 ih =>
   intro h2
   rename_i x y
   have hxa:Rch (ZY s p) [(x:Int)] a:=(Rch.step .one h1).trans h2
   obtain ⟨i1,i2,i3⟩:=ih hxa
   have h3:=h1
   rw [show ZY s p=ZW (steps s) p (szn s.1) from rfl,ZkT i1] at h3
   have hy:=(Zjw hs).1.row _ h3.2.1
   have hyn:y<szn s.1:=by omega
   have hyq:isP s p m y=true:=by
    unfold isP
    rw [h3.2.2,Bool.true_and]
    refine ZQ ?_
    rw [←c1]
    exact cmp_eq ⟨h2,h0.step h1⟩
   refine ⟨hyn,hyq,.step i3 ?_⟩
   rw [show ZY s (isP s p m)=ZW (steps s) (isP s p m) (szn s.1) from rfl,ZkT i1]
   exact ⟨i2,h3.2.1,hyq⟩
 exact (key b (e1.2.trans e2.1) (e2.2.trans e1.1)).2.2
theorem Zm2 {s:Sy} (hs:valid s) {weak strong:List Int}:∀{f:Nat} {p:Nat→Bool} {c:List Int},c∈crs s weak strong f p→∃q:Nat→Bool,c=ZN q (szn s.1)∧IsCore s weak strong q∧∀a,a<szn s.1→q a=true→p a=true
 | 0,p,c,hc=>by simp [crs] at hc
 | f+1,p,c,hc=>by
  unfold crs at hc
  obtain ⟨x,hx,hc⟩:=List.mem_flatMap.1 hc
  obtain ⟨h1,h2⟩:=List.mem_filter.1 hx
  obtain ⟨m,hm,rfl,hpm⟩:=ZP.1 h1
  simp only [Int.toNat_natCast] at h2 hc
  unfold Z_ at hc
  split at hc
  ·simp at hc
  ·rename_i hd
   split at hc
   ·rename_i he
    rw [List.mem_singleton] at hc
    have hall:=(Zjb (p:=ZZ s strong (isP s p m)) (q:=isP s p m) (n:=szn s.1) fun k _ hk=>Zle hk).2 (by omega)
    refine ⟨_,hc,⟨Zm1 hs,fun a ha hqa=>?_,fun k hk=>?_,fun k hk=>?_⟩,fun a _ hqa=>(Zlf hqa).1⟩
    ·have hR:=(ZiV.1 h2).2
     rcases hR with g | g
     ·exact .inl g
     ·by_cases ham:a=m
      ·rw [ham];exact .inr g
      ·left
       have hqm:=Zlg hpm h2
       rcases Nat.lt_or_ge 1 (ZN (isP s p m) (szn s.1)).length with g1 | g1
       ·exact g1
       ·exfalso
        have m1:(a:Int)∈ZN (isP s p m) (szn s.1):=ZP.2 ⟨a,ha,rfl,hqa⟩
        have m2:(m:Int)∈ZN (isP s p m) (szn s.1):=ZP.2 ⟨m,hm,rfl,hqm⟩
        generalize ZN (isP s p m) (szn s.1)=l at m1 m2 g1
        match l,m1,m2,g1 with
        | [x],m1,m2,_ =>
         rw [List.mem_singleton] at m1 m2
         exact ham (Int.ofNat_inj.1 (m1.trans m2.symm))
        | [],m1,_,_=>simp at m1
        | _::_::_,_,_,g1=>simp at g1
    ·by_cases hL:ZX s k (isP s p m)=true
     ·exact .inr hL
     ·left
      apply Classical.byContradiction
      intro hno
      refine hd (ZQ ⟨k,hk,fun a ha hqa=>?_,by simpa using hL⟩)
      exact Classical.byContradiction fun g=>hno ⟨a,ha,hqa,g⟩
    ·by_cases hL:ZX s k (isP s p m)=true
     ·exact .inl hL
     ·right
      intro a ha hqa hu
      have h5:=hall a ha hqa
      unfold ZZ at h5
      rw [ZQ ⟨k,hk,by simpa using hL,hu⟩] at h5
      simp at h5
   ·obtain ⟨q,q1,q2,q3⟩:=Zm2 hs (f:=f) hc
    exact ⟨q,q1,q2,fun a ha hqa=>(Zlf (Zle (q3 a ha hqa))).1⟩
theorem Zm3 {s:Sy} {k:Nat} {q p:Nat→Bool} (h:∀a,a<szn s.1→q a=true→p a=true) (hs:valid s) (hl:ZX s k q=true):ZX s k p=true:=by
 obtain ⟨a,h1,h2,b,h3,h4⟩:=ZiV.1 hl
 have:=ZkZ hs (k:=k) (a:=a)
 exact ZQ ⟨a,h1,h a h1 h2,b,h3,h b (by omega) h4⟩
theorem Zm4 {s:Sy} (hs:valid s) {w1 s1 w2 s2:List Int} (hw:∀x∈w1,x∈w2) (hst:∀x∈s1,x∈s2) {q:Nat→Bool} (hq:IsCore s w2 s2 q) :
  ∀(f:Nat) (p:Nat→Bool),(ZN p (szn s.1)).length≤f→(∀a,a<szn s.1→q a=true→p a=true)→∀a,a<szn s.1→q a=true→(a:Int)∈(crs s w1 s1 (f+1) p).flatten:=by
 intro f
 induction f with
 | zero =>
  intro p hf hqp a ha hqa
  have:=Zlh ha (hqp a ha hqa)
  exact absurd (List.eq_nil_of_length_eq_zero (by omega)) this
 | succ f ih =>
  intro p hf hqp a ha hqa
  obtain ⟨m,hm,hma,he⟩:=Zl_ (T:=ZY s p) ha
  have hsub:∀b,b<szn s.1→q b=true→isP s p m b=true:=by
   intro b hb hqb
   unfold isP
   rw [hqp b hb hqb,Bool.true_and]
   refine ZQ ?_
   rw [←hm]
   exact cmp_eq ⟨Zm0 hqp hs (hq.scc b a hb ha hqb hqa),Zm0 hqp hs (hq.scc a b ha hb hqa hqb)⟩
  have hmn:m<szn s.1:=by omega
  have hcm:cmp (ZY s p) (szn s.1) m=(m:Int):=by rw [cmp_eq he];exact hm
  have hpm:p m=true:=by
   by_cases hma2:m=a
   ·rw [hma2];exact hqp a ha hqa
   ·-- a way from m to another
    have:∀z,Rch (ZY s p) [(m:Int)] z→z≠m→p m=true:=by
     intro z hz
     induction hz with
     | base h1=>intro hne;simp only [List.mem_singleton] at h1;exact absurd (Int.ofNat_inj.1 h1) hne
     | step h0 h1 ih2 =>
      intro _
      rename_i x y _
      by_cases hx:x=m
      ·subst hx
       rw [show ZY s p=ZW (steps s) p (szn s.1) from rfl,ZkT hmn] at h1
       exact h1.1
      ·exact ih2 hx
    exact this a he.1 fun g=>hma2 g.symm
  have hqm:isP s p m m=true:=by unfold isP;rw [hpm,Bool.true_and];exact ZQ hcm
  have hlen:(ZN q (szn s.1)).length≤(ZN (isP s p m) (szn s.1)).length:=(Zjb hsub).1
  have hR:isR s p m=true:=by
   refine ZQ ⟨hcm,?_⟩
   rcases hq.stay a ha hqa with g | g
   ·exact .inl (by omega)
   ·by_cases hma2:m=a
    ·rw [hma2];exact .inr g
    ·left
     rcases Nat.lt_or_ge 1 (ZN (isP s p m) (szn s.1)).length with g1 | g1
     ·exact g1
     ·exfalso
      have m1:(a:Int)∈ZN (isP s p m) (szn s.1):=ZP.2 ⟨a,ha,rfl,hsub a ha hqa⟩
      have m2:(m:Int)∈ZN (isP s p m) (szn s.1):=ZP.2 ⟨m,hmn,rfl,hqm⟩
      generalize ZN (isP s p m) (szn s.1)=l at m1 m2 g1
      match l,m1,m2,g1 with
      | [x],m1,m2,_ =>
       rw [List.mem_singleton] at m1 m2
       exact hma2 (Int.ofNat_inj.1 (m2.trans m1.symm))
      | [],m1,_,_=>simp at m1
      | _::_::_,_,_,g1=>simp at g1
  have hnd:¬Zl8 s w1 (isP s p m)=true:=by
   intro hd
   obtain ⟨k,k1,k2,k3⟩:=ZiV.1 hd
   rcases hq.weak k (hw _ k1) with ⟨b,b1,b2,b3⟩ | g
   ·exact b3 (k2 b b1 (hsub b b1 b2))
   ·rw [Zm3 hsub hs g] at k3;cases k3
  have hin:∀c,c∈Z_ s w1 s1 (crs s w1 s1 (f+1)) (isP s p m)→c∈crs s w1 s1 (f+1+1) p:=fun c hc=>by
   rw [show crs s w1 s1 (f+1+1) p=((ZN p (szn s.1)).filter fun x=>isR s p x.toNat).flatMap fun x=>Z_ s w1 s1 (crs s w1 s1 (f+1)) (isP s p x.toNat) from rfl]
   exact List.mem_flatMap.2 ⟨(m:Int),List.mem_filter.2 ⟨ZP.2 ⟨m,hmn,rfl,hpm⟩,by simpa using hR⟩,by simpa using hc⟩
  by_cases hl:(ZN (ZZ s s1 (isP s p m)) (szn s.1)).length=(ZN (isP s p m) (szn s.1)).length
  ·refine List.mem_flatten.2 ⟨ZN (isP s p m) (szn s.1),hin _ ?_,ZP.2 ⟨a,ha,rfl,hsub a ha hqa⟩⟩
   unfold Z_
   rw [if_neg hnd,if_pos hl];exact List.mem_singleton.2 rfl
  ·have hlt:=Zlp hl
   have hpl:(ZN (isP s p m) (szn s.1)).length≤(ZN p (szn s.1)).length:=(Zjb fun k _ hk=>(Zlf hk).1).1
   have hqs:∀b,b<szn s.1→q b=true→ZZ s s1 (isP s p m) b=true:=by
    intro b hb hqb
    unfold ZZ
    rw [hsub b hb hqb,ZR]
    ·rfl
    ·rintro ⟨k,k1,k2,k3⟩
     rcases hq.strong k (hst _ k1) with g | g
     ·rw [Zm3 hsub hs g] at k2;cases k2
     ·exact g b hb hqb k3
   have h5:=ih (ZZ s s1 (isP s p m)) (by omega) hqs a ha hqa
   obtain ⟨c,h6,h7⟩:=List.mem_flatten.1 h5
   refine List.mem_flatten.2 ⟨c,hin c ?_,h7⟩
   unfold Z_
   rw [if_neg hnd,if_neg hl];exact h6
theorem Zm5 {s:Sy} {p:Nat→Bool} {F G:List Int} (h:∀x∈F,x∈G) {k:Nat} (hw:ZlK s p F k=true):ZlK s p G k=true:=by
 have h':=ZiV.1 hw
 refine ZQ ?_
 clear hw
 induction h' with
 | base h1=>exact .base (h _ h1)
 | step _ h1 ih=>exact .step ih h1
theorem Zm6 {s:Sy} {w1 s1 w2 s2:List Int} {l:List Tm} (hw:∀x∈w1,x∈w2) (hst:∀x∈s1,x∈s2) (h2:ZT w2 (s.2.length:Int)) (h3:ZT s2 (s.2.length:Int)) (h:acV s w1 s1 l=true):acV s w2 s2 l=true:=by
 obtain ⟨hok,hno⟩:=ZiV.1 h
 have hs:=hok.1
 refine ZQ ⟨⟨hs,hok.2.1,h2,h3⟩,fun hW=>hno ?_⟩
 refine Zm5 (fun x hx=>?_) hW
 obtain ⟨c,hc,hxc⟩:=List.mem_flatten.1 hx
 obtain ⟨q,rfl,q2,q3⟩:=Zm2 hs hc
 obtain ⟨a,ha,rfl,hqa⟩:=ZP.1 hxc
 exact Zm4 hs hw hst q2 (szn s.1) (mks (lft s l)) ZO q3 a ha hqa
theorem Zm7 (b:List Int) (hb:Byt b) (hl:ZgU b) {Q:List AV→Prop} (h:∀(s:Sy) (weak strong:List Int) (l:List Tm),Zku s→weak.length≤10→strong.length≤10→l.length≤16→Q [⟨L V3,s.1⟩,⟨L TR,s.2⟩,⟨L I,weak⟩,⟨L I,strong⟩,⟨L T4,l⟩]):mc.C ZcL [⟨L U,b⟩] Q:=by
 refine mc.c_of ZgE ?_
 simp+contextual(maxSteps:=1000000)(disch:=omega)only[↓Sd,↓So,↓Sk,↓den,↓Z0,Sa,Sb,Sc,Se,O1.d,O2.d,O3.d,cmI,arI,Z1,Z2,↓reduceIte,Nat.reduceLT,Nat.reduceSub,Nat.reduceAdd,Int.reduceAdd,Int.reduceEq,Int.reduceLT,Int.reduceLE,ZD,ZE,ZeJ]
 refine ZlY b hb hl fun b p s w v hb hp hs hw hv=>?_
 have h3:=hs.1
 simp+contextual(maxSteps:=1000000)(disch:=omega)only[↓Sd,↓So,↓Sk,↓den,↓Z0,Sa,Sb,Sc,Se,O1.d,O2.d,O3.d,cmI,arI,Z1,Z2,↓reduceIte,Nat.reduceLT,Nat.reduceSub,Nat.reduceAdd,Int.reduceAdd,Int.reduceEq,Int.reduceLT,Int.reduceLE,ZD,ZE,Zhd (s.1.getD 0 (0,0,0))]
 refine ⟨fun g=>?_,fun g=>⟨fun _=>?_,fun _=>?_⟩⟩
 ·refine Zky _ _ _ hb (by omega) (by omega) fun l p2 h1 h2 h4=>?_
  simp+contextual(maxSteps:=1000000)(disch:=omega)only[↓Sd,↓So,↓Sk,↓den,↓Z0,Sa,Sb,Sc,Se,O1.d,O2.d,O3.d,cmI,arI,Z1,Z2,↓reduceIte,Nat.reduceLT,Nat.reduceSub,Nat.reduceAdd,Int.reduceAdd,Int.reduceEq,Int.reduceLT,Int.reduceLE,ZD,ZE,↓ZF,]
  exact h s w v l hs hw hv h4
 ·refine Zky _ _ _ hb (by omega) (by omega) fun l p2 h1 h2 h4=>?_
  simp+contextual(maxSteps:=1000000)(disch:=omega)only[↓Sd,↓So,↓Sk,↓den,↓Z0,Sa,Sb,Sc,Se,O1.d,O2.d,O3.d,cmI,arI,Z1,Z2,↓reduceIte,Nat.reduceLT,Nat.reduceSub,Nat.reduceAdd,Int.reduceAdd,Int.reduceEq,Int.reduceLT,Int.reduceLE,ZD,ZE,↓ZF,]
  exact h s w v l hs hw hv h4
 ·refine Zkp _ _ _ hb (by omega) (by rw [List.length_take];omega) (by rw [List.length_take];omega) fun l p2 h1 h2=>?_
  simp+contextual(maxSteps:=1000000)(disch:=omega)only[↓Sd,↓So,↓Sk,↓den,↓Z0,Sa,Sb,Sc,Se,O1.d,O2.d,O3.d,cmI,arI,Z1,Z2,↓reduceIte,Nat.reduceLT,Nat.reduceSub,Nat.reduceAdd,Int.reduceAdd,Int.reduceEq,Int.reduceLT,Int.reduceLE,ZD,ZE,↓ZF,]
  exact h s w v l hs hw hv (by omega)
theorem Zm8 (b:List Int) (hb:Byt b) (hl:ZgU b):mc.C ZcZ [⟨L U,b⟩] (·=[⟨B,true⟩]):=by
 refine mc.c_of ZgS ?_
 simp+contextual(maxSteps:=1000000)(disch:=omega)only[↓Sd,↓So,↓Sk,↓den,↓Z0,Sa,Sb,Sc,Se,O1.d,O2.d,O3.d,cmI,arI,Z1,Z2,↓reduceIte,Nat.reduceLT,Nat.reduceSub,Nat.reduceAdd,Int.reduceAdd,Int.reduceEq,Int.reduceLT,Int.reduceLE,ZD,ZE,ZeX]
 intro _
 refine Zm7 b hb hl fun s weak strong l hsm hw hv hll=>?_
 have hs:=hsm.few
 have hR:=hsm.2.1
 have hf1:weak.length≤1048576:=by omega
 have hf2:strong.length≤1048576:=by omega
 have hf:Few l:=by unfold Few;omega
 simp+contextual(maxSteps:=1000000)(disch:=omega)only[↓Sd,↓So,↓Sk,↓den,↓Z0,Sa,Sb,Sc,Se,O1.d,O2.d,O3.d,cmI,arI,Z1,Z2,↓reduceIte,Nat.reduceLT,Nat.reduceSub,Nat.reduceAdd,Int.reduceAdd,Int.reduceEq,Int.reduceLT,Int.reduceLE,ZD,ZE,ZlW s weak strong l hs hf1 hf2 hf,ZlV s weak strong l hs hf1 hf2 hf,Zhu s hs,Zhs s hs]
 have hal:(ZN (fun _=>true) s.2.length).length≤s.2.length:=ZO
 have hall:ZT (ZN (fun _=>true) s.2.length) (s.2.length:Int):=Zj3 (Nat.le_refl _)
 have hmem:∀(x:List Int),ZT x (s.2.length:Int)→∀y∈x,y∈ZN (fun _=>true) s.2.length:=fun x hx y hy=>by
  have h1:=ZiZ hx y hy
  exact ZP.2 ⟨y.toNat,by omega,by omega,rfl⟩
 refine mc.lp_for (List Int) (fun i o=>[⟨L I,weak⟩,⟨L I,strong⟩,⟨L T4,l⟩,⟨B,acV s weak strong l⟩,⟨I,(s.2.length:Int)⟩,⟨I,(i:Int)⟩,⟨L V3,s.1⟩,⟨L TR,s.2⟩,⟨L I,o⟩]) (fun i o=>o=ZN (fun _=>true) i) s.2.length 0 [] _ rfl (Nat.zero_le _) rfl ?_ ?_
 ·rintro i o hi rfl
  have h1:(ZN (fun _=>true) i).length≤i:=ZO
  simp+contextual(maxSteps:=1000000)(disch:=omega)only[↓Sd,↓So,↓Sk,↓den,↓Z0,Sa,Sb,Sc,Se,O1.d,O2.d,O3.d,cmI,arI,Z1,Z2,↓reduceIte,Nat.reduceLT,Nat.reduceSub,Nat.reduceAdd,Int.reduceAdd,Int.reduceEq,Int.reduceLT,Int.reduceLE,ZD,ZE,]
  exact (ZiR (p:=fun _=>true) rfl).symm
 ·rintro o rfl
  by_cases hA:acV s weak strong l=true
  ·have hok:=(ZiV.1 hA).1
   have e1:=Zm6 (w1:=weak) (w2:=weak) (s1:=strong) (s2:=ZN (fun _=>true) s.2.length) (fun x hx=>hx) (hmem strong hok.2.2.2) hok.2.2.1 hall hA
   have e2:=Zm6 (w1:=weak) (w2:=ZN (fun _=>true) s.2.length) (s1:=strong) (s2:=strong) (hmem weak hok.2.2.1) (fun x hx=>hx) hall hok.2.2.2 hA
   simp+contextual(maxSteps:=1000000)(disch:=omega)only[↓Sd,↓So,↓Sk,↓den,↓Z0,Sa,Sb,Sc,Se,O1.d,O2.d,O3.d,cmI,arI,Z1,Z2,↓reduceIte,Nat.reduceLT,Nat.reduceSub,Nat.reduceAdd,Int.reduceAdd,Int.reduceEq,Int.reduceLT,Int.reduceLE,ZD,ZE,hA,Bool.not_true,ZlW s weak (ZN (fun _=>true) s.2.length) l hs hf1 (by omega) hf,e1,ZlW s (ZN (fun _=>true) s.2.length) strong l hs (by omega) hf2 hf,e2]
  ·have hA':acV s weak strong l=false:=by simpa using hA
   simp+contextual(maxSteps:=1000000)(disch:=omega)only[↓Sd,↓So,↓Sk,↓den,↓Z0,Sa,Sb,Sc,Se,O1.d,O2.d,O3.d,cmI,arI,Z1,Z2,↓reduceIte,Nat.reduceLT,Nat.reduceSub,Nat.reduceAdd,Int.reduceAdd,Int.reduceEq,Int.reduceLT,Int.reduceLE,ZD,ZE,hA',Bool.not_false]
end Go.Proofs.YtknlennollmgeaaGreat
