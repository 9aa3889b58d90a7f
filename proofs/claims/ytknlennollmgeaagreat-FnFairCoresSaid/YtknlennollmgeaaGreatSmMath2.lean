/- What the trees come to: plain mathematics; no condition. -/
import Derived.Test.YtknlennollmgeaaGreatSmMath1
namespace Go.Proofs.YtknlennollmgeaaGreat
open Go Go.Sm Go.Sm.Q
set_option linter.unusedSimpArgs false
set_option linter.unusedVariables false
theorem ZkG (s:Sy) (h:valid s) (p:Nat→Bool) (Q:List AV→Prop):mc.C ZbB [⟨L V3,s.1⟩,⟨L TR,s.2⟩,⟨L (L I),steps s⟩,⟨L I,ZQ p (szn s.1)⟩] Q=Q [⟨L (L I),ZkC s p (ZQ p (szn s.1))⟩]:=by
 have hz:=ZP h
 have ht:=Zj5 h
 have hTl:=ht.1.1
 have hn:=ht.2.1
 have hrow:=ht.2.2
 obtain ⟨n,hnz⟩:∃n,szn s.1=n:=⟨_,rfl⟩
 obtain ⟨T,hT⟩:∃T,steps s=T:=⟨_,rfl⟩
 have hU:ZkB s p=ZX T p n:=by unfold ZkB;rw [hT,hnz]
 have hP:∀m,isP s p m=fun a=>p a&&dB (cmp (ZX T p n) n a=(m:Int)):=fun m=>by funext a;unfold isP;rw [hU,hnz]
 have hR:∀m,isR s p m=dB (cmp (ZX T p n) n m=(m:Int)∧(1<(ZQ (isP s p m) n).length∨(m:Int)∈T.getD m []∨T.getD m []=[])):=fun m=>by unfold isR;rw [hU,hnz,hT]
 have hpr:∀l,ZkC s p l=(l.filter fun x=>isR s p x.toNat).map fun x=>ZQ (isP s p x.toNat) n:=fun l=>by unfold ZkC;rw [hnz]
 rw [hnz] at hz
 rw [hpr,hnz,hT]
 rw [hT] at hTl hrow ht
 rw [hnz] at ht hTl hn
 have hu8:=Zkn (p:=p) ht
 have hsl:(ZQ p n).length≤n:=Ziz
 have hsm:∀i,i<(ZQ p n).length→∃a,a<n∧(ZQ p n).getD i 0=(a:Int)∧p a=true:=fun i hi=>ZR.1 (ZK (d:=0) hi)
 refine Mc.Ends.c (mc.ends Zfj ?_)
 simp+contextual(maxSteps:=1000000)(disch:=omega)only[↓Sd,↓So,↓Sk,↓den,↓Z0,Sa,Sb,Sc,Se,O1.d,O2.d,O3.d,cmI,arI,Z1,Z2,↓reduceIte,Nat.reduceLT,Nat.reduceSub,Nat.reduceAdd,Int.reduceAdd,Int.reduceEq,Int.reduceLT,Int.reduceLE,ZG,ZH,Zdt,hTl,ZiK (ZQ p n) n (by omega) (by omega) (fun x hx=>by obtain ⟨a,h1,rfl,_⟩:=ZR.1 hx;omega),Zji]
 generalize hset:ZQ p n=l at hsl hsm
 refine mc.lp_for (List (List Int)) (fun i o=>[⟨L (L I),T⟩,⟨L I,l⟩,⟨I,(i:Int)⟩,⟨L (L I),o⟩,⟨L B,tab p n⟩]) (fun i o=>o=tab (fun k=>if p k=true then (T.getD k []).filter (fun x=>p x.toNat) else []) i) n 0 [] _ rfl (Nat.zero_le _) rfl ?_ ?_
 ·rintro i o hi rfl
  have hol:(tab (fun k=>if p k=true then (T.getD k []).filter (fun x=>p x.toNat) else []) i).length=i:=ZN
  obtain ⟨row,hr⟩:∃row,T.getD i []=row:=⟨_,rfl⟩
  have hrl:row.length≤8:=by rw [←hr];exact hrow _ (ZK (by omega))
  have hri:=fun j (hj:j<row.length)=>ht.1.row (i:=i) _ (by rw [hr];exact ZK (d:=0) hj)
  generalize hoo:tab (fun k=>if p k=true then (T.getD k []).filter (fun x=>p x.toNat) else []) i=oo at hol
  by_cases hp:p i=true
  ·have hnew:oo++[row.filter fun x=>p x.toNat]=tab (fun k=>if p k=true then (T.getD k []).filter (fun x=>p x.toNat) else []) (i+1):=by
    rw [←Zil,hoo,if_pos hp,hr]
   simp+contextual(maxSteps:=1000000)(disch:=omega)only[↓Sd,↓So,↓Sk,↓den,↓Z0,Sa,Sb,Sc,Se,O1.d,O2.d,O3.d,cmI,arI,Z1,Z2,↓reduceIte,Nat.reduceLT,Nat.reduceSub,Nat.reduceAdd,Int.reduceAdd,Int.reduceEq,Int.reduceLT,Int.reduceLE,ZG,ZH,↓ZI,hTl]
   refine mc.lp_for (List Int) (fun j o=>[⟨L (L I),T⟩,⟨L I,l⟩,⟨I,(i:Int)⟩,⟨I,(j:Int)⟩,⟨L (L I),oo⟩,⟨L B,tab p n⟩,⟨L I,o⟩]) (fun j o=>o=(row.take j).filter fun x=>p x.toNat) row.length 0 [] _ rfl (Nat.zero_le _) rfl ?_ ?_
   ·rintro j o hj rfl
    have hm:=hri j hj
    obtain ⟨m,hm2⟩:∃m:Nat,row.getD j 0=(m:Int):=⟨_,(Int.toNat_of_nonneg hm.1).symm⟩
    rw [hm2] at hm
    have hmn:m<n:=Int.ofNat_lt.1 hm.2
    have hfl:((row.take j).filter fun x=>p x.toNat).length≤8:=Nat.le_trans (List.length_filter_le ..) (by rw [List.length_take];omega)
    have hnx:=ZkE hj (fun x=>p x.toNat)
    rw [hm2] at hnx
    by_cases hpm:p m=true
    ·simp+contextual(maxSteps:=1000000)(disch:=omega)only[↓Sd,↓So,↓Sk,↓den,↓Z0,Sa,Sb,Sc,Se,O1.d,O2.d,O3.d,cmI,arI,Z1,Z2,↓reduceIte,Nat.reduceLT,Nat.reduceSub,Nat.reduceAdd,Int.reduceAdd,Int.reduceEq,Int.reduceLT,Int.reduceLE,ZG,ZH,↓ZI,hTl,hr,ZN,ZO hi,hp,hm2,ZO hmn,hpm]
     rw [hnx];simp [hpm]
    ·simp+contextual(maxSteps:=1000000)(disch:=omega)only[↓Sd,↓So,↓Sk,↓den,↓Z0,Sa,Sb,Sc,Se,O1.d,O2.d,O3.d,cmI,arI,Z1,Z2,↓reduceIte,Nat.reduceLT,Nat.reduceSub,Nat.reduceAdd,Int.reduceAdd,Int.reduceEq,Int.reduceLT,Int.reduceLE,ZG,ZH,↓ZI,hTl,hr,ZN,ZO hi,hp,hm2,ZO hmn,hpm]
     rw [hnx];simp [hpm]
   ·rintro o rfl
    rw [List.take_length]
    have hfl:(row.filter fun x=>p x.toNat).length≤8:=Nat.le_trans (List.length_filter_le ..) hrl
    simp+contextual(maxSteps:=1000000)(disch:=omega)only[↓Sd,↓So,↓Sk,↓den,↓Z0,Sa,Sb,Sc,Se,O1.d,O2.d,O3.d,cmI,arI,Z1,Z2,↓reduceIte,Nat.reduceLT,Nat.reduceSub,Nat.reduceAdd,Int.reduceAdd,Int.reduceEq,Int.reduceLT,Int.reduceLE,ZG,ZH,↓ZI,hTl,hr,hol]
    exact hnew
  ·have hnew:oo++[[]]=tab (fun k=>if p k=true then (T.getD k []).filter (fun x=>p x.toNat) else []) (i+1):=by
    rw [←Zil,hoo,if_neg hp]
   simp+contextual(maxSteps:=1000000)(disch:=omega)only[↓Sd,↓So,↓Sk,↓den,↓Z0,Sa,Sb,Sc,Se,O1.d,O2.d,O3.d,cmI,arI,Z1,Z2,↓reduceIte,Nat.reduceLT,Nat.reduceSub,Nat.reduceAdd,Int.reduceAdd,Int.reduceEq,Int.reduceLT,Int.reduceLE,ZG,ZH,↓ZI,hTl]
   refine mc.lp_step ?_
   simp+contextual(maxSteps:=1000000)(disch:=omega)only[↓Sd,↓So,↓Sk,↓den,↓Z0,Sa,Sb,Sc,Se,O1.d,O2.d,O3.d,cmI,arI,Z1,Z2,↓reduceIte,Nat.reduceLT,Nat.reduceSub,Nat.reduceAdd,Int.reduceAdd,Int.reduceEq,Int.reduceLT,Int.reduceLE,ZG,ZH,↓ZI,hTl,hr,ZN,ZO hi,hp,hol]
   exact ⟨fun _=>hnew,fun _=>hnew⟩
 ·rintro o rfl
  have hins:tab (fun k=>if p k=true then (T.getD k []).filter (fun x=>p x.toNat) else []) n=ZX T p n:=rfl
  simp+contextual(maxSteps:=1000000)(disch:=omega)only[↓Sd,↓So,↓Sk,↓den,↓Z0,Sa,Sb,Sc,Se,O1.d,O2.d,O3.d,cmI,arI,Z1,Z2,↓reduceIte,Nat.reduceLT,Nat.reduceSub,Nat.reduceAdd,Int.reduceAdd,Int.reduceEq,Int.reduceLT,Int.reduceLE,ZG,ZH,hTl,hins,ZjG (ZX T p n) n hu8]
  refine mc.lp_for (List (List Int)) (fun i o=>[⟨L (L I),T⟩,⟨L I,l⟩,⟨I,(i:Int)⟩,⟨L (L I),ZX T p n⟩,⟨L I,tab (cmp (ZX T p n) n) n⟩,⟨L (L I),o⟩])
   (fun i o=>o=((l.take i).filter fun x=>isR s p x.toNat).map fun x=>ZQ (isP s p x.toNat) n) l.length 0 [] _ rfl (Nat.zero_le _) rfl ?_ ?_
  ·rintro i o hi rfl
   obtain ⟨m,hmn,hm,hpm⟩:=hsm i hi
   have hol:(((l.take i).filter fun x=>isR s p x.toNat).map fun x=>ZQ (isP s p x.toNat) n).length≤n:=by
    rw [List.length_map];exact Nat.le_trans (List.length_filter_le ..) (by rw [List.length_take];omega)
   have hnx:((l.take (i+1)).filter fun x=>isR s p x.toNat).map (fun x=>ZQ (isP s p x.toNat) n)=((l.take i).filter fun x=>isR s p x.toNat).map (fun x=>ZQ (isP s p x.toNat) n)++if isR s p m=true then [ZQ (isP s p m) n] else []:=by
    rw [ZkE hi (fun x=>isR s p x.toNat),hm,List.map_append]
    congr 1
    simp only [Int.toNat_natCast]
    split<;>simp
   generalize hoo:((l.take i).filter fun x=>isR s p x.toNat).map (fun x=>ZQ (isP s p x.toNat) n)=oo at hol hnx
   by_cases hc:cmp (ZX T p n) n m=(m:Int)
   ·simp+contextual(maxSteps:=1000000)(disch:=omega)only[↓Sd,↓So,↓Sk,↓den,↓Z0,Sa,Sb,Sc,Se,O1.d,O2.d,O3.d,cmI,arI,Z1,Z2,↓reduceIte,Nat.reduceLT,Nat.reduceSub,Nat.reduceAdd,Int.reduceAdd,Int.reduceEq,Int.reduceLT,Int.reduceLE,ZG,ZH,↓ZI,hm,ZN,ZO hmn,hc]
    refine mc.lp_for (List Int) (fun j o=>[⟨L (L I),T⟩,⟨L I,l⟩,⟨I,(i:Int)⟩,⟨I,(j:Int)⟩,⟨L (L I),ZX T p n⟩,⟨L I,tab (cmp (ZX T p n) n) n⟩,⟨L (L I),oo⟩,⟨L I,o⟩]) (fun j o=>o=(l.take j).filter fun x=>dB (cmp (ZX T p n) n x.toNat=(m:Int))) l.length 0 [] _ rfl (Nat.zero_le _) rfl ?_ ?_
    ·rintro j o hj rfl
     obtain ⟨b,hbn,hb,hpb⟩:=hsm j hj
     have hfl:((l.take j).filter fun x=>dB (cmp (ZX T p n) n x.toNat=(m:Int))).length≤n:=Nat.le_trans (List.length_filter_le ..) (by rw [List.length_take];omega)
     have hnx2:=ZkE hj (fun x=>dB (cmp (ZX T p n) n x.toNat=(m:Int)))
     rw [hb] at hnx2
     simp only [Int.toNat_natCast] at hnx2
     by_cases hcb:cmp (ZX T p n) n b=(m:Int)
     ·simp+contextual(maxSteps:=1000000)(disch:=omega)only[↓Sd,↓So,↓Sk,↓den,↓Z0,Sa,Sb,Sc,Se,O1.d,O2.d,O3.d,cmI,arI,Z1,Z2,↓reduceIte,Nat.reduceLT,Nat.reduceSub,Nat.reduceAdd,Int.reduceAdd,Int.reduceEq,Int.reduceLT,Int.reduceLE,ZG,ZH,↓ZI,hm,hb,ZN,ZO hmn,ZO hbn,hcb]
      rw [hnx2,if_pos (ZS hcb)]
     ·simp+contextual(maxSteps:=1000000)(disch:=omega)only[↓Sd,↓So,↓Sk,↓den,↓Z0,Sa,Sb,Sc,Se,O1.d,O2.d,O3.d,cmI,arI,Z1,Z2,↓reduceIte,Nat.reduceLT,Nat.reduceSub,Nat.reduceAdd,Int.reduceAdd,Int.reduceEq,Int.reduceLT,Int.reduceLE,ZG,ZH,↓ZI,hm,hb,ZN,ZO hmn,ZO hbn,hcb]
      rw [hnx2,if_neg (by rw [ZT hcb];simp)];simp
    ·rintro o rfl
     have hPm:(l.filter fun x=>dB (cmp (ZX T p n) n x.toNat=(m:Int)))=ZQ (isP s p m) n:=by
      rw [←hset,hP];exact Zkd (q:=fun k=>dB (cmp (ZX T p n) n k=(m:Int)))
     rw [List.take_length,hPm]
     have hpl:(ZQ (isP s p m) n).length≤n:=Ziz
     have hUm:(m:Int)∈(ZX T p n).getD m []↔(m:Int)∈T.getD m []:=by rw [Zkm hmn];simp [hpm]
     have hUl:((ZX T p n).getD m []).length≤8:=hu8.2.2 _ (ZK (by rw [hu8.1.1];exact hmn))
     have hins2:(ZX T p n).length=n:=ZN
     by_cases h1:1<(ZQ (isP s p m) n).length
     ·have hr1:isR s p m=true:=by rw [hR];exact ZS ⟨hc,.inl h1⟩
      rw [if_pos hr1] at hnx
      simp+contextual(maxSteps:=1000000)(disch:=omega)only[↓Sd,↓So,↓Sk,↓den,↓Z0,Sa,Sb,Sc,Se,O1.d,O2.d,O3.d,cmI,arI,Z1,Z2,↓reduceIte,Nat.reduceLT,Nat.reduceSub,Nat.reduceAdd,Int.reduceAdd,Int.reduceEq,Int.reduceLT,Int.reduceLE,ZG,ZH,↓ZI,hm]
      exact hnx.symm
     ·by_cases h2:(m:Int)∈T.getD m []
      ·have hr1:isR s p m=true:=by rw [hR];exact ZS ⟨hc,.inr (.inl h2)⟩
       rw [if_pos hr1] at hnx
       simp+contextual(maxSteps:=1000000)(disch:=omega)only[↓Sd,↓So,↓Sk,↓den,↓Z0,Sa,Sb,Sc,Se,O1.d,O2.d,O3.d,cmI,arI,Z1,Z2,↓reduceIte,Nat.reduceLT,Nat.reduceSub,Nat.reduceAdd,Int.reduceAdd,Int.reduceEq,Int.reduceLT,Int.reduceLE,ZG,ZH,↓ZI,hm,hins2,Zja _ _ (show ((ZX T p n).getD m []).length≤1048576 by omega),ZS (hUm.2 h2)]
       exact hnx.symm
      ·by_cases h3:T.getD m []=[]
       ·have hr1:isR s p m=true:=by rw [hR];exact ZS ⟨hc,.inr (.inr h3)⟩
        rw [if_pos hr1] at hnx
        simp+contextual(maxSteps:=1000000)(disch:=omega)only[↓Sd,↓So,↓Sk,↓den,↓Z0,Sa,Sb,Sc,Se,O1.d,O2.d,O3.d,cmI,arI,Z1,Z2,↓reduceIte,Nat.reduceLT,Nat.reduceSub,Nat.reduceAdd,Int.reduceAdd,Int.reduceEq,Int.reduceLT,Int.reduceLE,ZG,ZH,↓ZI,hm,hins2,Zja _ _ (show ((ZX T p n).getD m []).length≤1048576 by omega),ZT (fun h=>h2 (hUm.1 h)),hTl,h3,List.length_nil]
        exact hnx.symm
       ·have hr1:¬isR s p m=true:=by
         rw [hR,ZT]
         ·simp
         ·rintro ⟨-,g | g | g⟩
          ·exact h1 g
          ·exact h2 g
          ·exact h3 g
        rw [if_neg hr1,List.append_nil] at hnx
        have h4:=List.length_pos_iff.2 h3
        simp+contextual(maxSteps:=1000000)(disch:=omega)only[↓Sd,↓So,↓Sk,↓den,↓Z0,Sa,Sb,Sc,Se,O1.d,O2.d,O3.d,cmI,arI,Z1,Z2,↓reduceIte,Nat.reduceLT,Nat.reduceSub,Nat.reduceAdd,Int.reduceAdd,Int.reduceEq,Int.reduceLT,Int.reduceLE,ZG,ZH,↓ZI,hm,hins2,Zja _ _ (show ((ZX T p n).getD m []).length≤1048576 by omega),ZT (fun h=>h2 (hUm.1 h)),hTl]
        exact hnx.symm
   ·have hr1:¬isR s p m=true:=by
     rw [hR,ZT]
     ·simp
     ·exact fun g=>hc g.1
    rw [if_neg hr1,List.append_nil] at hnx
    simp+contextual(maxSteps:=1000000)(disch:=omega)only[↓Sd,↓So,↓Sk,↓den,↓Z0,Sa,Sb,Sc,Se,O1.d,O2.d,O3.d,cmI,arI,Z1,Z2,↓reduceIte,Nat.reduceLT,Nat.reduceSub,Nat.reduceAdd,Int.reduceAdd,Int.reduceEq,Int.reduceLT,Int.reduceLE,ZG,ZH,↓ZI,hm,ZN,ZO hmn,hc]
    exact hnx.symm
  ·rintro o rfl
   rw [List.take_length]
   simp+contextual(maxSteps:=1000000)(disch:=omega)only[↓Sd,↓So,↓Sk,↓den,↓Z0,Sa,Sb,Sc,Se,O1.d,O2.d,O3.d,cmI,arI,Z1,Z2,↓reduceIte,Nat.reduceLT,Nat.reduceSub,Nat.reduceAdd,Int.reduceAdd,Int.reduceEq,Int.reduceLT,Int.reduceLE,ZG,ZH,]
theorem ZkH (s:Sy) (hs:ZL s) (h:valid s) (strong:List Int) (hst:ZkF s strong) (hsl:strong.length≤1048576) (q:Nat→Bool) (Q:List AV→Prop) :
  mc.C ZbE [⟨L V3,s.1⟩,⟨L TR,s.2⟩,⟨L (L B),tab (fun k=>tab (rub s k) (szn s.1)) s.2.length⟩,⟨L I,strong⟩,⟨L I,ZQ q (szn s.1)⟩] Q=Q [⟨L I,ZQ (ZZ s strong q) (szn s.1)⟩]:=by
 have hz:=ZP h
 have hql:(ZQ q (szn s.1)).length≤szn s.1:=Ziz
 refine Mc.Ends.c (mc.ends Zfm ?_)
 simp+contextual(maxSteps:=1000000)(disch:=omega)only[↓Sd,↓So,↓Sk,↓den,↓Z0,Sa,Sb,Sc,Se,O1.d,O2.d,O3.d,cmI,arI,Z1,Z2,↓reduceIte,Nat.reduceLT,Nat.reduceSub,Nat.reduceAdd,Int.reduceAdd,Int.reduceEq,Int.reduceLT,Int.reduceLE,ZG,ZH,Zdw]
 refine mc.lp_for (List Int) (fun i o=>[⟨L (L B),tab (fun k=>tab (rub s k) (szn s.1)) s.2.length⟩,⟨L I,strong⟩,⟨L I,ZQ q (szn s.1)⟩,⟨L I,o⟩,⟨I,(i:Int)⟩,⟨L V3,s.1⟩,⟨L TR,s.2⟩]) (fun i o=>o=ZQ (ZZ s (strong.take i) q) (szn s.1)) strong.length 0 (ZQ q (szn s.1)) _ rfl (Nat.zero_le _) ?_ ?_ ?_
 ·refine ZiA fun a ha=>?_
  unfold ZZ
  rw [ZT]
  ·simp
  ·rintro ⟨k,h1,-⟩;simp at h1
 ·rintro i o hi rfl
  have hk:=hst _ (ZK (d:=0) hi)
  obtain ⟨k,hk2⟩:∃k:Nat,strong.getD i 0=(k:Int):=⟨_,(Int.toNat_of_nonneg hk.1).symm⟩
  rw [hk2] at hk
  have hkR:k<s.2.length:=Int.ofNat_lt.1 hk.2
  have hnext:∀a,ZZ s (strong.take (i+1)) q a=(ZZ s (strong.take i) q a&&!(!ZY s k q&&rub s k a)):=by
   intro a
   unfold ZZ
   rw [Bool.and_assoc]
   congr 1
   by_cases h1:∃k:Nat,(k:Int)∈strong.take i∧ZY s k q=false∧rub s k a=true
   ·obtain ⟨j,j1,j2⟩:=h1
    rw [ZS (show ∃k:Nat,(k:Int)∈strong.take i∧ZY s k q=false∧rub s k a=true from ⟨j,j1,j2⟩),ZS (show ∃k:Nat,(k:Int)∈strong.take (i+1)∧ZY s k q=false∧rub s k a=true from ⟨j,(ZV hi).2 (.inl j1),j2⟩)];rfl
   ·rw [ZT h1]
    by_cases h2:ZY s k q=false∧rub s k a=true
    ·rw [ZS ⟨k,(ZV hi).2 (.inr hk2.symm),h2⟩];simp [h2.1,h2.2]
    ·rw [ZT]
     ·cases hA:ZY s k q
      ·have:rub s k a=false:=by
        cases hB:rub s k a with
        | false=>rfl
        | true=>exact absurd ⟨hA,hB⟩ h2
       rw [this];rfl
      ·rfl
     ·rintro ⟨j,j1,j2⟩
      rcases (ZV hi).1 j1 with j3 | j3
      ·exact h1 ⟨j,j3,j2⟩
      ·rw [hk2] at j3
       have:=Int.ofNat_inj.1 j3
       subst this;exact h2 j2
  have hol:(ZQ (ZZ s (strong.take i) q) (szn s.1)).length≤szn s.1:=Ziz
  have hmem:∀j,j<(ZQ (ZZ s (strong.take i) q) (szn s.1)).length→∃a,a<szn s.1∧(ZQ (ZZ s (strong.take i) q) (szn s.1)).getD j 0=(a:Int):=fun j hj=>by
   obtain ⟨a,h1,h2,_⟩:=ZR.1 (ZK (d:=0) hj);exact ⟨a,h1,h2⟩
  simp+contextual(maxSteps:=1000000)(disch:=omega)only[↓Sd,↓So,↓Sk,↓den,↓Z0,Sa,Sb,Sc,Se,O1.d,O2.d,O3.d,cmI,arI,Z1,Z2,↓reduceIte,Nat.reduceLT,Nat.reduceSub,Nat.reduceAdd,Int.reduceAdd,Int.reduceEq,Int.reduceLT,Int.reduceLE,ZG,ZH,↓ZI,hk2]
  refine ZkA s hs h q k hkR fun x hx=>?_
  by_cases hL:ZY s k q=true
  ·have h0:=hx.2 hL
   simp+contextual(maxSteps:=1000000)(disch:=omega)only[↓Sd,↓So,↓Sk,↓den,↓Z0,Sa,Sb,Sc,Se,O1.d,O2.d,O3.d,cmI,arI,Z1,Z2,↓reduceIte,Nat.reduceLT,Nat.reduceSub,Nat.reduceAdd,Int.reduceAdd,Int.reduceEq,Int.reduceLT,Int.reduceLE,ZG,ZH,↓ZI,]
   exact ZiA fun a _=>by rw [hnext,hL];simp
  ·have h0:¬0≤x:=fun g=>hL (hx.1 g)
   have hL':ZY s k q=false:=by simpa using hL
   simp+contextual(maxSteps:=1000000)(disch:=omega)only[↓Sd,↓So,↓Sk,↓den,↓Z0,Sa,Sb,Sc,Se,O1.d,O2.d,O3.d,cmI,arI,Z1,Z2,↓reduceIte,Nat.reduceLT,Nat.reduceSub,Nat.reduceAdd,Int.reduceAdd,Int.reduceEq,Int.reduceLT,Int.reduceLE,ZG,ZH,↓ZI,]
   have hfin:(ZQ (ZZ s (strong.take i) q) (szn s.1)).filter (fun x=>!rub s k x.toNat)=ZQ (ZZ s (strong.take (i+1)) q) (szn s.1):=by
    rw [Zkd (q:=fun a=>!rub s k a)]
    exact ZiA fun a _=>by rw [hnext,hL'];simp
   generalize ZQ (ZZ s (strong.take i) q) (szn s.1)=o at hol hmem hfin
   refine mc.lp_for (List Int) (fun j r=>[⟨L (L B),tab (fun k=>tab (rub s k) (szn s.1)) s.2.length⟩,⟨L I,strong⟩,⟨L I,ZQ q (szn s.1)⟩,⟨L I,o⟩,⟨I,(i:Int)⟩,⟨I,(j:Int)⟩,⟨L V3,s.1⟩,⟨L TR,s.2⟩,⟨L I,r⟩]) (fun j r=>r=(o.take j).filter fun x=>!rub s k x.toNat) o.length 0 [] _ rfl (Nat.zero_le _) rfl ?_ ?_
   ·rintro j r hj rfl
    obtain ⟨a,ha,hja⟩:=hmem j hj
    have hnx:=ZkE hj (fun x=>!rub s k x.toNat)
    rw [hja] at hnx
    simp only [Int.toNat_natCast] at hnx
    have hfl:((o.take j).filter fun x=>!rub s k x.toNat).length≤szn s.1:=Nat.le_trans (List.length_filter_le ..) (by rw [List.length_take];omega)
    by_cases hu:rub s k a=true
    ·simp+contextual(maxSteps:=1000000)(disch:=omega)only[↓Sd,↓So,↓Sk,↓den,↓Z0,Sa,Sb,Sc,Se,O1.d,O2.d,O3.d,cmI,arI,Z1,Z2,↓reduceIte,Nat.reduceLT,Nat.reduceSub,Nat.reduceAdd,Int.reduceAdd,Int.reduceEq,Int.reduceLT,Int.reduceLE,ZG,ZH,↓ZI,hk2,hja,ZN,ZO hkR,ZO ha,hu]
     rw [hnx];simp [hu]
    ·simp+contextual(maxSteps:=1000000)(disch:=omega)only[↓Sd,↓So,↓Sk,↓den,↓Z0,Sa,Sb,Sc,Se,O1.d,O2.d,O3.d,cmI,arI,Z1,Z2,↓reduceIte,Nat.reduceLT,Nat.reduceSub,Nat.reduceAdd,Int.reduceAdd,Int.reduceEq,Int.reduceLT,Int.reduceLE,ZG,ZH,↓ZI,hk2,hja,ZN,ZO hkR,ZO ha,hu]
     rw [hnx];simp [hu]
   ·rintro r rfl
    rw [List.take_length,hfin]
    simp+contextual(maxSteps:=1000000)(disch:=omega)only[↓Sd,↓So,↓Sk,↓den,↓Z0,Sa,Sb,Sc,Se,O1.d,O2.d,O3.d,cmI,arI,Z1,Z2,↓reduceIte,Nat.reduceLT,Nat.reduceSub,Nat.reduceAdd,Int.reduceAdd,Int.reduceEq,Int.reduceLT,Int.reduceLE,ZG,ZH,↓ZI,]
 ·rintro o rfl
  rw [List.take_length]
  simp+contextual(maxSteps:=1000000)(disch:=omega)only[↓Sd,↓So,↓Sk,↓den,↓Z0,Sa,Sb,Sc,Se,O1.d,O2.d,O3.d,cmI,arI,Z1,Z2,↓reduceIte,Nat.reduceLT,Nat.reduceSub,Nat.reduceAdd,Int.reduceAdd,Int.reduceEq,Int.reduceLT,Int.reduceLE,ZG,ZH,]
theorem ZkI (s:Sy) (hs:ZL s) (h:valid s) (weak:List Int) (hst:ZkF s weak) (hsl:weak.length≤1048576) (q:Nat→Bool) (Q:List AV→Prop) :
  mc.C ZbF [⟨L V3,s.1⟩,⟨L TR,s.2⟩,⟨L (L B),tab (fun k=>tab (rub s k) (szn s.1)) s.2.length⟩,⟨L I,weak⟩,⟨L I,ZQ q (szn s.1)⟩] Q=Q [⟨B,!ZkD s weak q⟩]:=by
 have hz:=ZP h
 have hql:(ZQ q (szn s.1)).length≤szn s.1:=Ziz
 have hall:(∀x∈ZQ q (szn s.1),∀k,rub s k x.toNat=true→True):=fun _ _ _ _=>trivial
 refine Mc.Ends.c (mc.ends Zfn ?_)
 simp+contextual(maxSteps:=1000000)(disch:=omega)only[↓Sd,↓So,↓Sk,↓den,↓Z0,Sa,Sb,Sc,Se,O1.d,O2.d,O3.d,cmI,arI,Z1,Z2,↓reduceIte,Nat.reduceLT,Nat.reduceSub,Nat.reduceAdd,Int.reduceAdd,Int.reduceEq,Int.reduceLT,Int.reduceLE,ZG,ZH,Zdx]
 refine mc.lp_for Unit (fun i _=>[⟨L (L B),tab (fun k=>tab (rub s k) (szn s.1)) s.2.length⟩,⟨L I,weak⟩,⟨L I,ZQ q (szn s.1)⟩,⟨I,(i:Int)⟩,⟨L V3,s.1⟩,⟨L TR,s.2⟩])
  (fun i _=>∀k:Nat,(k:Int)∈weak.take i→¬((∀a,a<szn s.1→q a=true→rub s k a=true)∧ZY s k q=false)) weak.length 0 () _ rfl (Nat.zero_le _) (fun k hk=>by simp at hk) ?_ ?_
 ·rintro i _ hi hI
  have hk:=hst _ (ZK (d:=0) hi)
  obtain ⟨k,hk2⟩:∃k:Nat,weak.getD i 0=(k:Int):=⟨_,(Int.toNat_of_nonneg hk.1).symm⟩
  rw [hk2] at hk
  have hkR:k<s.2.length:=Int.ofNat_lt.1 hk.2
  have hnext:¬((∀a,a<szn s.1→q a=true→rub s k a=true)∧ZY s k q=false)→∀k:Nat,(k:Int)∈weak.take (i+1)→¬((∀a,a<szn s.1→q a=true→rub s k a=true)∧ZY s k q=false):=by
   intro h1 j hj
   rcases (ZV hi).1 hj with h2 | h2
   ·exact hI j h2
   ·rw [hk2] at h2
    have:=Int.ofNat_inj.1 h2
    subst this;exact h1
  have hmem:∀j,j<(ZQ q (szn s.1)).length→∃a,a<szn s.1∧(ZQ q (szn s.1)).getD j 0=(a:Int)∧q a=true:=fun j hj=>ZR.1 (ZK (d:=0) hj)
  have hin:=@ZkA s hs h q k hkR
  have hev:(∀x∈ZQ q (szn s.1),rub s k x.toNat=true)↔∀a,a<szn s.1→q a=true→rub s k a=true:=by
   constructor
   ·intro h1 a ha hqa;exact h1 (a:Int) (ZR.2 ⟨a,ha,rfl,hqa⟩)
   ·intro h1 x hx
    obtain ⟨a,ha,rfl,hqa⟩:=ZR.1 hx
    exact h1 a ha hqa
  generalize ZQ q (szn s.1)=l at hql hmem hin hev
  simp+contextual(maxSteps:=1000000)(disch:=omega)only[↓Sd,↓So,↓Sk,↓den,↓Z0,Sa,Sb,Sc,Se,O1.d,O2.d,O3.d,cmI,arI,Z1,Z2,↓reduceIte,Nat.reduceLT,Nat.reduceSub,Nat.reduceAdd,Int.reduceAdd,Int.reduceEq,Int.reduceLT,Int.reduceLE,ZG,ZH,↓ZI,]
  refine mc.lp_for Bool (fun j b=>[⟨L (L B),tab (fun k=>tab (rub s k) (szn s.1)) s.2.length⟩,⟨L I,weak⟩,⟨L I,l⟩,⟨I,(i:Int)⟩,⟨B,b⟩,⟨I,(j:Int)⟩,⟨L V3,s.1⟩,⟨L TR,s.2⟩]) (fun j b=>b=dB (∀x∈l.take j,rub s k x.toNat=true)) l.length 0 true _ rfl (Nat.zero_le _) (by rw [ZS];intro x hx;simp at hx) ?_ ?_
  ·rintro j b hj rfl
   obtain ⟨a,ha,hja,hqa⟩:=hmem j hj
   by_cases h1:∀x∈l.take j,rub s k x.toNat=true
   ·simp+contextual(maxSteps:=1000000)(disch:=omega)only[↓Sd,↓So,↓Sk,↓den,↓Z0,Sa,Sb,Sc,Se,O1.d,O2.d,O3.d,cmI,arI,Z1,Z2,↓reduceIte,Nat.reduceLT,Nat.reduceSub,Nat.reduceAdd,Int.reduceAdd,Int.reduceEq,Int.reduceLT,Int.reduceLE,ZG,ZH,↓ZI,ZS h1,hk2,hja,ZN,ZO hkR,ZO ha]
    by_cases h2:rub s k a=true
    ·rw [h2,ZS]
     intro x hx
     rcases (ZV hj).1 hx with h3 | h3
     ·exact h1 x h3
     ·rw [h3,hja];exact h2
    ·rw [ZT]
     ·simpa using h2
     ·intro h3
      have:=h3 (l.getD j 0) ((ZV hj).2 (.inr rfl))
      rw [hja] at this;exact h2 this
   ·simp+contextual(maxSteps:=1000000)(disch:=omega)only[↓Sd,↓So,↓Sk,↓den,↓Z0,Sa,Sb,Sc,Se,O1.d,O2.d,O3.d,cmI,arI,Z1,Z2,↓reduceIte,Nat.reduceLT,Nat.reduceSub,Nat.reduceAdd,Int.reduceAdd,Int.reduceEq,Int.reduceLT,Int.reduceLE,ZG,ZH,↓ZI,ZT h1]
    rw [ZT]
    exact fun h3=>h1 fun x hx=>h3 x ((ZV hj).2 (.inl hx))
  ·rintro b rfl
   rw [List.take_length]
   by_cases h1:∀x∈l,rub s k x.toNat=true
   ·simp+contextual(maxSteps:=1000000)(disch:=omega)only[↓Sd,↓So,↓Sk,↓den,↓Z0,Sa,Sb,Sc,Se,O1.d,O2.d,O3.d,cmI,arI,Z1,Z2,↓reduceIte,Nat.reduceLT,Nat.reduceSub,Nat.reduceAdd,Int.reduceAdd,Int.reduceEq,Int.reduceLT,Int.reduceLE,ZG,ZH,↓ZI,ZS h1,hk2]
    refine hin fun x hx=>?_
    by_cases hL:ZY s k q=true
    ·have h0:=hx.2 hL
     simp+contextual(maxSteps:=1000000)(disch:=omega)only[↓Sd,↓So,↓Sk,↓den,↓Z0,Sa,Sb,Sc,Se,O1.d,O2.d,O3.d,cmI,arI,Z1,Z2,↓reduceIte,Nat.reduceLT,Nat.reduceSub,Nat.reduceAdd,Int.reduceAdd,Int.reduceEq,Int.reduceLT,Int.reduceLE,ZG,ZH,↓ZI,]
     exact hnext fun g=>by rw [hL] at g;exact absurd g.2 (by simp)
    ·have h0:¬0≤x:=fun g=>hL (hx.1 g)
     have hD:ZkD s weak q=true:=ZS ⟨k,by rw [←hk2];exact ZK hi,hev.1 h1,by simpa using hL⟩
     simp+contextual(maxSteps:=1000000)(disch:=omega)only[↓Sd,↓So,↓Sk,↓den,↓Z0,Sa,Sb,Sc,Se,O1.d,O2.d,O3.d,cmI,arI,Z1,Z2,↓reduceIte,Nat.reduceLT,Nat.reduceSub,Nat.reduceAdd,Int.reduceAdd,Int.reduceEq,Int.reduceLT,Int.reduceLE,ZG,ZH,↓ZI,hD]
     rfl
   ·simp+contextual(maxSteps:=1000000)(disch:=omega)only[↓Sd,↓So,↓Sk,↓den,↓Z0,Sa,Sb,Sc,Se,O1.d,O2.d,O3.d,cmI,arI,Z1,Z2,↓reduceIte,Nat.reduceLT,Nat.reduceSub,Nat.reduceAdd,Int.reduceAdd,Int.reduceEq,Int.reduceLT,Int.reduceLE,ZG,ZH,↓ZI,ZT h1]
    exact hnext fun g=>h1 (hev.2 g.1)
 ·rintro _ hI
  rw [List.take_length] at hI
  have hD:ZkD s weak q=false:=ZT fun ⟨k,h1,h2⟩=>hI k h1 h2
  simp+contextual(maxSteps:=1000000)(disch:=omega)only[↓Sd,↓So,↓Sk,↓den,↓Z0,Sa,Sb,Sc,Se,O1.d,O2.d,O3.d,cmI,arI,Z1,Z2,↓reduceIte,Nat.reduceLT,Nat.reduceSub,Nat.reduceAdd,Int.reduceAdd,Int.reduceEq,Int.reduceLT,Int.reduceLE,ZG,ZH,hD]
  rfl
noncomputable def Z_ (s:Sy) (weak strong:List Int) (f:(Nat→Bool)→List (List Int)) (q:Nat→Bool):List (List Int) :=
 if ZkD s weak q=true then [] else if (ZQ (ZZ s strong q) (szn s.1)).length=(ZQ q (szn s.1)).length then [ZQ q (szn s.1)] else f (ZZ s strong q)
noncomputable def crs (s:Sy) (weak strong:List Int):Nat→(Nat→Bool)→List (List Int)
 | 0,_=>[]
 | f+1,p=>((ZQ p (szn s.1)).filter fun x=>isR s p x.toNat).flatMap fun x=>Z_ s weak strong (crs s weak strong f) (isP s p x.toNat)
theorem ZkJ {s:Sy} {strong:List Int} {q:Nat→Bool} {a:Nat} (h:ZZ s strong q a=true):q a=true:=by
 unfold ZZ at h
 simp only [Bool.and_eq_true] at h
 exact h.1
theorem ZkK {s:Sy} {p:Nat→Bool} {m a:Nat} (h:isP s p m a=true):p a=true∧cmp (ZkB s p) (szn s.1) a=(m:Int):=by
 unfold isP at h
 simp only [Bool.and_eq_true] at h
 exact ⟨h.1,ZiB.1 h.2⟩
theorem ZkL {s:Sy} {p:Nat→Bool} {m:Nat} (hp:p m=true) (h:isR s p m=true):isP s p m m=true:=by
 unfold isP
 rw [hp,ZS (ZiB.1 h).1];rfl
theorem ZkM {p:Nat→Bool} {n a:Nat} (ha:a<n) (hp:p a=true):ZQ p n≠[]:=fun h=>by
 have:(a:Int)∈ZQ p n:=ZR.2 ⟨a,ha,rfl,hp⟩
 rw [h] at this;simp at this
structure CorOf (s:Sy) (p:Nat→Bool) (L:List (List Int)):Prop where
 dj:L.Pairwise fun c d=>∀x∈c,x∉d
 sub:∀c∈L,∃q:Nat→Bool,c=ZQ q (szn s.1)∧c≠[]∧∀a,q a=true→p a=true
theorem roots_pw {f:Int→Bool} {p:Nat→Bool} {n:Nat}:((ZQ p n).filter f).Pairwise (fun a b=>a<b):=by
 refine List.Pairwise.filter _ ?_
 induction n with
 | zero=>exact List.Pairwise.nil
 | succ n ih =>
  rw [ZQ]
  split
  ·refine List.pairwise_append.2 ⟨ih,List.pairwise_singleton _ _,fun a ha b hb=>?_⟩
   rw [List.mem_singleton.1 hb]
   have:=ZiJ a ha
   exact this
  ·exact ih
theorem ZkN {s:Sy} {weak strong:List Int}:∀{f:Nat} {p:Nat→Bool},CorOf s p (crs s weak strong f p)
 | 0,p=>⟨List.Pairwise.nil,fun c hc=>by simp [crs] at hc⟩
 | f+1,p=>by
  have hsub:∀(m:Nat),m<szn s.1→p m=true→isR s p m=true→∀c∈Z_ s weak strong (crs s weak strong f) (isP s p m),∃q:Nat→Bool,c=ZQ q (szn s.1)∧c≠[]∧∀a,q a=true→isP s p m a=true:=by
   intro m hm hp hr c hc
   unfold Z_ at hc
   split at hc
   ·simp at hc
   ·split at hc
    ·rw [List.mem_singleton.1 hc]
     exact ⟨_,rfl,ZkM hm (ZkL hp hr),fun a h=>h⟩
    ·obtain ⟨q,h1,h2,h3⟩:=(ZkN (f:=f)).sub c hc
     exact ⟨q,h1,h2,fun a h=>ZkJ (h3 a h)⟩
  have hroot:∀x∈(ZQ p (szn s.1)).filter (fun x=>isR s p x.toNat),∃m:Nat,x=(m:Int)∧m<szn s.1∧p m=true∧isR s p m=true:=by
   intro x hx
   obtain ⟨h1,h2⟩:=List.mem_filter.1 hx
   obtain ⟨m,h3,rfl,h4⟩:=ZR.1 h1
   exact ⟨m,rfl,h3,h4,by simpa using h2⟩
  refine ⟨?_,fun c hc=>?_⟩
  ·unfold crs
   rw [List.pairwise_flatMap]
   refine ⟨fun x hx=>?_,?_⟩
   ·unfold Z_
    split
    ·exact List.Pairwise.nil
    ·split
     ·exact List.pairwise_singleton _ _
     ·exact (ZkN (f:=f)).dj
   ·refine roots_pw.imp_of_mem ?_
    intro x y hx hy hlt c hc d hd z hz hz2
    obtain ⟨m,rfl,m1,m2,m3⟩:=hroot x hx
    obtain ⟨m',rfl,m1',m2',m3'⟩:=hroot y hy
    simp only [Int.toNat_natCast] at hc hd
    obtain ⟨q,rfl,-,q2⟩:=hsub m m1 m2 m3 c hc
    obtain ⟨q',rfl,-,q2'⟩:=hsub m' m1' m2' m3' d hd
    obtain ⟨a,-,rfl,ha⟩:=ZR.1 hz
    obtain ⟨a',-,he,ha'⟩:=ZR.1 hz2
    have he:=Int.ofNat_inj.1 he
    subst he
    have h1:=(ZkK (q2 _ ha)).2
    have h2:=(ZkK (q2' _ ha')).2
    rw [h1] at h2
    omega
  ·unfold crs at hc
   obtain ⟨x,hx,hc⟩:=List.mem_flatMap.1 hc
   obtain ⟨m,rfl,m1,m2,m3⟩:=hroot x hx
   simp only [Int.toNat_natCast] at hc
   obtain ⟨q,h1,h2,h3⟩:=hsub m m1 m2 m3 c hc
   exact ⟨q,h1,h2,fun a h=>(ZkK (h3 a h)).1⟩
theorem ZkO {n:Int}:∀{L:List (List Int)},L.Pairwise (fun c d=>∀x∈c,x∉d)→L.length≤(L.filter fun c=>!decide (n∈c)).length+1
 | [],_=>Nat.zero_le _
 | c::L,h=>by
  obtain ⟨h1,h2⟩:=List.pairwise_cons.1 h
  by_cases hc:n∈c
  ·have:L.filter (fun c=>!decide (n∈c))=L:=List.filter_eq_self.2 fun d hd=>by simpa using h1 d hd n hc
   simp [hc,this]
  ·have:=ZkO (n:=n) h2
   simp [hc];omega
theorem ZkP:∀{n:Nat} {L:List (List Int)},L.Pairwise (fun c d=>∀x∈c,x∉d)→(∀c∈L,c≠[]∧∀x∈c,0≤x∧x<(n:Int))→L.length≤n
 | 0,L,_,h=>by
  cases L with
  | nil=>exact Nat.le_refl _
  | cons c L =>
   obtain ⟨h1,h2⟩:=h c (List.mem_cons_self ..)
   cases c with
   | nil=>exact absurd rfl h1
   | cons x c=>have:=h2 x (List.mem_cons_self ..);omega
 | n+1,L,hp,h=>by
  have h1:=ZkO (n:=(n:Int)) hp
  have h2:=ZkP (n:=n) (hp.filter fun c=>!decide ((n:Int)∈c)) fun c hc=>by
   obtain ⟨g1,g2⟩:=List.mem_filter.1 hc
   obtain ⟨g3,g4⟩:=h c g1
   refine ⟨g3,fun x hx=>?_⟩
   have g5:=g4 x hx
   have:x≠(n:Int):=fun he=>by simp at g2;exact g2 (he▸hx)
   omega
  omega
theorem ZkQ {s:Sy} {weak strong:List Int} {f:Nat} {p:Nat→Bool}:(crs s weak strong f p).length≤szn s.1:=by
 have h:=ZkN (s:=s) (weak:=weak) (strong:=strong) (f:=f) (p:=p)
 refine ZkP h.dj fun c hc=>?_
 obtain ⟨q,rfl,h2,_⟩:=h.sub c hc
 exact ⟨h2,fun x hx=>by obtain ⟨a,h1,rfl,_⟩:=ZR.1 hx;omega⟩
theorem ZkR {α β:Type} (l:List α) (f:α→List β) (i:Nat):((l.take i).flatMap f).length≤(l.flatMap f).length:=by
 have h:l.flatMap f=(l.take i++l.drop i).flatMap f:=by rw [List.take_append_drop]
 rw [h,List.flatMap_append,List.length_append]
 omega
theorem ZkS {β:Type} {l:List Int} {i:Nat} (h:i<l.length) (f:Int→List β):(l.take (i+1)).flatMap f=(l.take i).flatMap f++f (l.getD i 0):=by
 rw [←ZhG (d:=0) h,List.flatMap_append]
 simp
theorem ZkT {s:Sy} {weak strong:List Int} {f:Nat} {p:Nat→Bool} (i:Nat) :
  ((((ZQ p (szn s.1)).filter fun x=>isR s p x.toNat).take i).flatMap fun x=>Z_ s weak strong (crs s weak strong f) (isP s p x.toNat)).length≤szn s.1 :=
 Nat.le_trans (ZkR _ _ i) (ZkQ (f:=f+1))
theorem ZkU {s:Sy} {strong:List Int} {q:Nat→Bool} (h:¬(ZQ (ZZ s strong q) (szn s.1)).length=(ZQ q (szn s.1)).length):(ZQ (ZZ s strong q) (szn s.1)).length<(ZQ q (szn s.1)).length:=by
 have:=(ZiM (p:=ZZ s strong q) (q:=q) (n:=szn s.1) fun k _ hk=>ZkJ hk).1
 omega
theorem ZkV (s:Sy) (hs:ZL s) (h:valid s) (weak strong:List Int) (hw:ZkF s weak) (hst:ZkF s strong) (hwl:weak.length≤1048576) (hsl:strong.length≤1048576) :
  ∀(f:Nat) (p:Nat→Bool),(ZQ p (szn s.1)).length≤f→∀(Q:List AV→Prop),
  mc.C ZbG [⟨L V3,s.1⟩,⟨L TR,s.2⟩,⟨L (L I),steps s⟩,⟨L (L B),tab (fun k=>tab (rub s k) (szn s.1)) s.2.length⟩,⟨L I,weak⟩,⟨L I,strong⟩,⟨L I,ZQ p (szn s.1)⟩] Q=Q [⟨L (L I),crs s weak strong (f+1) p⟩]:=by
 have hz:=ZP h
 intro f
 induction f with
 | zero =>
  intro p hf Q
  refine Mc.Ends.c (mc.ends Zfo ?_)
  have hnil:ZQ p (szn s.1)=[]:=List.eq_nil_of_length_eq_zero (by omega)
  have hP:=fun Q=>ZkG s h p Q
  have hpr:ZkC s p []=[]:=rfl
  have hcr:crs s weak strong 1 p=[]:=by unfold crs;rw [hnil];rfl
  rw [hnil] at hP ⊢
  rw [hpr] at hP
  simp+contextual(maxSteps:=1000000)(disch:=omega)only[↓Sd,↓So,↓Sk,↓den,↓Z0,Sa,Sb,Sc,Se,O1.d,O2.d,O3.d,cmI,arI,Z1,Z2,↓reduceIte,Nat.reduceLT,Nat.reduceSub,Nat.reduceAdd,Int.reduceAdd,Int.reduceEq,Int.reduceLT,Int.reduceLE,ZG,ZH,Zdy,hP]
  refine mc.lp_step ?_
  simp+contextual(maxSteps:=1000000)(disch:=omega)only[↓Sd,↓So,↓Sk,↓den,↓Z0,Sa,Sb,Sc,Se,O1.d,O2.d,O3.d,cmI,arI,Z1,Z2,↓reduceIte,Nat.reduceLT,Nat.reduceSub,Nat.reduceAdd,Int.reduceAdd,Int.reduceEq,Int.reduceLT,Int.reduceLE,ZG,ZH,List.length_nil,hcr]
 | succ f ih =>
  intro p hf Q
  refine Mc.Ends.c (mc.ends Zfo ?_)
  simp+contextual(maxSteps:=1000000)(disch:=omega)only[↓Sd,↓So,↓Sk,↓den,↓Z0,Sa,Sb,Sc,Se,O1.d,O2.d,O3.d,cmI,arI,Z1,Z2,↓reduceIte,Nat.reduceLT,Nat.reduceSub,Nat.reduceAdd,Int.reduceAdd,Int.reduceEq,Int.reduceLT,Int.reduceLE,ZG,ZH,Zdy,ZkG s h p]
  have hpl:(ZkC s p (ZQ p (szn s.1))).length=((ZQ p (szn s.1)).filter fun x=>isR s p x.toNat).length:=by unfold ZkC;rw [List.length_map]
  have hFl:((ZQ p (szn s.1)).filter fun x=>isR s p x.toNat).length≤szn s.1:=Nat.le_trans (List.length_filter_le ..) Ziz
  have hpg:∀i,i<((ZQ p (szn s.1)).filter fun x=>isR s p x.toNat).length→(ZkC s p (ZQ p (szn s.1))).getD i []=ZQ (isP s p (((ZQ p (szn s.1)).filter fun x=>isR s p x.toNat).getD i 0).toNat) (szn s.1):=by
   intro i hi
   unfold ZkC
   rw [List.getD_eq_getElem?_getD,List.getElem?_map,List.getD_eq_getElem?_getD,List.getElem?_eq_getElem hi]
   rfl
  have hb:=fun i=>ZkT (s:=s) (weak:=weak) (strong:=strong) (f:=f+1) (p:=p) i
  have hfin:crs s weak strong (f+1+1) p=((ZQ p (szn s.1)).filter fun x=>isR s p x.toNat).flatMap fun x=>Z_ s weak strong (crs s weak strong (f+1)) (isP s p x.toNat):=rfl
  rw [hfin]
  generalize (ZQ p (szn s.1)).filter (fun x=>isR s p x.toNat)=F at hpl hFl hpg hb
  generalize ZkC s p (ZQ p (szn s.1))=PR at hpl hpg
  obtain ⟨UB,hUB⟩:∃UB,tab (fun k=>tab (rub s k) (szn s.1)) s.2.length=UB:=⟨_,rfl⟩
  have hStr:=fun q Q=>ZkH s hs h strong hst hsl q Q
  have hWk:=fun q Q=>ZkI s hs h weak hw hwl q Q
  rw [hUB] at hStr hWk ih ⊢
  refine mc.lp_for (List (List Int)) (fun i o=>[⟨L (L I),steps s⟩,⟨L (L B),UB⟩,⟨L I,weak⟩,⟨L I,strong⟩,⟨L (L I),PR⟩,⟨I,(i:Int)⟩,⟨L V3,s.1⟩,⟨L TR,s.2⟩,⟨L (L I),o⟩])
   (fun i o=>o=(F.take i).flatMap fun x=>Z_ s weak strong (crs s weak strong (f+1)) (isP s p x.toNat)) F.length 0 [] _ rfl (Nat.zero_le _) rfl ?_ ?_
  ·rintro i o hi rfl
   have hg:=hpg i hi
   have hnx:=ZkS hi fun x=>Z_ s weak strong (crs s weak strong (f+1)) (isP s p x.toNat)
   have hb1:=hb i
   have hb2:=hb (i+1)
   have hql:(ZQ (isP s p (F.getD i 0).toNat) (szn s.1)).length≤f+1:=Nat.le_trans (ZiM fun k _ hk=>(ZkK hk).1).1 hf
   rw [hnx] at hb2
   rw [List.length_append] at hb2
   generalize (F.getD i 0).toNat=m at hg hnx hb2 hql
   generalize isP s p m=q at hg hnx hb2 hql
   generalize hO:((F.take i).flatMap fun x=>Z_ s weak strong (crs s weak strong (f+1)) (isP s p x.toNat))=O at hnx hb1 hb2
   by_cases hd:ZkD s weak q=true
   ·have hc2:Z_ s weak strong (crs s weak strong (f+1)) q=[]:=if_pos hd
    rw [hc2,List.append_nil] at hnx
    by_cases he:(ZQ (ZZ s strong q) (szn s.1)).length=(ZQ q (szn s.1)).length
    ·simp+contextual(maxSteps:=1000000)(disch:=omega)only[↓Sd,↓So,↓Sk,↓den,↓Z0,Sa,Sb,Sc,Se,O1.d,O2.d,O3.d,cmI,arI,Z1,Z2,↓reduceIte,Nat.reduceLT,Nat.reduceSub,Nat.reduceAdd,Int.reduceAdd,Int.reduceEq,Int.reduceLT,Int.reduceLE,ZG,ZH,↓ZI,hpl,hg,hStr,he,hWk,hd,Bool.not_true]
     exact hnx.symm
    ·simp+contextual(maxSteps:=1000000)(disch:=omega)only[↓Sd,↓So,↓Sk,↓den,↓Z0,Sa,Sb,Sc,Se,O1.d,O2.d,O3.d,cmI,arI,Z1,Z2,↓reduceIte,Nat.reduceLT,Nat.reduceSub,Nat.reduceAdd,Int.reduceAdd,Int.reduceEq,Int.reduceLT,Int.reduceLE,ZG,ZH,↓ZI,hpl,hg,hStr,he,hWk,hd,Bool.not_true]
     exact hnx.symm
   ·have hd':ZkD s weak q=false:=by simpa using hd
    by_cases he:(ZQ (ZZ s strong q) (szn s.1)).length=(ZQ q (szn s.1)).length
    ·have hc2:Z_ s weak strong (crs s weak strong (f+1)) q=[ZQ q (szn s.1)]:=by unfold Z_;rw [if_neg hd,if_pos he]
     rw [hc2] at hnx hb2
     simp only [List.length_singleton] at hb2
     simp+contextual(maxSteps:=1000000)(disch:=omega)only[↓Sd,↓So,↓Sk,↓den,↓Z0,Sa,Sb,Sc,Se,O1.d,O2.d,O3.d,cmI,arI,Z1,Z2,↓reduceIte,Nat.reduceLT,Nat.reduceSub,Nat.reduceAdd,Int.reduceAdd,Int.reduceEq,Int.reduceLT,Int.reduceLE,ZG,ZH,↓ZI,hpl,hg,hStr,he,hWk,hd',Bool.not_false]
     exact hnx.symm
    ·have hc2:Z_ s weak strong (crs s weak strong (f+1)) q=crs s weak strong (f+1) (ZZ s strong q):=by unfold Z_;rw [if_neg hd,if_neg he]
     rw [hc2] at hnx hb2
     have hlt:=ZkU he
     have hih:=fun Q=>ih (ZZ s strong q) (by omega) Q
     generalize crs s weak strong (f+1) (ZZ s strong q)=M at hnx hb2 hih
     simp+contextual(maxSteps:=1000000)(disch:=omega)only[↓Sd,↓So,↓Sk,↓den,↓Z0,Sa,Sb,Sc,Se,O1.d,O2.d,O3.d,cmI,arI,Z1,Z2,↓reduceIte,Nat.reduceLT,Nat.reduceSub,Nat.reduceAdd,Int.reduceAdd,Int.reduceEq,Int.reduceLT,Int.reduceLE,ZG,ZH,↓ZI,hpl,hg,hStr,he,hWk,hd',Bool.not_false,hih]
     refine mc.lp_for (List (List Int)) (fun j o=>[⟨L (L I),steps s⟩,⟨L (L B),UB⟩,⟨L I,weak⟩,⟨L I,strong⟩,⟨L (L I),PR⟩,⟨I,(i:Int)⟩,⟨I,(j:Int)⟩,⟨L V3,s.1⟩,⟨L TR,s.2⟩,⟨L (L I),o⟩,⟨L (L I),M⟩])
      (fun j o=>o=O++M.take j) M.length 0 O _ rfl (Nat.zero_le _) (by simp) ?_ ?_
     ·rintro j o hj rfl
      have hol:O.length+(M.take j).length≤szn s.1:=by rw [List.length_take];omega
      simp+contextual(maxSteps:=1000000)(disch:=omega)only[↓Sd,↓So,↓Sk,↓den,↓Z0,Sa,Sb,Sc,Se,O1.d,O2.d,O3.d,cmI,arI,Z1,Z2,↓reduceIte,Nat.reduceLT,Nat.reduceSub,Nat.reduceAdd,Int.reduceAdd,Int.reduceEq,Int.reduceLT,Int.reduceLE,ZG,ZH,]
      rw [List.append_assoc,ZhG hj]
     ·rintro o rfl
      rw [List.take_length]
      simp+contextual(maxSteps:=1000000)(disch:=omega)only[↓Sd,↓So,↓Sk,↓den,↓Z0,Sa,Sb,Sc,Se,O1.d,O2.d,O3.d,cmI,arI,Z1,Z2,↓reduceIte,Nat.reduceLT,Nat.reduceSub,Nat.reduceAdd,Int.reduceAdd,Int.reduceEq,Int.reduceLT,Int.reduceLE,ZG,ZH,↓ZI,]
      exact hnx.symm
  ·rintro o rfl
   rw [List.take_length]
   simp+contextual(maxSteps:=1000000)(disch:=omega)only[↓Sd,↓So,↓Sk,↓den,↓Z0,Sa,Sb,Sc,Se,O1.d,O2.d,O3.d,cmI,arI,Z1,Z2,↓reduceIte,Nat.reduceLT,Nat.reduceSub,Nat.reduceAdd,Int.reduceAdd,Int.reduceEq,Int.reduceLT,Int.reduceLE,ZG,ZH,hpl]
theorem ZkW {p:Nat→Bool} {a:Nat}:∀{b:Nat},a≤b→∃r,ZQ p b=ZQ p a++r
 | 0,h=>⟨[],by rw [Nat.le_zero.1 h];simp⟩
 | b+1,h=>by
  by_cases he:a=b+1
  ·exact ⟨[],by rw [he];simp⟩
  ·obtain ⟨r,hr⟩:=ZkW (p:=p) (a:=a) (b:=b) (by omega)
   rw [ZQ]
   split
   ·exact ⟨r++[(b:Int)],by rw [hr,List.append_assoc]⟩
   ·exact ⟨r,hr⟩
theorem ZkX {p:Nat→Bool} {g:Int→Bool} {β:Type} {f:Int→List β} {a b:Nat} (h:a≤b):(((ZQ p a).filter g).flatMap f).length≤(((ZQ p b).filter g).flatMap f).length:=by
 obtain ⟨r,hr⟩:=ZkW (p:=p) h
 rw [hr,List.filter_append,List.flatMap_append,List.length_append]
 omega
theorem ZkY {s:Sy} {strong:List Int} {q:Nat→Bool} {i k:Nat} (hi:i<strong.length) (hk:strong.getD i 0=(k:Int)) (a:Nat) :
  ZZ s (strong.take (i+1)) q a=(ZZ s (strong.take i) q a&&!(!ZY s k q&&rub s k a)):=by
 unfold ZZ
 rw [Bool.and_assoc]
 congr 1
 by_cases h1:∃k:Nat,(k:Int)∈strong.take i∧ZY s k q=false∧rub s k a=true
 ·obtain ⟨j,j1,j2⟩:=h1
  rw [ZS (show ∃k:Nat,(k:Int)∈strong.take i∧ZY s k q=false∧rub s k a=true from ⟨j,j1,j2⟩),ZS (show ∃k:Nat,(k:Int)∈strong.take (i+1)∧ZY s k q=false∧rub s k a=true from ⟨j,(ZV hi).2 (.inl j1),j2⟩)];rfl
 ·rw [ZT h1]
  by_cases h2:ZY s k q=false∧rub s k a=true
  ·rw [ZS ⟨k,(ZV hi).2 (.inr hk.symm),h2⟩];simp [h2.1,h2.2]
  ·rw [ZT]
   ·cases hA:ZY s k q
    ·have:rub s k a=false:=by
      cases hB:rub s k a with
      | false=>rfl
      | true=>exact absurd ⟨hA,hB⟩ h2
     rw [this];rfl
    ·rfl
   ·rintro ⟨j,j1,j2⟩
    rcases (ZV hi).1 j1 with j3 | j3
    ·exact h1 ⟨j,j3,j2⟩
    ·rw [hk] at j3
     have:=Int.ofNat_inj.1 j3
     subst this;exact h2 j2
noncomputable def ZkZ (s:Sy) (strong:List Int) (q:Nat→Bool):Bool:=dB (∃a,a<szn s.1∧q a=true∧¬ZZ s strong q a=true)
theorem Zk_ {s:Sy} {strong:List Int} {q:Nat→Bool}:ZkZ s strong q=true↔¬(ZQ (ZZ s strong q) (szn s.1)).length=(ZQ q (szn s.1)).length:=by
 have hm:=ZiM (p:=ZZ s strong q) (q:=q) (n:=szn s.1) fun k _ hk=>ZkJ hk
 constructor
 ·intro h he
  obtain ⟨a,h1,h2,h3⟩:=ZiB.1 h
  exact h3 (hm.2 (by omega) a h1 h2)
 ·intro h
  refine ZS ?_
  obtain ⟨a,h1,h2,h3⟩:=ZjI (ZkU h)
  exact ⟨a,h1,h2,h3⟩
theorem Zl0 (l:List Bool) (h:l≠[]) (hl:l.length≤1048576) (Q:List AV→Prop):mc.C Zcm [⟨L B,l⟩] Q=Q [⟨L B,l⟩]:=by
 refine Mc.Ends.c (mc.ends Zg4 ?_)
 have h1:l.isEmpty=false:=by cases l with | nil=>exact absurd rfl h | cons=>rfl
 simp+contextual(maxSteps:=1000000)(disch:=omega)only[↓Sd,↓So,↓Sk,↓den,↓Z0,Sa,Sb,Sc,Se,O1.d,O2.d,O3.d,cmI,arI,Z1,Z2,↓reduceIte,Nat.reduceLT,Nat.reduceSub,Nat.reduceAdd,Int.reduceAdd,Int.reduceEq,Int.reduceLT,Int.reduceLE,ZG,ZH,Zee,h1,List.length_nil,List.nil_append,Bool.not_false]
theorem Zl1 (s:Sy) (h:valid s) (weak strong:List Int) (hw:ZkF s weak) (hst:ZkF s strong) (hwl:weak.length≤1048576) (hsl:strong.length≤1048576) :
  ∀(f:Nat) (p:Nat→Bool),(ZQ p (szn s.1)).length≤f→∀(Q:List AV→Prop),
  mc.C Zcn [⟨FBox,fbx s weak strong⟩,⟨L B,tab p (szn s.1)⟩] Q=Q [⟨L (L I),crs s weak strong (f+1) p⟩,⟨FBox,fbx s weak strong⟩]:=by
 have hz:=ZP h
 have ht:=Zj5 h
 have hTl:=ht.1.1
 have hg:∀k,k<s.2.length→(toT s).getD k []=tab (rtg s k) (szn s.1):=fun k hk=>ZO hk
 have hl:(toT s).length=s.2.length:=ZN
 have hLd:=fun k hk q Q=>Zkx s h weak strong k hk q Q
 intro f
 induction f using Nat.strongRecOn with
 | ind f ih =>
  intro p hf Q
  have hTj:=fun Q=>Zkr (steps s) p (szn s.1) ht Q
  refine Mc.Ends.c (mc.ends Zg5 ?_)
  simp+contextual(maxSteps:=1000000)(disch:=omega)only[↓Sd,↓So,↓Sk,↓den,↓Z0,Sa,Sb,Sc,Se,O1.d,O2.d,O3.d,cmI,arI,Z1,Z2,↓reduceIte,Nat.reduceLT,Nat.reduceSub,Nat.reduceAdd,Int.reduceAdd,Int.reduceEq,Int.reduceLT,Int.reduceLE,ZG,ZH,Zef,hTj,hTl]
  obtain ⟨PT,hPT⟩:∃PT:Nat→Int,(fun k=>if p k=true then cmp (ZX (steps s) p (szn s.1)) (szn s.1) k else -1)=PT:=⟨_,rfl⟩
  have hPTe:∀m a:Nat,decide (PT a=(m:Int))=isP s p m a:=by
   intro m a
   rw [←hPT]
   unfold isP ZkB
   by_cases hp:p a=true
   ·simp only [hp,if_true,Bool.true_and]
    exact dB_eq.symm
   ·have:p a=false:=by simpa using hp
    simp only [this,Bool.false_and,Bool.false_eq_true,if_false,decide_eq_false_iff_not]
    omega
  rw [hPT]
  have hfin:crs s weak strong (f+1) p=((ZQ p (szn s.1)).filter fun x=>isR s p x.toNat).flatMap fun x=>Z_ s weak strong (crs s weak strong f) (isP s p x.toNat):=rfl
  have hbd:∀m,m≤szn s.1→(((ZQ p m).filter fun x=>isR s p x.toNat).flatMap fun x=>Z_ s weak strong (crs s weak strong f) (isP s p x.toNat)).length≤szn s.1:=fun m hm=>Nat.le_trans (ZkX hm) (ZkQ (f:=f+1))
  rw [hfin]
  refine mc.lp_for (List (List Int)) (fun m o=>[⟨I,(szn s.1:Int)⟩,⟨I,(m:Int)⟩,⟨L V3,s.1⟩,⟨L TR,s.2⟩,⟨L (L I),steps s⟩,⟨L I,weak⟩,⟨L I,strong⟩,⟨L (L I),toT s⟩,⟨L (L I),o⟩,⟨L I,tab PT (szn s.1)⟩])
   (fun m o=>o=((ZQ p m).filter fun x=>isR s p x.toNat).flatMap fun x=>Z_ s weak strong (crs s weak strong f) (isP s p x.toNat)) (szn s.1) 0 [] _ rfl (Nat.zero_le _) rfl ?_ ?_
  ·rintro m o hm rfl
   have hb1:=hbd m (by omega)
   have hb2:=hbd (m+1) (by omega)
   have hnx:((ZQ p (m+1)).filter fun x=>isR s p x.toNat).flatMap (fun x=>Z_ s weak strong (crs s weak strong f) (isP s p x.toNat))=((ZQ p m).filter fun x=>isR s p x.toNat).flatMap (fun x=>Z_ s weak strong (crs s weak strong f) (isP s p x.toNat))++if p m=true∧isR s p m=true then Z_ s weak strong (crs s weak strong f) (isP s p m) else []:=by
    by_cases hp:p m=true
    ·rw [Zix hp,List.filter_append,List.flatMap_append]
     congr 1
     by_cases hr:isR s p m=true
     ·simp [hr,hp]
     ·simp [hr]
    ·rw [Ziy hp];simp [hp]
   generalize hO:((ZQ p m).filter fun x=>isR s p x.toNat).flatMap (fun x=>Z_ s weak strong (crs s weak strong f) (isP s p x.toNat))=O at hb1 hnx ⊢
   rw [hnx,List.length_append] at hb2
   have hPm:(PT m=(m:Int))↔isP s p m m=true:=by rw [←hPTe];simp
   simp+contextual(maxSteps:=1000000)(disch:=omega)only[↓Sd,↓So,↓Sk,↓den,↓Z0,Sa,Sb,Sc,Se,O1.d,O2.d,O3.d,cmI,arI,Z1,Z2,↓reduceIte,Nat.reduceLT,Nat.reduceSub,Nat.reduceAdd,Int.reduceAdd,Int.reduceEq,Int.reduceLT,Int.reduceLE,ZG,ZH,]
   refine mc.wp_join (fun us=>us=[⟨I,(szn s.1:Int)⟩,⟨I,(m:Int)⟩,⟨L V3,s.1⟩,⟨L TR,s.2⟩,⟨L (L I),steps s⟩,⟨L I,weak⟩,⟨L I,strong⟩,⟨L (L I),toT s⟩,⟨L (L I),((ZQ p (m+1)).filter fun x=>isR s p x.toNat).flatMap (fun x=>Z_ s weak strong (crs s weak strong f) (isP s p x.toNat))⟩,⟨L I,tab PT (szn s.1)⟩]) ?_ ?_
   by_cases hpm:PT m=(m:Int)
   ·have hq:=hPm.1 hpm
    have hpp:=ZkK hq
    have hTm:((steps s).getD m []).length≤8:=ht.2.2 _ (ZK (by omega))
    have hql:(ZQ (isP s p m) (szn s.1)).length≤(ZQ p (szn s.1)).length:=(ZiM fun k _ hk=>(ZkK hk).1).1
    have hqp:1≤(ZQ (isP s p m) (szn s.1)).length:=List.length_pos_iff.2 (ZkM hm hq)
    have hRm:isR s p m=dB (1<(ZQ (isP s p m) (szn s.1)).length∨(m:Int)∈(steps s).getD m []∨(steps s).getD m []=[]):=by
     unfold isR
     exact ZiC ⟨fun g=>g.2,fun g=>⟨hpp.2,g⟩⟩
    simp+contextual(maxSteps:=1000000)(disch:=omega)only[↓Sd,↓So,↓Sk,↓den,↓Z0,Sa,Sb,Sc,Se,O1.d,O2.d,O3.d,cmI,arI,Z1,Z2,↓reduceIte,Nat.reduceLT,Nat.reduceSub,Nat.reduceAdd,Int.reduceAdd,Int.reduceEq,Int.reduceLT,Int.reduceLE,ZG,ZH,ZN,ZO hm,hpm,hTl,List.length_replicate]
    refine mc.lp_for (List Bool) (fun j o=>[⟨I,(m:Int)⟩,⟨I,(szn s.1:Int)⟩,⟨I,(m:Int)⟩,⟨I,(szn s.1:Int)⟩,⟨I,(j:Int)⟩,⟨L V3,s.1⟩,⟨L TR,s.2⟩,⟨L (L I),steps s⟩,⟨L I,weak⟩,⟨L I,strong⟩,⟨L (L I),toT s⟩,⟨L (L I),O⟩,⟨L I,tab PT (szn s.1)⟩,⟨L B,o⟩])
     (fun j o=>o=tab (isP s p m) j++List.replicate (szn s.1 - j) false) (szn s.1) 0 (List.replicate (szn s.1) false) _ rfl (Nat.zero_le _) (by simp [tab]) ?_ ?_
    ·rintro j o hj rfl
     have hlen:(tab (isP s p m) j++List.replicate (szn s.1 - j) false).length=szn s.1:=by simp [ZN];omega
     simp+contextual(maxSteps:=1000000)(disch:=omega)only[↓Sd,↓So,↓Sk,↓den,↓Z0,Sa,Sb,Sc,Se,O1.d,O2.d,O3.d,cmI,arI,Z1,Z2,↓reduceIte,Nat.reduceLT,Nat.reduceSub,Nat.reduceAdd,Int.reduceAdd,Int.reduceEq,Int.reduceLT,Int.reduceLE,ZG,ZH,hlen,ZN,ZO hj]
     exact Zim hj (hPTe m j)
    ·rintro o rfl
     rw [Nat.sub_self,List.replicate_zero,List.append_nil]
     generalize hqq:isP s p m=q at *
     simp+contextual(maxSteps:=1000000)(disch:=omega)only[↓Sd,↓So,↓Sk,↓den,↓Z0,Sa,Sb,Sc,Se,O1.d,O2.d,O3.d,cmI,arI,Z1,Z2,↓reduceIte,Nat.reduceLT,Nat.reduceSub,Nat.reduceAdd,Int.reduceAdd,Int.reduceEq,Int.reduceLT,Int.reduceLE,ZG,ZH,ZiV q (szn s.1) (by omega)]
     have hall:∀j,j<(ZQ q (szn s.1)).length→∃a,a<szn s.1∧(ZQ q (szn s.1)).getD j 0=(a:Int)∧q a=true:=fun j hj=>ZR.1 (ZK (d:=0) hj)
     have hall2:∀a,a<szn s.1→q a=true→(a:Int)∈ZQ q (szn s.1):=fun a ha hqa=>ZR.2 ⟨a,ha,rfl,hqa⟩
     have hal:(ZQ q (szn s.1)).length≤szn s.1:=Ziz
     obtain ⟨A,hA⟩:∃A,ZQ q (szn s.1)=A:=⟨_,rfl⟩
     refine mc.wp_join (fun us=>us=[⟨I,(szn s.1:Int)⟩,⟨I,(m:Int)⟩,⟨L V3,s.1⟩,⟨L TR,s.2⟩,⟨L (L I),steps s⟩,⟨L I,weak⟩,⟨L I,strong⟩,⟨L (L I),toT s⟩,⟨L (L I),O⟩,⟨L I,tab PT (szn s.1)⟩,⟨L B,tab q (szn s.1)⟩,⟨L I,A⟩]∧isR s p m=true) ?_ ?_
     ·by_cases h1:(ZQ q (szn s.1)).length=1
      ·by_cases h2:(steps s).getD m []=[]
       ·have hr1:isR s p m=true:=by rw [hRm];exact ZS (.inr (.inr h2))
        simp+contextual(maxSteps:=1000000)(disch:=omega)only[↓Sd,↓So,↓Sk,↓den,↓Z0,Sa,Sb,Sc,Se,O1.d,O2.d,O3.d,cmI,arI,Z1,Z2,↓reduceIte,Nat.reduceLT,Nat.reduceSub,Nat.reduceAdd,Int.reduceAdd,Int.reduceEq,Int.reduceLT,Int.reduceLE,ZG,ZH,h1,hTl,h2,List.length_nil]
        exact ⟨hA,hr1⟩
       ·have h2':=List.length_pos_iff.2 h2
        by_cases h3:(m:Int)∈(steps s).getD m []
        ·have hr1:isR s p m=true:=by rw [hRm];exact ZS (.inr (.inl h3))
         simp+contextual(maxSteps:=1000000)(disch:=omega)only[↓Sd,↓So,↓Sk,↓den,↓Z0,Sa,Sb,Sc,Se,O1.d,O2.d,O3.d,cmI,arI,Z1,Z2,↓reduceIte,Nat.reduceLT,Nat.reduceSub,Nat.reduceAdd,Int.reduceAdd,Int.reduceEq,Int.reduceLT,Int.reduceLE,ZG,ZH,h1,hTl,Zkf _ _ (show ((steps s).getD m []).length≤1048576 by omega),ZS h3,Bool.not_true]
         exact ⟨hA,hr1⟩
        ·have hr1:¬isR s p m=true:=by
          rw [hRm,ZT]
          ·simp
          ·rintro (g | g | g)
           ·omega
           ·exact h3 g
           ·exact h2 g
         rw [if_neg fun g=>hr1 g.2,List.append_nil] at hnx
         simp+contextual(maxSteps:=1000000)(disch:=omega)only[↓Sd,↓So,↓Sk,↓den,↓Z0,Sa,Sb,Sc,Se,O1.d,O2.d,O3.d,cmI,arI,Z1,Z2,↓reduceIte,Nat.reduceLT,Nat.reduceSub,Nat.reduceAdd,Int.reduceAdd,Int.reduceEq,Int.reduceLT,Int.reduceLE,ZG,ZH,h1,hTl,Zkf _ _ (show ((steps s).getD m []).length≤1048576 by omega),ZT h3,Bool.not_false]
         exact hnx.symm
      ·have hr1:isR s p m=true:=by rw [hRm];exact ZS (.inl (by omega))
       simp+contextual(maxSteps:=1000000)(disch:=omega)only[↓Sd,↓So,↓Sk,↓den,↓Z0,Sa,Sb,Sc,Se,O1.d,O2.d,O3.d,cmI,arI,Z1,Z2,↓reduceIte,Nat.reduceLT,Nat.reduceSub,Nat.reduceAdd,Int.reduceAdd,Int.reduceEq,Int.reduceLT,Int.reduceLE,ZG,ZH,h1]
       exact ⟨hA,hr1⟩
     ·rintro us ⟨rfl,hr1⟩
      rw [if_pos ⟨hpp.1,hr1⟩] at hnx hb2
      rw [hA] at hall hall2 hal
      refine mc.wp_join (fun us=>us=[⟨B,ZkD s weak q⟩,⟨I,(szn s.1:Int)⟩,⟨I,(m:Int)⟩,⟨L V3,s.1⟩,⟨L TR,s.2⟩,⟨L (L I),steps s⟩,⟨L I,weak⟩,⟨L I,strong⟩,⟨L (L I),toT s⟩,⟨L (L I),O⟩,⟨L I,tab PT (szn s.1)⟩,⟨L B,tab q (szn s.1)⟩,⟨L I,A⟩]) ?_ ?_
      ·simp+contextual(maxSteps:=1000000)(disch:=omega)only[↓Sd,↓So,↓Sk,↓den,↓Z0,Sa,Sb,Sc,Se,O1.d,O2.d,O3.d,cmI,arI,Z1,Z2,↓reduceIte,Nat.reduceLT,Nat.reduceSub,Nat.reduceAdd,Int.reduceAdd,Int.reduceEq,Int.reduceLT,Int.reduceLE,ZG,ZH,]
       refine mc.lp_for Unit (fun i _=>[⟨L I,weak⟩,⟨I,(weak.length:Int)⟩,⟨I,(i:Int)⟩,⟨I,(szn s.1:Int)⟩,⟨I,(m:Int)⟩,⟨L V3,s.1⟩,⟨L TR,s.2⟩,⟨L (L I),steps s⟩,⟨L I,weak⟩,⟨L I,strong⟩,⟨L (L I),toT s⟩,⟨L B,tab q (szn s.1)⟩,⟨L I,A⟩,⟨L (L I),O⟩,⟨L I,tab PT (szn s.1)⟩])
        (fun i _=>∀k:Nat,(k:Int)∈weak.take i→¬((∀a,a<szn s.1→q a=true→rub s k a=true)∧ZY s k q=false)) weak.length 0 () _ rfl (Nat.zero_le _) (fun k hk=>by simp at hk) ?_ ?_
       ·rintro i _ hi hI
        have hk:=hw _ (ZK (d:=0) hi)
        obtain ⟨k,hk2⟩:∃k:Nat,weak.getD i 0=(k:Int):=⟨_,(Int.toNat_of_nonneg hk.1).symm⟩
        rw [hk2] at hk
        have hkR:k<s.2.length:=Int.ofNat_lt.1 hk.2
        have hnext:¬((∀a,a<szn s.1→q a=true→rub s k a=true)∧ZY s k q=false)→∀k:Nat,(k:Int)∈weak.take (i+1)→¬((∀a,a<szn s.1→q a=true→rub s k a=true)∧ZY s k q=false):=by
         intro h1 j hj
         rcases (ZV hi).1 hj with h2 | h2
         ·exact hI j h2
         ·rw [hk2] at h2
          have:=Int.ofNat_inj.1 h2
          subst this;exact h1
        by_cases hL:ZY s k q=true
        ·simp+contextual(maxSteps:=1000000)(disch:=omega)only[↓Sd,↓So,↓Sk,↓den,↓Z0,Sa,Sb,Sc,Se,O1.d,O2.d,O3.d,cmI,arI,Z1,Z2,↓reduceIte,Nat.reduceLT,Nat.reduceSub,Nat.reduceAdd,Int.reduceAdd,Int.reduceEq,Int.reduceLT,Int.reduceLE,ZG,ZH,↓ZI,hk2,hLd k hkR,hL,Bool.not_true]
         exact hnext fun g=>by rw [hL] at g;exact absurd g.2 (by simp)
        ·have hL':ZY s k q=false:=by simpa using hL
         simp+contextual(maxSteps:=1000000)(disch:=omega)only[↓Sd,↓So,↓Sk,↓den,↓Z0,Sa,Sb,Sc,Se,O1.d,O2.d,O3.d,cmI,arI,Z1,Z2,↓reduceIte,Nat.reduceLT,Nat.reduceSub,Nat.reduceAdd,Int.reduceAdd,Int.reduceEq,Int.reduceLT,Int.reduceLE,ZG,ZH,↓ZI,hk2,hLd k hkR,hL',Bool.not_false]
         refine mc.lp_for Unit (fun j _=>[⟨I,(A.length:Int)⟩,⟨I,(j:Int)⟩,⟨L I,weak⟩,⟨I,(i:Int)⟩,⟨I,(weak.length:Int)⟩,⟨I,(i:Int)⟩,⟨I,(szn s.1:Int)⟩,⟨I,(m:Int)⟩,⟨L V3,s.1⟩,⟨L TR,s.2⟩,⟨L (L I),steps s⟩,⟨L I,weak⟩,⟨L I,strong⟩,⟨L (L I),toT s⟩,⟨L I,A⟩,⟨I,(k:Int)⟩,⟨L B,tab q (szn s.1)⟩,⟨L (L I),O⟩,⟨L I,tab PT (szn s.1)⟩])
          (fun j _=>∀x∈A.take j,rub s k x.toNat=true) A.length 0 () _ rfl (Nat.zero_le _) (fun x hx=>by simp at hx) ?_ ?_
         ·rintro j _ hj hJ
          obtain ⟨a,ha,hja,hqa⟩:=hall j hj
          by_cases hu:rub s k a=true
          ·have hr:=(Zkt h).2 hu
           simp+contextual(maxSteps:=1000000)(disch:=omega)only[↓Sd,↓So,↓Sk,↓den,↓Z0,Sa,Sb,Sc,Se,O1.d,O2.d,O3.d,cmI,arI,Z1,Z2,↓reduceIte,Nat.reduceLT,Nat.reduceSub,Nat.reduceAdd,Int.reduceAdd,Int.reduceEq,Int.reduceLT,Int.reduceLE,ZG,ZH,↓ZI,hja,hl,hg k hkR,ZN,ZO ha]
           intro x hx
           rcases (ZV hj).1 hx with h2 | h2
           ·exact hJ x h2
           ·rw [h2,hja];exact hu
          ·have hr:=Zkv h hu
           simp+contextual(maxSteps:=1000000)(disch:=omega)only[↓Sd,↓So,↓Sk,↓den,↓Z0,Sa,Sb,Sc,Se,O1.d,O2.d,O3.d,cmI,arI,Z1,Z2,↓reduceIte,Nat.reduceLT,Nat.reduceSub,Nat.reduceAdd,Int.reduceAdd,Int.reduceEq,Int.reduceLT,Int.reduceLE,ZG,ZH,↓ZI,hja,hl,hg k hkR,ZN,ZO ha,hr,Bool.not_true,decide_eq_true (show (j:Int)≥0 by omega)]
           exact hnext fun g=>hu (g.1 a ha hqa)
         ·rintro _ hJ
          rw [List.take_length] at hJ
          have hD:ZkD s weak q=true:=ZS ⟨k,by rw [←hk2];exact ZK hi,fun a ha hqa=>hJ (a:Int) (hall2 a ha hqa),hL'⟩
          simp+contextual(maxSteps:=1000000)(disch:=omega)only[↓Sd,↓So,↓Sk,↓den,↓Z0,Sa,Sb,Sc,Se,O1.d,O2.d,O3.d,cmI,arI,Z1,Z2,↓reduceIte,Nat.reduceLT,Nat.reduceSub,Nat.reduceAdd,Int.reduceAdd,Int.reduceEq,Int.reduceLT,Int.reduceLE,ZG,ZH,↓ZI,hD,decide_eq_false (show ¬(-1:Int)≥0 by omega),Bool.not_false,decide_eq_true (show (i:Int)≥0 by omega)]
          exact fun hx=>absurd (decide_eq_false (by omega)) hx
       ·rintro _ hI
        rw [List.take_length] at hI
        have hD:ZkD s weak q=false:=ZT fun ⟨k,h1,h2⟩=>hI k h1 h2
        simp+contextual(maxSteps:=1000000)(disch:=omega)only[↓Sd,↓So,↓Sk,↓den,↓Z0,Sa,Sb,Sc,Se,O1.d,O2.d,O3.d,cmI,arI,Z1,Z2,↓reduceIte,Nat.reduceLT,Nat.reduceSub,Nat.reduceAdd,Int.reduceAdd,Int.reduceEq,Int.reduceLT,Int.reduceLE,ZG,ZH,hD]
        exact decide_eq_false (by omega)
      ·rintro us rfl
       by_cases hD:ZkD s weak q=true
       ·have hc2:Z_ s weak strong (crs s weak strong f) q=[]:=if_pos hD
        rw [hc2,List.append_nil] at hnx
        simp+contextual(maxSteps:=1000000)(disch:=omega)only[↓Sd,↓So,↓Sk,↓den,↓Z0,Sa,Sb,Sc,Se,O1.d,O2.d,O3.d,cmI,arI,Z1,Z2,↓reduceIte,Nat.reduceLT,Nat.reduceSub,Nat.reduceAdd,Int.reduceAdd,Int.reduceEq,Int.reduceLT,Int.reduceLE,ZG,ZH,hD]
        exact hnx.symm
       ·have hD':ZkD s weak q=false:=by simpa using hD
        simp+contextual(maxSteps:=1000000)(disch:=omega)only[↓Sd,↓So,↓Sk,↓den,↓Z0,Sa,Sb,Sc,Se,O1.d,O2.d,O3.d,cmI,arI,Z1,Z2,↓reduceIte,Nat.reduceLT,Nat.reduceSub,Nat.reduceAdd,Int.reduceAdd,Int.reduceEq,Int.reduceLT,Int.reduceLE,ZG,ZH,hD',Zl0 (tab q (szn s.1)) (fun g=>by have:=congrArg List.length g;rw [ZN] at this;simp at this;omega) (by rw [ZN];omega)]
        refine mc.lp_for (Bool×(Nat→Bool)) (fun i z=>[⟨B,z.1⟩,⟨I,(szn s.1:Int)⟩,⟨I,(m:Int)⟩,⟨L I,strong⟩,⟨I,(strong.length:Int)⟩,⟨I,(i:Int)⟩,⟨L V3,s.1⟩,⟨L TR,s.2⟩,⟨L (L I),steps s⟩,⟨L I,weak⟩,⟨L I,strong⟩,⟨L (L I),toT s⟩,⟨L (L I),O⟩,⟨L I,tab PT (szn s.1)⟩,⟨L B,tab q (szn s.1)⟩,⟨L I,A⟩,⟨L B,tab z.2 (szn s.1)⟩])
         (fun i z=>(∀a,a<szn s.1→z.2 a=ZZ s (strong.take i) q a)∧z.1=ZkZ s (strong.take i) q) strong.length 0 (false,q) _ rfl (Nat.zero_le _) ⟨fun a _=>?_,?_⟩ ?_ ?_
        ·unfold ZZ
         rw [ZT]
         ·simp
         ·rintro ⟨k,h1,-⟩;simp at h1
        ·refine (ZT ?_).symm
         rintro ⟨a,-,h2,h3⟩
         refine h3 ?_
         unfold ZZ
         rw [ZT]
         ·simp [h2]
         ·rintro ⟨k,h1,-⟩;simp at h1
        ·rintro i ⟨cg,lf⟩ hi ⟨hz1,hz2⟩
         dsimp only at hz1 hz2
         have hk:=hst _ (ZK (d:=0) hi)
         obtain ⟨k,hk2⟩:∃k:Nat,strong.getD i 0=(k:Int):=⟨_,(Int.toNat_of_nonneg hk.1).symm⟩
         rw [hk2] at hk
         have hkR:k<s.2.length:=Int.ofNat_lt.1 hk.2
         have hsn:=fun a=>ZkY (s:=s) (q:=q) hi hk2 a
         by_cases hL:ZY s k q=true
         ·have hsn2:∀a,ZZ s (strong.take (i+1)) q a=ZZ s (strong.take i) q a:=fun a=>by rw [hsn,hL];simp
          simp+contextual(maxSteps:=1000000)(disch:=omega)only[↓Sd,↓So,↓Sk,↓den,↓Z0,Sa,Sb,Sc,Se,O1.d,O2.d,O3.d,cmI,arI,Z1,Z2,↓reduceIte,Nat.reduceLT,Nat.reduceSub,Nat.reduceAdd,Int.reduceAdd,Int.reduceEq,Int.reduceLT,Int.reduceLE,ZG,ZH,↓ZI,hk2,hLd k hkR,hL]
          refine ⟨(cg,lf),⟨rfl,rfl⟩,fun a ha=>by rw [hsn2];exact hz1 a ha,?_⟩
          dsimp only
          rw [hz2]
          exact ZiC (by simp only [hsn2])
         ·have hL':ZY s k q=false:=by simpa using hL
          have hsn2:∀a,ZZ s (strong.take (i+1)) q a=(ZZ s (strong.take i) q a&&!rub s k a):=fun a=>by rw [hsn,hL'];simp
          simp+contextual(maxSteps:=1000000)(disch:=omega)only[↓Sd,↓So,↓Sk,↓den,↓Z0,Sa,Sb,Sc,Se,O1.d,O2.d,O3.d,cmI,arI,Z1,Z2,↓reduceIte,Nat.reduceLT,Nat.reduceSub,Nat.reduceAdd,Int.reduceAdd,Int.reduceEq,Int.reduceLT,Int.reduceLE,ZG,ZH,↓ZI,hk2,hLd k hkR,hL']
          refine mc.lp_for (Bool×(Nat→Bool)) (fun j z=>[⟨B,z.1⟩,⟨I,(k:Int)⟩,⟨I,(szn s.1:Int)⟩,⟨I,(m:Int)⟩,⟨L I,strong⟩,⟨I,(strong.length:Int)⟩,⟨I,(i:Int)⟩,⟨I,(A.length:Int)⟩,⟨I,(j:Int)⟩,⟨L V3,s.1⟩,⟨L TR,s.2⟩,⟨L (L I),steps s⟩,⟨L I,weak⟩,⟨L I,strong⟩,⟨L (L I),toT s⟩,⟨L (L I),O⟩,⟨L I,tab PT (szn s.1)⟩,⟨L B,tab q (szn s.1)⟩,⟨L I,A⟩,⟨L B,tab z.2 (szn s.1)⟩])
           (fun j z=>(∀a,a<szn s.1→z.2 a=(lf a&&!(rub s k a&&dB ((a:Int)∈A.take j))))∧z.1=(cg||dB (∃x∈A.take j,rub s k x.toNat=true))) A.length 0 (cg,lf) _ rfl (Nat.zero_le _) ⟨fun a _=>?_,?_⟩ ?_ ?_
          ·rw [ZT (by simp)];simp
          ·rw [ZT (by simp)];simp
          ·rintro j ⟨cg2,lf2⟩ hj ⟨hy1,hy2⟩
           dsimp only at hy1 hy2
           obtain ⟨a,ha,hja,hqa⟩:=hall j hj
           have hmn:∀b:Nat,(b:Int)∈A.take (j+1)↔(b:Int)∈A.take j∨b=a:=fun b=>by
            rw [ZV hj,hja]
            exact or_congr Iff.rfl ⟨fun g=>Int.ofNat_inj.1 g,fun g=>by rw [g]⟩
           by_cases hu:rub s k a=true
           ·have hr:=(Zkt h).2 hu
            simp+contextual(maxSteps:=1000000)(disch:=omega)only[↓Sd,↓So,↓Sk,↓den,↓Z0,Sa,Sb,Sc,Se,O1.d,O2.d,O3.d,cmI,arI,Z1,Z2,↓reduceIte,Nat.reduceLT,Nat.reduceSub,Nat.reduceAdd,Int.reduceAdd,Int.reduceEq,Int.reduceLT,Int.reduceLE,ZG,ZH,↓ZI,hja,hl,hg k hkR,ZN,ZO ha,ZiE]
            refine ⟨(true,fun b=>if b=a then false else lf2 b),⟨rfl,rfl⟩,fun b hb=>?_,?_⟩
            ·dsimp only
             by_cases he:b=a
             ·subst he
              rw [if_pos rfl,hu,ZS ((hmn b).2 (.inr rfl))];simp
             ·rw [if_neg he,hy1 b hb,ZiC (show (b:Int)∈A.take (j+1)↔(b:Int)∈A.take j from ⟨fun g=>((hmn b).1 g).resolve_right he,fun g=>(hmn b).2 (.inl g)⟩)]
            ·dsimp only
             rw [ZS (show ∃x∈A.take (j+1),rub s k x.toNat=true from ⟨(a:Int),(hmn a).2 (.inr rfl),hu⟩)];simp
           ·have hr:=Zkv h hu
            simp+contextual(maxSteps:=1000000)(disch:=omega)only[↓Sd,↓So,↓Sk,↓den,↓Z0,Sa,Sb,Sc,Se,O1.d,O2.d,O3.d,cmI,arI,Z1,Z2,↓reduceIte,Nat.reduceLT,Nat.reduceSub,Nat.reduceAdd,Int.reduceAdd,Int.reduceEq,Int.reduceLT,Int.reduceLE,ZG,ZH,↓ZI,hja,hl,hg k hkR,ZN,ZO ha,hr]
            refine ⟨(cg2,lf2),⟨rfl,rfl⟩,fun b hb=>?_,?_⟩
            ·dsimp only
             rw [hy1 b hb]
             by_cases he:b=a
             ·subst he
              have:rub s k b=false:=by simpa using hu
              rw [this];simp
             ·rw [ZiC (show (b:Int)∈A.take (j+1)↔(b:Int)∈A.take j from ⟨fun g=>((hmn b).1 g).resolve_right he,fun g=>(hmn b).2 (.inl g)⟩)]
            ·dsimp only
             rw [hy2]
             congr 1
             refine ZiC ⟨?_,?_⟩
             ·rintro ⟨x,h1,h2⟩;exact ⟨x,(ZV hj).2 (.inl h1),h2⟩
             ·rintro ⟨x,h1,h2⟩
              rcases (ZV hj).1 h1 with h3 | h3
              ·exact ⟨x,h3,h2⟩
              ·rw [h3,hja] at h2;exact absurd h2 hu
          ·rintro ⟨cg2,lf2⟩ ⟨hy1,hy2⟩
           dsimp only at hy1 hy2
           rw [List.take_length] at hy1 hy2
           simp+contextual(maxSteps:=1000000)(disch:=omega)only[↓Sd,↓So,↓Sk,↓den,↓Z0,Sa,Sb,Sc,Se,O1.d,O2.d,O3.d,cmI,arI,Z1,Z2,↓reduceIte,Nat.reduceLT,Nat.reduceSub,Nat.reduceAdd,Int.reduceAdd,Int.reduceEq,Int.reduceLT,Int.reduceLE,ZG,ZH,↓ZI,]
           refine ⟨(cg2,lf2),⟨rfl,rfl⟩,fun a ha=>?_,?_⟩
           ·dsimp only
            rw [hy1 a ha,hsn2,hz1 a ha]
            by_cases hqa:q a=true
            ·rw [ZS (hall2 a ha hqa),Bool.and_true]
            ·have:ZZ s (strong.take i) q a=false:=by
              cases hs:ZZ s (strong.take i) q a with
              | false=>rfl
              | true=>exact absurd (ZkJ hs) hqa
             rw [this];rfl
           ·dsimp only
            rw [hy2,hz2]
            by_cases h1:ZkZ s (strong.take i) q=true
            ·obtain ⟨a,a1,a2,a3⟩:=ZiB.1 h1
             rw [h1,Bool.true_or]
             exact (ZS ⟨a,a1,a2,by rw [hsn2];simp only [Bool.and_eq_true,not_and];exact fun g=>absurd g a3⟩).symm
            ·have h1':ZkZ s (strong.take i) q=false:=by simpa using h1
             rw [h1',Bool.false_or]
             refine ZiC ⟨?_,?_⟩
             ·rintro ⟨x,x1,x2⟩
              obtain ⟨jj,hjj,rfl⟩:=List.getElem_of_mem x1
              obtain ⟨a,b1,b2,b3⟩:=hall jj hjj
              rw [List.getD_eq_getElem?_getD,List.getElem?_eq_getElem hjj,Option.getD_some] at b2
              rw [b2] at x2
              simp only [Int.toNat_natCast] at x2
              exact ⟨a,b1,b3,by rw [hsn2,x2];simp⟩
             ·rintro ⟨a,a1,a2,a3⟩
              have h4:ZZ s (strong.take i) q a=true:=by
               cases hs:ZZ s (strong.take i) q a with
               | true=>rfl
               | false=>exact absurd (ZS ⟨a,a1,a2,by rw [hs];simp⟩) h1
              refine ⟨(a:Int),hall2 a a1 a2,?_⟩
              rw [hsn2,h4] at a3
              simpa using a3
        ·rintro ⟨cg,lf⟩ ⟨hz1,hz2⟩
         dsimp only at hz1 hz2
         rw [List.take_length] at hz1 hz2
         have hlf:tab lf (szn s.1)=tab (ZZ s strong q) (szn s.1):=ZiD hz1
         by_cases hC:ZkZ s strong q=true
         ·have hne:=Zk_.1 hC
          have hc2:Z_ s weak strong (crs s weak strong f) q=crs s weak strong f (ZZ s strong q):=by unfold Z_;rw [if_neg hD,if_neg hne]
          rw [hc2] at hnx hb2
          have hlt:=ZkU hne
          rw [hA] at hlt hql hqp
          obtain ⟨f',rfl⟩:∃f',f=f'+1:=⟨f - 1,by omega⟩
          have hih:=fun Q=>ih f' (Nat.lt_succ_self _) (ZZ s strong q) (by omega) Q
          simp+contextual(maxSteps:=1000000)(disch:=omega)only[↓Sd,↓So,↓Sk,↓den,↓Z0,Sa,Sb,Sc,Se,O1.d,O2.d,O3.d,cmI,arI,Z1,Z2,↓reduceIte,Nat.reduceLT,Nat.reduceSub,Nat.reduceAdd,Int.reduceAdd,Int.reduceEq,Int.reduceLT,Int.reduceLE,ZG,ZH,hz2,hC,hlf,hih]
          exact hnx.symm
         ·have hC':ZkZ s strong q=false:=by simpa using hC
          have hc2:Z_ s weak strong (crs s weak strong f) q=[A]:=by
           unfold Z_
           rw [if_neg hD,if_pos (Classical.not_not.1 fun g=>hC (Zk_.2 g)),hA]
          rw [hc2] at hnx hb2
          simp only [List.length_singleton] at hb2
          simp+contextual(maxSteps:=1000000)(disch:=omega)only[↓Sd,↓So,↓Sk,↓den,↓Z0,Sa,Sb,Sc,Se,O1.d,O2.d,O3.d,cmI,arI,Z1,Z2,↓reduceIte,Nat.reduceLT,Nat.reduceSub,Nat.reduceAdd,Int.reduceAdd,Int.reduceEq,Int.reduceLT,Int.reduceLE,ZG,ZH,hz2,hC']
          exact hnx.symm
   ·have hno:¬(p m=true∧isR s p m=true):=fun g=>hpm (hPm.2 (ZkL g.1 g.2))
    rw [if_neg hno,List.append_nil] at hnx
    simp+contextual(maxSteps:=1000000)(disch:=omega)only[↓Sd,↓So,↓Sk,↓den,↓Z0,Sa,Sb,Sc,Se,O1.d,O2.d,O3.d,cmI,arI,Z1,Z2,↓reduceIte,Nat.reduceLT,Nat.reduceSub,Nat.reduceAdd,Int.reduceAdd,Int.reduceEq,Int.reduceLT,Int.reduceLE,ZG,ZH,ZN,ZO hm,hpm]
    exact hnx.symm
   ·rintro us rfl
    simp+contextual(maxSteps:=1000000)(disch:=omega)only[↓Sd,↓So,↓Sk,↓den,↓Z0,Sa,Sb,Sc,Se,O1.d,O2.d,O3.d,cmI,arI,Z1,Z2,↓reduceIte,Nat.reduceLT,Nat.reduceSub,Nat.reduceAdd,Int.reduceAdd,Int.reduceEq,Int.reduceLT,Int.reduceLE,ZG,ZH,]
  ·rintro o rfl
   simp+contextual(maxSteps:=1000000)(disch:=omega)only[↓Sd,↓So,↓Sk,↓den,↓Z0,Sa,Sb,Sc,Se,O1.d,O2.d,O3.d,cmI,arI,Z1,Z2,↓reduceIte,Nat.reduceLT,Nat.reduceSub,Nat.reduceAdd,Int.reduceAdd,Int.reduceEq,Int.reduceLT,Int.reduceLE,ZG,ZH,]
theorem Zl2 (s:Sy) (l:List Int) (hs:ZL s) (hl:l.length≤1048576) (Q:List AV→Prop):mc.C Zbb [⟨L V3,s.1⟩,⟨L TR,s.2⟩,⟨L I,l⟩] Q=Q [⟨B,decide (ZU l (s.2.length:Int)∧valid s)⟩]:=by
 refine Mc.Ends.c (mc.ends ZeU ?_)
 generalize hK:decide (ZU l (s.2.length:Int)∧valid s)=K
 have hR:s.2.length≤1048576:=hs.2.1
 simp+contextual(maxSteps:=1000000)(disch:=omega)only[↓Sd,↓So,↓Sk,↓den,↓Z0,Sa,Sb,Sc,Se,O1.d,O2.d,O3.d,cmI,arI,Z1,Z2,↓reduceIte,Nat.reduceLT,Nat.reduceSub,Nat.reduceAdd,Int.reduceAdd,Int.reduceEq,Int.reduceLT,Int.reduceLE,ZG,ZH,Zd3]
 refine ZgC (fun i=>[⟨L I,l⟩,⟨I,(i:Int)⟩,⟨L V3,s.1⟩,⟨L TR,s.2⟩]) (fun i=>(0≤l.getD i 0∧l.getD i 0≤(s.2.length:Int) - 1)∧(0<i→l.getD (i - 1) 0<l.getD i 0)) l.length _ rfl ?_ ?_
 ·intro i hi
  have hno:¬((0≤l.getD i 0∧l.getD i 0≤(s.2.length:Int) - 1)∧(0<i→l.getD (i - 1) 0<l.getD i 0))→false=K:=fun h=>by rw [←hK,decide_eq_false];exact fun h1=>h (h1.1 i hi)
  simp+contextual(maxSteps:=1000000)(disch:=omega)only[↓Sd,↓So,↓Sk,↓den,↓Z0,Sa,Sb,Sc,Se,O1.d,O2.d,O3.d,cmI,arI,Z1,Z2,↓reduceIte,Nat.reduceLT,Nat.reduceSub,Nat.reduceAdd,Int.reduceAdd,Int.reduceEq,Int.reduceLT,Int.reduceLE,ZG,ZH,↓ZI,ZgG]
  grind
 ·intro h
  simp+contextual(maxSteps:=1000000)(disch:=omega)only[↓Sd,↓So,↓Sk,↓den,↓Z0,Sa,Sb,Sc,Se,O1.d,O2.d,O3.d,cmI,arI,Z1,Z2,↓reduceIte,Nat.reduceLT,Nat.reduceSub,Nat.reduceAdd,Int.reduceAdd,Int.reduceEq,Int.reduceLT,Int.reduceLE,ZG,ZH,Zhb s hs]
  rw [←hK];exact decide_eq_decide.2 ⟨fun g=>⟨h,g⟩,fun g=>g.2⟩
def Zl3 (s:Sy) (weak strong l:List Int):Prop:=ZiZ s l∧ZU weak (s.2.length:Int)∧ZU strong (s.2.length:Int)
theorem Zl3.rl {s:Sy} {weak strong l:List Int} (h:Zl3 s weak strong l):ZkF s weak∧ZkF s strong:=⟨fun x hx=>ZiG h.2.1 x hx,fun x hx=>ZiG h.2.2 x hx⟩
noncomputable def mks (l:List Int) (k:Nat):Bool:=dB ((k:Int)∈l)
theorem Zl4 {l:List Int} {n:Nat} (h:ZU l n):ZQ (mks l) n=l:=by
 have key:∀m,m≤n→ZQ (mks l) m=l.filter fun x=>decide (x<(m:Int)):=by
  intro m
  induction m with
  | zero =>
   intro _
   refine (List.filter_eq_nil_iff.2 fun x hx=>?_).symm
   have:=ZiG h x hx
   simp;omega
  | succ m ih =>
   intro hm
   have hp:l.Pairwise (fun a b=>a<b):=by
    rw [List.pairwise_iff_getElem]
    intro i j hi hj hij
    have:∀d,i+d+1<l.length→l.getD i 0<l.getD (i+d+1) 0:=by
     intro d
     induction d with
     | zero=>intro hd;exact (h (i+1) hd).2 (by omega)
     | succ d ihd =>
      intro hd
      have h1:=ihd (by omega)
      have h2:=(h (i+(d+1)+1) hd).2 (by omega)
      rw [show i+(d+1)+1 - 1=i+d+1 by omega] at h2
      omega
    have h3 := this (j - i - 1) (by omega)
    rw [show i + (j - i - 1) + 1 = j by omega] at h3
    rwa [List.getD_eq_getElem?_getD,List.getD_eq_getElem?_getD,List.getElem?_eq_getElem hi,List.getElem?_eq_getElem hj] at h3
   rw [ZQ,ih (by omega)]
   clear ih
   unfold mks
   have hcl:∀(l:List Int),l.Pairwise (fun a b=>a<b)→l.filter (fun x=>decide (x<((m+1:Nat):Int)))=l.filter (fun x=>decide (x<(m:Int)))++if (m:Int)∈l then [(m:Int)] else []:=by
    intro l
    induction l with
    | nil=>intro _;simp
    | cons x l ihl =>
     intro hq
     obtain ⟨q1,q2⟩:=List.pairwise_cons.1 hq
     have e:=ihl q2
     by_cases hx:x<(m:Int)
     ·have hx2:x<((m+1:Nat):Int):=by omega
      have hne:¬(m:Int)=x:=by omega
      rw [List.filter_cons_of_pos (by simpa using hx2),List.filter_cons_of_pos (by simpa using hx),e]
      simp [hne]
     ·by_cases he:x=(m:Int)
      ·subst he
       have h0:l.filter (fun x=>decide (x<((m+1:Nat):Int)))=[]:=List.filter_eq_nil_iff.2 fun y hy=>by have:=q1 y hy;simp;omega
       have h1:l.filter (fun x=>decide (x<(m:Int)))=[]:=List.filter_eq_nil_iff.2 fun y hy=>by have:=q1 y hy;simp;omega
       rw [List.filter_cons_of_pos (by simp;omega),List.filter_cons_of_neg (by simp),h0,h1]
       simp
      ·have h0:∀y∈x::l,(m:Int)<y:=fun y hy=>by
        rcases List.mem_cons.1 hy with rfl | hy
        ·omega
        ·have:=q1 y hy;omega
       have h1:(x::l).filter (fun x=>decide (x<((m+1:Nat):Int)))=[]:=List.filter_eq_nil_iff.2 fun y hy=>by have:=h0 y hy;simp;omega
       have h2:(x::l).filter (fun x=>decide (x<(m:Int)))=[]:=List.filter_eq_nil_iff.2 fun y hy=>by have:=h0 y hy;simp;omega
       rw [h1,h2,if_neg fun g=>by have:=h0 _ g;omega];rfl
   rw [hcl l hp]
   by_cases hm2:(m:Int)∈l
   ·rw [if_pos (ZS hm2),if_pos hm2]
   ·rw [if_neg (by rw [ZT hm2];simp),if_neg hm2,List.append_nil]
 rw [key n (Nat.le_refl _)]
 exact List.filter_eq_self.2 fun x hx=>by have:=ZiG h x hx;simpa using this.2
noncomputable def Zl5 (s:Sy) (weak strong l:List Int):List (List Int):=crs s weak strong (szn s.1+1) (mks l)
noncomputable def Zl6 (s:Sy) (weak strong l:List Int):List (List Int):=if dB (Zl3 s weak strong l)=true then Zl5 s weak strong l else []
theorem Zl7 {s:Sy} {weak strong l:List Int} (h:valid s):Zkb (Zl5 s weak strong l):=by
 have hz:=ZP h
 have h1:=ZkQ (s:=s) (weak:=weak) (strong:=strong) (f:=szn s.1+1) (p:=mks l)
 have h2:=ZkN (s:=s) (weak:=weak) (strong:=strong) (f:=szn s.1+1) (p:=mks l)
 refine ⟨by unfold Zl5;omega,fun c hc=>?_⟩
 obtain ⟨q,rfl,-,-⟩:=h2.sub c hc
 have:=@Ziz q (szn s.1)
 omega
theorem Zl8 {s:Sy} {weak strong l:List Int}:Zkb (Zl6 s weak strong l):=by
 unfold Zl6
 split
 ·rename_i h;exact Zl7 (ZiB.1 h).1.1
 ·exact ⟨by simp,fun c hc=>by simp at hc⟩
end Go.Proofs.YtknlennollmgeaaGreat
namespace Go.Proofs.YtknlennollmgeaaGreat
open Go Go.Sm Go.Sm.Q
set_option linter.unusedSimpArgs false
set_option linter.unusedVariables false
theorem Zl9 (s:Sy) (weak strong:List Int) (hs:ZL s) (hwl:weak.length≤1048576) (hsl:strong.length≤1048576) (Q:List AV→Prop) :
  mc.C Zbc [⟨L V3,s.1⟩,⟨L TR,s.2⟩,⟨L I,weak⟩,⟨L I,strong⟩] Q=Q [⟨B,decide (valid s∧ZU weak (s.2.length:Int)∧ZU strong (s.2.length:Int))⟩]:=by
 refine Mc.Ends.c (mc.ends ZeV ?_)
 generalize hK:decide (valid s∧ZU weak (s.2.length:Int)∧ZU strong (s.2.length:Int))=K
 simp+contextual(maxSteps:=1000000)(disch:=omega)only[↓Sd,↓So,↓Sk,↓den,↓Z0,Sa,Sb,Sc,Se,O1.d,O2.d,O3.d,cmI,arI,Z1,Z2,↓reduceIte,Nat.reduceLT,Nat.reduceSub,Nat.reduceAdd,Int.reduceAdd,Int.reduceEq,Int.reduceLT,Int.reduceLE,ZG,ZH,Zd4,Zl2 s weak hs hwl,Zl2 s strong hs hsl]
 rw [←hK]
 refine ⟨fun h1=>?_,fun h1=>?_⟩
 ·have h2:=h1.1
  have h3:=h1.2
  refine Eq.symm (decide_eq_decide.2 ⟨fun g=>?_,fun g=>?_⟩)
  ·first | exact g.2.2 | exact ⟨g.2.2,g.1⟩
  ·first | exact ⟨h3,h2,g⟩ | exact ⟨g.2,h2,g.1⟩
 ·exact (decide_eq_false fun g=>h1 ⟨g.2.1,g.1⟩).symm
theorem Zla (s:Sy) (weak strong l:List Int) (hs:ZL s) (hwl:weak.length≤1048576) (hsl:strong.length≤1048576) (hl:l.length≤1048576) (Q:List AV→Prop) :
  mc.C ZbH [⟨L V3,s.1⟩,⟨L TR,s.2⟩,⟨L I,weak⟩,⟨L I,strong⟩,⟨L I,l⟩] Q=Q [⟨L (L I),Zl6 s weak strong l⟩]:=by
 refine Mc.Ends.c (mc.ends Zfp ?_)
 by_cases hok:Zl3 s weak strong l
 ·have hv:=hok.1.1
  have hz:=ZP hv
  have hlu:ZQ (mks l) (szn s.1)=l:=Zl4 hok.1.n
  have hco:Zl6 s weak strong l=Zl5 s weak strong l:=by unfold Zl6;rw [if_pos (ZS hok)]
  have hC:=fun Q=>ZkV s hs hv weak strong hok.rl.1 hok.rl.2 hwl hsl (szn s.1) (mks l) Ziz Q
  rw [hlu] at hC
  have hCe:crs s weak strong (szn s.1+1) (mks l)=Zl5 s weak strong l:=rfl
  have hsm:=Zl7 (weak:=weak) (strong:=strong) (l:=l) hv
  rw [hco]
  rw [hCe] at hC
  generalize Zl5 s weak strong l=M at hC hsm
  have h1:=hsm.1
  simp+contextual(maxSteps:=1000000)(disch:=omega)only[↓Sd,↓So,↓Sk,↓den,↓Z0,Sa,Sb,Sc,Se,O1.d,O2.d,O3.d,cmI,arI,Z1,Z2,↓reduceIte,Nat.reduceLT,Nat.reduceSub,Nat.reduceAdd,Int.reduceAdd,Int.reduceEq,Int.reduceLT,Int.reduceLE,ZG,ZH,Zdz,Zl9 s weak strong hs hwl hsl,decide_eq_true (show valid s∧ZU weak (s.2.length:Int)∧ZU strong (s.2.length:Int) from ⟨hv,hok.2⟩),Bool.not_true,Zj1 s l hs hl,decide_eq_true hok.1,Ziu s hs hv,Zky s hs hv,hC]
  refine mc.lp_for (List (List Int)) (fun i o=>[⟨I,(i:Int)⟩,⟨L (L I),o⟩,⟨L (L I),M⟩]) (fun i o=>o=M.take i) M.length 0 [] _ rfl (Nat.zero_le _) rfl ?_ ?_
  ·rintro i o hi rfl
   have h2:=hsm.row i
   have h3:(M.take i).length≤4000:=by rw [List.length_take];omega
   simp+contextual(maxSteps:=1000000)(disch:=omega)only[↓Sd,↓So,↓Sk,↓den,↓Z0,Sa,Sb,Sc,Se,O1.d,O2.d,O3.d,cmI,arI,Z1,Z2,↓reduceIte,Nat.reduceLT,Nat.reduceSub,Nat.reduceAdd,Int.reduceAdd,Int.reduceEq,Int.reduceLT,Int.reduceLE,ZG,ZH,Zi7 (M.getD i []) (by omega)]
   exact ZhG hi
  ·rintro o rfl
   rw [List.take_length]
   simp+contextual(maxSteps:=1000000)(disch:=omega)only[↓Sd,↓So,↓Sk,↓den,↓Z0,Sa,Sb,Sc,Se,O1.d,O2.d,O3.d,cmI,arI,Z1,Z2,↓reduceIte,Nat.reduceLT,Nat.reduceSub,Nat.reduceAdd,Int.reduceAdd,Int.reduceEq,Int.reduceLT,Int.reduceLE,ZG,ZH,]
 ·have hco:Zl6 s weak strong l=[]:=by unfold Zl6;rw [if_neg (by rw [ZT hok];simp)]
  rw [hco]
  by_cases h1:valid s∧ZU weak (s.2.length:Int)∧ZU strong (s.2.length:Int)
  ·have h2:¬ZiZ s l:=fun g=>hok ⟨g,h1.2⟩
   simp+contextual(maxSteps:=1000000)(disch:=omega)only[↓Sd,↓So,↓Sk,↓den,↓Z0,Sa,Sb,Sc,Se,O1.d,O2.d,O3.d,cmI,arI,Z1,Z2,↓reduceIte,Nat.reduceLT,Nat.reduceSub,Nat.reduceAdd,Int.reduceAdd,Int.reduceEq,Int.reduceLT,Int.reduceLE,ZG,ZH,Zdz,Zl9 s weak strong hs hwl hsl,decide_eq_true h1,Bool.not_true,Zj1 s l hs hl,decide_eq_false h2,Bool.not_false]
  ·simp+contextual(maxSteps:=1000000)(disch:=omega)only[↓Sd,↓So,↓Sk,↓den,↓Z0,Sa,Sb,Sc,Se,O1.d,O2.d,O3.d,cmI,arI,Z1,Z2,↓reduceIte,Nat.reduceLT,Nat.reduceSub,Nat.reduceAdd,Int.reduceAdd,Int.reduceEq,Int.reduceLT,Int.reduceLE,ZG,ZH,Zdz,Zl9 s weak strong hs hwl hsl,decide_eq_false h1,Bool.not_false]
theorem Zlb (s:Sy) (weak strong l:List Int) (hs:ZL s) (hwl:weak.length≤1048576) (hsl:strong.length≤1048576) (hl:l.length≤1048576) (Q:List AV→Prop) :
  mc.C ZbT [⟨L V3,s.1⟩,⟨L TR,s.2⟩,⟨L I,weak⟩,⟨L I,strong⟩,⟨L I,l⟩] Q=Q [⟨B,dB (Zl3 s weak strong l)⟩]:=by
 have hR:s.2.length≤1048576:=hs.2.1
 have hro:∀(x:List Int) (hx:x.length≤1048576) (Q:List AV→Prop),mc.C ZbS [⟨L V3,s.1⟩,⟨L TR,s.2⟩,⟨L I,x⟩] Q=Q [⟨B,decide (ZU x (s.2.length:Int))⟩]:=by
  intro x hx Q
  refine Mc.Ends.c (mc.ends ZfA ?_)
  simp+contextual(maxSteps:=1000000)(disch:=omega)only[↓Sd,↓So,↓Sk,↓den,↓Z0,Sa,Sb,Sc,Se,O1.d,O2.d,O3.d,cmI,arI,Z1,Z2,↓reduceIte,Nat.reduceLT,Nat.reduceSub,Nat.reduceAdd,Int.reduceAdd,Int.reduceEq,Int.reduceLT,Int.reduceLE,ZG,ZH,ZdK,ZiY x (s.2.length:Int) (by omega) hx]
 refine Mc.Ends.c (mc.ends ZfB ?_)
 generalize hK:dB (Zl3 s weak strong l)=K
 simp+contextual(maxSteps:=1000000)(disch:=omega)only[↓Sd,↓So,↓Sk,↓den,↓Z0,Sa,Sb,Sc,Se,O1.d,O2.d,O3.d,cmI,arI,Z1,Z2,↓reduceIte,Nat.reduceLT,Nat.reduceSub,Nat.reduceAdd,Int.reduceAdd,Int.reduceEq,Int.reduceLT,Int.reduceLE,ZG,ZH,ZdL,Zj0 s l hs hl,hro weak hwl,hro strong hsl]
 rw [←hK]
 refine ⟨fun h1=>⟨fun h2=>?_,fun h2=>?_⟩,fun h1=>?_⟩
 ·rw [←dB_eq];exact ZiC ⟨fun g=>⟨h1,h2,g⟩,fun g=>g.2.2⟩
 ·exact (ZT fun g=>h2 g.2.1).symm
 ·exact (ZT fun g=>h1 g.1).symm
theorem Zlc (s:Sy) (weak strong l:List Int) (hs:ZL s) (hwl:weak.length≤1048576) (hsl:strong.length≤1048576) (hl:l.length≤1048576) (Q:List AV→Prop) :
  mc.C Zco [⟨L V3,s.1⟩,⟨L TR,s.2⟩,⟨L I,weak⟩,⟨L I,strong⟩,⟨L I,l⟩] Q=Q [⟨L (L I),Zl6 s weak strong l⟩]:=by
 refine Mc.Ends.c (mc.ends Zg6 ?_)
 by_cases hok:Zl3 s weak strong l
 ·have hv:=hok.1.1
  have hz:=ZP hv
  have hmk:tab (fun k=>dB ((k:Int)∈l)) (szn s.1)=tab (mks l) (szn s.1):=rfl
  have hco:Zl6 s weak strong l=Zl5 s weak strong l:=by unfold Zl6;rw [if_pos (ZS hok)]
  have hC:=fun Q=>Zl1 s hv weak strong hok.rl.1 hok.rl.2 hwl hsl (szn s.1) (mks l) Ziz Q
  have hCe:crs s weak strong (szn s.1+1) (mks l)=Zl5 s weak strong l:=rfl
  have hsm:=Zl7 (weak:=weak) (strong:=strong) (l:=l) hv
  rw [hco]
  rw [hCe] at hC
  generalize Zl5 s weak strong l=M at hC hsm
  have h1:=hsm.1
  simp+contextual(maxSteps:=1000000)(disch:=omega)only[↓Sd,↓So,↓Sk,↓den,↓Z0,Sa,Sb,Sc,Se,O1.d,O2.d,O3.d,cmI,arI,Z1,Z2,↓reduceIte,Nat.reduceLT,Nat.reduceSub,Nat.reduceAdd,Int.reduceAdd,Int.reduceEq,Int.reduceLT,Int.reduceLE,ZG,ZH,Zeg,Zlb s weak strong l hs hwl hsl hl,ZS hok,Bool.not_true,Zkw s hv,Zhc s.1 hv.1.2 hv.2.2.1,ZiX l (sz s.1) (szn s.1) hz.1.symm (by omega) hl hok.1.mem,hmk,hC,Zi2 M (by omega)]
 ·have hco:Zl6 s weak strong l=[]:=by unfold Zl6;rw [if_neg (by rw [ZT hok];simp)]
  rw [hco]
  simp+contextual(maxSteps:=1000000)(disch:=omega)only[↓Sd,↓So,↓Sk,↓den,↓Z0,Sa,Sb,Sc,Se,O1.d,O2.d,O3.d,cmI,arI,Z1,Z2,↓reduceIte,Nat.reduceLT,Nat.reduceSub,Nat.reduceAdd,Int.reduceAdd,Int.reduceEq,Int.reduceLT,Int.reduceLE,ZG,ZH,Zeg,Zlb s weak strong l hs hwl hsl hl,ZT hok,Bool.not_false]
theorem Zld {X:List (List Int)} {i:Nat} (h:i<X.length):(X.take (i+1)).flatten=(X.take i).flatten++X.getD i []:=by
 rw [←ZhG (d:=[]) h,List.flatten_append];simp
theorem Zle {X:List (List Int)} {i:Nat}:(X.take i).flatten.length≤X.flatten.length:=by
 conv=>rhs;rw [←List.take_append_drop i X,List.flatten_append,List.length_append]
 omega
theorem Zlf {s:Sy} {p:Nat→Bool} {L:List (List Int)} (h:CorOf s p L):L.flatten.length≤szn s.1:=by
 have h1:(L.flatten.map fun x=>[x]).length≤szn s.1:=by
  refine ZkP ?_ fun c hc=>?_
  ·rw [List.pairwise_map]
   have h2:L.flatten.Pairwise (fun a b=>a≠b):=by
    rw [List.pairwise_flatten]
    refine ⟨fun c hc=>?_,h.dj.imp fun {c d} hcd x hx y hy he=>hcd x hx (by rw [he];exact hy)⟩
    obtain ⟨q,rfl,-,-⟩:=h.sub c hc
    have:=roots_pw (f:=fun _=>true) (p:=q) (n:=szn s.1)
    rw [List.filter_eq_self.2 (fun _ _=>rfl)] at this
    exact this.imp fun hab=>by omega
   exact h2.imp fun hab x hx hy=>by simp only [List.mem_singleton] at hx hy;exact hab (hx.symm.trans hy)
  ·obtain ⟨x,hx,rfl⟩:=List.mem_map.1 hc
   refine ⟨by simp,fun y hy=>?_⟩
   rw [List.mem_singleton.1 hy]
   obtain ⟨c,h3,h4⟩:=List.mem_flatten.1 hx
   obtain ⟨q,rfl,-,-⟩:=h.sub c h3
   obtain ⟨a,h5,rfl,_⟩:=ZR.1 h4
   omega
 rwa [List.length_map] at h1
theorem Zlg {s:Sy} {p:Nat→Bool} {L:List (List Int)} (h:CorOf s p L) {x:Int} (hx:x∈L.flatten):∃a:Nat,x=(a:Int)∧a<szn s.1∧p a=true:=by
 obtain ⟨c,h3,h4⟩:=List.mem_flatten.1 hx
 obtain ⟨q,rfl,-,h5⟩:=h.sub c h3
 obtain ⟨a,h6,rfl,h7⟩:=ZR.1 h4
 exact ⟨a,rfl,h6,h5 a h7⟩
noncomputable def Zlh (s:Sy) (p:Nat→Bool) (F:List Int) (k:Nat):Bool:=dB (Rch (Zj7 (ZkB s p) (szn s.1)) F k)
theorem Zli {s:Sy} {p:Nat→Bool} {k:Nat}:Zlh s p [] k=false:=ZT fun h=>by
 induction h with
 | base h=>simp at h
 | step _ _ ih=>exact ih
theorem Zlj (X:List (List Int)) (h:X.flatten.length≤4000000) (hx:X.length≤4000) (Q:List AV→Prop):mc.C ZcL [⟨L (L I),X⟩] Q=Q [⟨L I,X.flatten⟩]:=by
 refine Mc.Ends.c (mc.ends Zgu ?_)
 simp+contextual(maxSteps:=1000000)(disch:=omega)only[↓Sd,↓So,↓Sk,↓den,↓Z0,Sa,Sb,Sc,Se,O1.d,O2.d,O3.d,cmI,arI,Z1,Z2,↓reduceIte,Nat.reduceLT,Nat.reduceSub,Nat.reduceAdd,Int.reduceAdd,Int.reduceEq,Int.reduceLT,Int.reduceLE,ZG,ZH,ZeE]
 refine mc.lp_for Unit (fun i _=>[⟨L (L I),X⟩,⟨I,((X.take i).flatten.length:Int)⟩,⟨L (L I),X⟩,⟨I,(X.length:Int)⟩,⟨I,(i:Int)⟩]) (fun _ _=>True) X.length 0 () _ rfl (by omega) trivial ?_ ?_
 ·rintro i - hi -
  have h1:=@Zle X (i+1)
  rw [Zld hi] at h1 ⊢
  rw [List.length_append] at h1 ⊢
  simp+contextual(maxSteps:=1000000)(disch:=omega)only[↓Sd,↓So,↓Sk,↓den,↓Z0,Sa,Sb,Sc,Se,O1.d,O2.d,O3.d,cmI,arI,Z1,Z2,↓reduceIte,Nat.reduceLT,Nat.reduceSub,Nat.reduceAdd,Int.reduceAdd,Int.reduceEq,Int.reduceLT,Int.reduceLE,ZG,ZH,]
 ·rintro - -
  rw [List.take_length]
  simp+contextual(maxSteps:=1000000)(disch:=omega)only[↓Sd,↓So,↓Sk,↓den,↓Z0,Sa,Sb,Sc,Se,O1.d,O2.d,O3.d,cmI,arI,Z1,Z2,↓reduceIte,Nat.reduceLT,Nat.reduceSub,Nat.reduceAdd,Int.reduceAdd,Int.reduceEq,Int.reduceLT,Int.reduceLE,ZG,ZH,]
  refine mc.lp_for (List Int) (fun i o=>[⟨L (L I),X⟩,⟨I,(X.length:Int)⟩,⟨I,(i:Int)⟩,⟨L I,o⟩]) (fun i o=>o=(X.take i).flatten) X.length 0 [] _ rfl (by omega) (by simp) ?_ ?_
  ·rintro i o hi rfl
   have h1:=@Zle X (i+1)
   rw [Zld hi] at h1 ⊢
   rw [List.length_append] at h1
   simp+contextual(maxSteps:=1000000)(disch:=omega)only[↓Sd,↓So,↓Sk,↓den,↓Z0,Sa,Sb,Sc,Se,O1.d,O2.d,O3.d,cmI,arI,Z1,Z2,↓reduceIte,Nat.reduceLT,Nat.reduceSub,Nat.reduceAdd,Int.reduceAdd,Int.reduceEq,Int.reduceLT,Int.reduceLE,ZG,ZH,]
  ·rintro o rfl
   rw [List.take_length]
   simp+contextual(maxSteps:=1000000)(disch:=omega)only[↓Sd,↓So,↓Sk,↓den,↓Z0,Sa,Sb,Sc,Se,O1.d,O2.d,O3.d,cmI,arI,Z1,Z2,↓reduceIte,Nat.reduceLT,Nat.reduceSub,Nat.reduceAdd,Int.reduceAdd,Int.reduceEq,Int.reduceLT,Int.reduceLE,ZG,ZH,]
theorem Zlk (s:Sy) (h:valid s) (weak strong:List Int) (hw:ZkF s weak) (hst:ZkF s strong) (hwl:weak.length≤1048576) (hsl:strong.length≤1048576) (p:Nat→Bool) (Q:List AV→Prop) :
  mc.C ZcN [⟨FBox,fbx s weak strong⟩,⟨L B,tab p (szn s.1)⟩] Q=Q [⟨L B,tab (Zlh s p (crs s weak strong (szn s.1+1) p).flatten) (szn s.1)⟩,⟨FBox,fbx s weak strong⟩]:=by
 have hz:=ZP h
 have ht:=Zj5 h
 have hTl:=ht.1.1
 have hC:=fun Q=>Zl1 s h weak strong hw hst hwl hsl (szn s.1) p Ziz Q
 have hcor:=ZkN (s:=s) (weak:=weak) (strong:=strong) (f:=szn s.1+1) (p:=p)
 have hcl:=ZkQ (s:=s) (weak:=weak) (strong:=strong) (f:=szn s.1+1) (p:=p)
 generalize crs s weak strong (szn s.1+1) p=M at hC hcor hcl
 have hfl:=Zlf hcor
 have hU:ZkB s p=ZX (steps s) p (szn s.1):=rfl
 have hu8:=Zkn (p:=p) ht
 refine Mc.Ends.c (mc.ends Zgw ?_)
 simp+contextual(maxSteps:=1000000)(disch:=omega)only[↓Sd,↓So,↓Sk,↓den,↓Z0,Sa,Sb,Sc,Se,O1.d,O2.d,O3.d,cmI,arI,Z1,Z2,↓reduceIte,Nat.reduceLT,Nat.reduceSub,Nat.reduceAdd,Int.reduceAdd,Int.reduceEq,Int.reduceLT,Int.reduceLE,ZG,ZH,ZeG,fbx,hTl]
 obtain ⟨IR,hIR⟩:∃IR:Nat→List Int,(fun k=>if p k=true then ((steps s).getD k []).filter (fun x=>p x.toNat) else [])=IR:=⟨_,rfl⟩
 refine mc.lp_for (List (List Int)) (fun i o=>[⟨L B,tab p (szn s.1)⟩,⟨L (L I),steps s⟩,⟨I,(szn s.1:Int)⟩,⟨I,(i:Int)⟩,⟨L V3,s.1⟩,⟨L TR,s.2⟩,⟨L (L I),steps s⟩,⟨L I,weak⟩,⟨L I,strong⟩,⟨L (L I),toT s⟩,⟨L (L I),o⟩])
  (fun i o=>o=tab IR i++List.replicate (szn s.1 - i) []) (szn s.1) 0 (List.replicate (szn s.1) []) _ rfl (Nat.zero_le _) (by simp [tab]) ?_ ?_
 ·rintro i o hi rfl
  have hrl:((steps s).getD i []).length≤8:=ht.2.2 _ (ZK (by omega))
  have hri:=fun x hx=>ht.1.row (i:=i) x hx
  obtain ⟨row,hr⟩:∃row,(steps s).getD i []=row:=⟨_,rfl⟩
  rw [hr] at hrl hri
  simp+contextual(maxSteps:=1000000)(disch:=omega)only[↓Sd,↓So,↓Sk,↓den,↓Z0,Sa,Sb,Sc,Se,O1.d,O2.d,O3.d,cmI,arI,Z1,Z2,↓reduceIte,Nat.reduceLT,Nat.reduceSub,Nat.reduceAdd,Int.reduceAdd,Int.reduceEq,Int.reduceLT,Int.reduceLE,ZG,ZH,hTl,hr]
  rw [Zhy hi,List.replicate_succ]
  refine mc.lp_for (List Int) (fun j o=>[⟨L B,tab p (szn s.1)⟩,⟨I,(i:Int)⟩,⟨L (L I),steps s⟩,⟨I,(szn s.1:Int)⟩,⟨I,(i:Int)⟩,⟨L I,row⟩,⟨I,(row.length:Int)⟩,⟨I,(j:Int)⟩,⟨L V3,s.1⟩,⟨L TR,s.2⟩,⟨L (L I),steps s⟩,⟨L I,weak⟩,⟨L I,strong⟩,⟨L (L I),toT s⟩,⟨L (L I),tab IR i++o::List.replicate (szn s.1 - (i+1)) []⟩])
   (fun j o=>o=if p i=true then (row.take j).filter (fun x=>p x.toNat) else []) row.length 0 [] _ rfl (Nat.zero_le _) (by simp) ?_ ?_
  ·rintro j o hj rfl
   have hm:=hri _ (ZK (d:=0) hj)
   obtain ⟨m,hm2⟩:∃m:Nat,row.getD j 0=(m:Int):=⟨_,(Int.toNat_of_nonneg hm.1).symm⟩
   rw [hm2] at hm
   have hmn:m<szn s.1:=Int.ofNat_lt.1 hm.2
   have hnx:=ZkE hj (fun x=>p x.toNat)
   rw [hm2] at hnx
   by_cases hp:p i=true
   ·simp only [hp,if_true]
    have hol:((row.take j).filter fun x=>p x.toNat).length≤8:=Nat.le_trans (List.length_filter_le ..) (by rw [List.length_take];omega)
    have hlen:(tab IR i++((row.take j).filter fun x=>p x.toNat)::List.replicate (szn s.1 - (i+1)) []).length=szn s.1:=by simp [ZN];omega
    by_cases hpm:p m=true
    ·simp+contextual(maxSteps:=1000000)(disch:=omega)only[↓Sd,↓So,↓Sk,↓den,↓Z0,Sa,Sb,Sc,Se,O1.d,O2.d,O3.d,cmI,arI,Z1,Z2,↓reduceIte,Nat.reduceLT,Nat.reduceSub,Nat.reduceAdd,Int.reduceAdd,Int.reduceEq,Int.reduceLT,Int.reduceLE,ZG,ZH,↓ZI,hm2,ZN,ZO hi,hp,ZO hmn,hpm,hlen,Zio,Zin]
     refine ⟨_,rfl,?_⟩
     rw [hnx];simp [hpm]
    ·simp+contextual(maxSteps:=1000000)(disch:=omega)only[↓Sd,↓So,↓Sk,↓den,↓Z0,Sa,Sb,Sc,Se,O1.d,O2.d,O3.d,cmI,arI,Z1,Z2,↓reduceIte,Nat.reduceLT,Nat.reduceSub,Nat.reduceAdd,Int.reduceAdd,Int.reduceEq,Int.reduceLT,Int.reduceLE,ZG,ZH,↓ZI,hm2,ZN,ZO hi,hp,ZO hmn,hpm]
     refine ⟨_,rfl,?_⟩
     rw [hnx];simp [hpm]
   ·simp only [hp,Bool.false_eq_true,if_false]
    simp+contextual(maxSteps:=1000000)(disch:=omega)only[↓Sd,↓So,↓Sk,↓den,↓Z0,Sa,Sb,Sc,Se,O1.d,O2.d,O3.d,cmI,arI,Z1,Z2,↓reduceIte,Nat.reduceLT,Nat.reduceSub,Nat.reduceAdd,Int.reduceAdd,Int.reduceEq,Int.reduceLT,Int.reduceLE,ZG,ZH,↓ZI,hm2,ZN,ZO hi,hp]
    exact ⟨[],rfl,rfl⟩
  ·rintro o rfl
   rw [List.take_length]
   simp+contextual(maxSteps:=1000000)(disch:=omega)only[↓Sd,↓So,↓Sk,↓den,↓Z0,Sa,Sb,Sc,Se,O1.d,O2.d,O3.d,cmI,arI,Z1,Z2,↓reduceIte,Nat.reduceLT,Nat.reduceSub,Nat.reduceAdd,Int.reduceAdd,Int.reduceEq,Int.reduceLT,Int.reduceLE,ZG,ZH,]
   rw [←Zil,List.append_assoc,←hIR]
   simp only [hr];rfl
 ·rintro o rfl
  rw [Nat.sub_self,List.replicate_zero,List.append_nil]
  have hIU:tab IR (szn s.1)=ZX (steps s) p (szn s.1):=by rw [←hIR];rfl
  have hF:∀x∈M.flatten,0≤x∧x<(szn s.1:Int):=fun x hx=>by obtain ⟨a,rfl,h1,_⟩:=Zlg hcor hx;omega
  simp+contextual(maxSteps:=1000000)(disch:=omega)only[↓Sd,↓So,↓Sk,↓den,↓Z0,Sa,Sb,Sc,Se,O1.d,O2.d,O3.d,cmI,arI,Z1,Z2,↓reduceIte,Nat.reduceLT,Nat.reduceSub,Nat.reduceAdd,Int.reduceAdd,Int.reduceEq,Int.reduceLT,Int.reduceLE,ZG,ZH,hIU,Zj8 _ (szn s.1) hu8,hC,Zlj M (by omega) (by omega),ZiS (Zj7 (ZX (steps s) p (szn s.1)) (szn s.1)) M.flatten (szn s.1) (by omega) (Zj9 hu8) hF (by omega)]
  rfl
noncomputable def fwR (s:Sy) (weak strong l:List Int):List Int:=if dB (Zl3 s weak strong l)=true then ZQ (Zlh s (mks l) (Zl5 s weak strong l).flatten) (szn s.1) else []
theorem Zll {s:Sy} {weak strong l:List Int}:(fwR s weak strong l).length≤400:=by
 unfold fwR
 split
 ·rename_i h;exact Zjg (ZiB.1 h).1.1
 ·simp
theorem Zlm (s:Sy) (weak strong l:List Int) (hs:ZL s) (hwl:weak.length≤1048576) (hsl:strong.length≤1048576) (hl:l.length≤1048576) (Q:List AV→Prop) :
  mc.C ZcO [⟨L V3,s.1⟩,⟨L TR,s.2⟩,⟨L I,weak⟩,⟨L I,strong⟩,⟨L I,l⟩] Q=Q [⟨L I,fwR s weak strong l⟩]:=by
 refine Mc.Ends.c (mc.ends Zgx ?_)
 by_cases hok:Zl3 s weak strong l
 ·have hv:=hok.1.1
  have hz:=ZP hv
  have hmk:tab (fun k=>dB ((k:Int)∈l)) (szn s.1)=tab (mks l) (szn s.1):=rfl
  have hco:fwR s weak strong l=ZQ (Zlh s (mks l) (Zl5 s weak strong l).flatten) (szn s.1):=by unfold fwR;rw [if_pos (ZS hok)]
  rw [hco]
  have hC:=fun Q=>Zlk s hv weak strong hok.rl.1 hok.rl.2 hwl hsl (mks l) Q
  have hCe:crs s weak strong (szn s.1+1) (mks l)=Zl5 s weak strong l:=rfl
  rw [hCe] at hC
  generalize Zlh s (mks l) (Zl5 s weak strong l).flatten=W at hC
  simp+contextual(maxSteps:=1000000)(disch:=omega)only[↓Sd,↓So,↓Sk,↓den,↓Z0,Sa,Sb,Sc,Se,O1.d,O2.d,O3.d,cmI,arI,Z1,Z2,↓reduceIte,Nat.reduceLT,Nat.reduceSub,Nat.reduceAdd,Int.reduceAdd,Int.reduceEq,Int.reduceLT,Int.reduceLE,ZG,ZH,ZeH,Zlb s weak strong l hs hwl hsl hl,ZS hok,Bool.not_true,Zkw s hv,Zhc s.1 hv.1.2 hv.2.2.1,ZiX l (sz s.1) (szn s.1) hz.1.symm (by omega) hl hok.1.mem,hmk,hC,ZiV W (szn s.1) (by omega)]
 ·have hco:fwR s weak strong l=[]:=by unfold fwR;rw [if_neg (by rw [ZT hok];simp)]
  rw [hco]
  simp+contextual(maxSteps:=1000000)(disch:=omega)only[↓Sd,↓So,↓Sk,↓den,↓Z0,Sa,Sb,Sc,Se,O1.d,O2.d,O3.d,cmI,arI,Z1,Z2,↓reduceIte,Nat.reduceLT,Nat.reduceSub,Nat.reduceAdd,Int.reduceAdd,Int.reduceEq,Int.reduceLT,Int.reduceLE,ZG,ZH,ZeH,Zlb s weak strong l hs hwl hsl hl,ZT hok,Bool.not_false]
theorem Zln (b:List Int) (p:Int) (s:Sy) (hb:Rdy b) (hp:0≤p∧p≤700000000) (hs:Zj_ s) {Q:List AV→Prop} (h:∀(l:List Int) (p':Int),p≤p'∧p'≤p+500→l.length≤10→Q [⟨L I,l⟩,⟨RD,(b,p')⟩]):mc.C ZcF [⟨RD,(b,p)⟩,⟨L V3,s.1⟩,⟨L TR,s.2⟩] Q:=by
 refine mc.c_of Zgo ?_
 have hR:=hs.2.1
 simp+contextual(maxSteps:=1000000)(disch:=omega)only[↓Sd,↓So,↓Sk,↓den,↓Z0,Sa,Sb,Sc,Se,O1.d,O2.d,O3.d,cmI,arI,Z1,Z2,↓reduceIte,Nat.reduceLT,Nat.reduceSub,Nat.reduceAdd,Int.reduceAdd,Int.reduceEq,Int.reduceLT,Int.reduceLE,ZG,ZH,Zey]
 refine mc.lp_for (Int×List Int) (fun i z=>[⟨I,(i:Int)⟩,⟨L U,b⟩,⟨I,z.1⟩,⟨L V3,s.1⟩,⟨L TR,s.2⟩,⟨L I,z.2⟩]) (fun i z=>p≤z.1∧z.1≤p+i∧z.2.length≤i) s.2.length 0 (p,[]) _ rfl (Nat.zero_le _) ⟨by dsimp only;omega,by dsimp only;omega,by simp⟩ ?_ ?_
 ·rintro i ⟨p1,l⟩ hi ⟨a1,a2,a3⟩
  simp only at a1 a2 a3
  simp+contextual(maxSteps:=1000000)(disch:=omega)only[↓Sd,↓So,↓Sk,↓den,↓Z0,Sa,Sb,Sc,Se,O1.d,O2.d,O3.d,cmI,arI,Z1,Z2,↓reduceIte,Nat.reduceLT,Nat.reduceSub,Nat.reduceAdd,Int.reduceAdd,Int.reduceEq,Int.reduceLT,Int.reduceLE,ZG,ZH,↓ZI,]
  refine ZW _ _ _ hb (by omega) (by omega) fun a a0 a1=>?_;simp+contextual(maxSteps:=1000000)(disch:=omega)only[↓Sd,↓So,↓Sk,↓den,↓Z0,Sa,Sb,Sc,Se,O1.d,O2.d,O3.d,cmI,arI,Z1,Z2,↓reduceIte,Nat.reduceLT,Nat.reduceSub,Nat.reduceAdd,Int.reduceAdd,Int.reduceEq,Int.reduceLT,Int.reduceLE,ZG,ZH,]
  exact ⟨fun _=>⟨(_,_),⟨rfl,rfl⟩,by dsimp only;omega,by dsimp only;omega,by simp only [List.length_append,List.length_singleton];omega⟩,fun _=>⟨(_,_),⟨rfl,rfl⟩,by dsimp only;omega,by dsimp only;omega,by dsimp only;omega⟩⟩
 ·rintro ⟨p1,l⟩ ⟨a1,a2,a3⟩
  simp only at a1 a2 a3
  simp+contextual(maxSteps:=1000000)(disch:=omega)only[↓Sd,↓So,↓Sk,↓den,↓Z0,Sa,Sb,Sc,Se,O1.d,O2.d,O3.d,cmI,arI,Z1,Z2,↓reduceIte,Nat.reduceLT,Nat.reduceSub,Nat.reduceAdd,Int.reduceAdd,Int.reduceEq,Int.reduceLT,Int.reduceLE,ZG,ZH,↓ZI,]
  refine ZW _ _ _ hb (by omega) (by omega) fun a a0 a1=>?_;simp+contextual(maxSteps:=1000000)(disch:=omega)only[↓Sd,↓So,↓Sk,↓den,↓Z0,Sa,Sb,Sc,Se,O1.d,O2.d,O3.d,cmI,arI,Z1,Z2,↓reduceIte,Nat.reduceLT,Nat.reduceSub,Nat.reduceAdd,Int.reduceAdd,Int.reduceEq,Int.reduceLT,Int.reduceLE,ZG,ZH,]
  refine ⟨fun _=>?_,fun _=>h _ _ (by omega) (by omega)⟩
  refine ZjL _ _ _ hb (by omega) (by simp) (by simp) fun x x0=>?_;simp+contextual(maxSteps:=1000000)(disch:=omega)only[↓Sd,↓So,↓Sk,↓den,↓Z0,Sa,Sb,Sc,Se,O1.d,O2.d,O3.d,cmI,arI,Z1,Z2,↓reduceIte,Nat.reduceLT,Nat.reduceSub,Nat.reduceAdd,Int.reduceAdd,Int.reduceEq,Int.reduceLT,Int.reduceLE,ZG,ZH,]
  exact h _ _ (by omega) (by simp only [List.length_append,List.length_singleton];omega)
theorem Zlo (b:List Int) (hb:Byt b) (hl:ZgD b) {Q:List AV→Prop} (h:∀(b':List Int) (p:Int) (s:Sy) (weak strong:List Int),Rdy b'→0≤p∧p≤100000→Zj_ s→weak.length≤10→strong.length≤10→Q [⟨RD,(b',p)⟩,⟨L V3,s.1⟩,⟨L TR,s.2⟩,⟨L I,weak⟩,⟨L I,strong⟩]):mc.C ZcG [⟨L U,b⟩] Q:=by
 refine mc.c_of Zgp ?_
 simp+contextual(maxSteps:=1000000)(disch:=omega)only[↓Sd,↓So,↓Sk,↓den,↓Z0,Sa,Sb,Sc,Se,O1.d,O2.d,O3.d,cmI,arI,Z1,Z2,↓reduceIte,Nat.reduceLT,Nat.reduceSub,Nat.reduceAdd,Int.reduceAdd,Int.reduceEq,Int.reduceLT,Int.reduceLE,ZG,ZH,Zez]
 refine ZjM b hb hl fun b hb=>?_
 simp+contextual(maxSteps:=1000000)(disch:=omega)only[↓Sd,↓So,↓Sk,↓den,↓Z0,Sa,Sb,Sc,Se,O1.d,O2.d,O3.d,cmI,arI,Z1,Z2,↓reduceIte,Nat.reduceLT,Nat.reduceSub,Nat.reduceAdd,Int.reduceAdd,Int.reduceEq,Int.reduceLT,Int.reduceLE,ZG,ZH,]
 refine Zk2 _ _ _ hb (by omega) fun s p1 hp1 hs=>?_
 simp+contextual(maxSteps:=1000000)(disch:=omega)only[↓Sd,↓So,↓Sk,↓den,↓Z0,Sa,Sb,Sc,Se,O1.d,O2.d,O3.d,cmI,arI,Z1,Z2,↓reduceIte,Nat.reduceLT,Nat.reduceSub,Nat.reduceAdd,Int.reduceAdd,Int.reduceEq,Int.reduceLT,Int.reduceLE,ZG,ZH,]
 refine Zln _ _ s hb (by omega) hs fun w p2 hp2 hw=>?_
 refine mc.wp_join (fun us=>∃w':List Int,us=[⟨L U,b⟩,⟨I,p2+1⟩,⟨L V3,s.1⟩,⟨L TR,s.2⟩,⟨L I,w'⟩]∧w'.length≤10) ?_ ?_
 ·simp+contextual(maxSteps:=1000000)(disch:=omega)only[↓Sd,↓So,↓Sk,↓den,↓Z0,Sa,Sb,Sc,Se,O1.d,O2.d,O3.d,cmI,arI,Z1,Z2,↓reduceIte,Nat.reduceLT,Nat.reduceSub,Nat.reduceAdd,Int.reduceAdd,Int.reduceEq,Int.reduceLT,Int.reduceLE,ZG,ZH,]
  refine ZW _ _ _ hb (by omega) (by omega) fun a a0 a1=>?_;simp+contextual(maxSteps:=1000000)(disch:=omega)only[↓Sd,↓So,↓Sk,↓den,↓Z0,Sa,Sb,Sc,Se,O1.d,O2.d,O3.d,cmI,arI,Z1,Z2,↓reduceIte,Nat.reduceLT,Nat.reduceSub,Nat.reduceAdd,Int.reduceAdd,Int.reduceEq,Int.reduceLT,Int.reduceLE,ZG,ZH,]
  exact ⟨fun _=>Nat.zero_le _,fun _=>hw⟩
 ·rintro us ⟨w',rfl,hw'⟩
  simp+contextual(maxSteps:=1000000)(disch:=omega)only[↓Sd,↓So,↓Sk,↓den,↓Z0,Sa,Sb,Sc,Se,O1.d,O2.d,O3.d,cmI,arI,Z1,Z2,↓reduceIte,Nat.reduceLT,Nat.reduceSub,Nat.reduceAdd,Int.reduceAdd,Int.reduceEq,Int.reduceLT,Int.reduceLE,ZG,ZH,]
  refine Zln _ _ s hb (by omega) hs fun v p3 hp3 hv=>?_
  simp+contextual(maxSteps:=1000000)(disch:=omega)only[↓Sd,↓So,↓Sk,↓den,↓Z0,Sa,Sb,Sc,Se,O1.d,O2.d,O3.d,cmI,arI,Z1,Z2,↓reduceIte,Nat.reduceLT,Nat.reduceSub,Nat.reduceAdd,Int.reduceAdd,Int.reduceEq,Int.reduceLT,Int.reduceLE,ZG,ZH,↓ZI,]
  exact h b p3 s w' v hb (by omega) hs hw' hv
theorem Zlp (b:List Int) (hb:Byt b) (hl:ZgD b) {Q:List AV→Prop} (h:∀(s:Sy) (weak strong l:List Int),Zj_ s→weak.length≤10→strong.length≤10→l.length≤401→Q [⟨L V3,s.1⟩,⟨L TR,s.2⟩,⟨L I,weak⟩,⟨L I,strong⟩,⟨L I,l⟩]):mc.C ZcJ [⟨L U,b⟩] Q:=by
 refine mc.c_of Zgs ?_
 simp+contextual(maxSteps:=1000000)(disch:=omega)only[↓Sd,↓So,↓Sk,↓den,↓Z0,Sa,Sb,Sc,Se,O1.d,O2.d,O3.d,cmI,arI,Z1,Z2,↓reduceIte,Nat.reduceLT,Nat.reduceSub,Nat.reduceAdd,Int.reduceAdd,Int.reduceEq,Int.reduceLT,Int.reduceLE,ZG,ZH,ZeC]
 refine Zlo b hb hl fun b p s w v hb hp hs hw hv=>?_
 simp+contextual(maxSteps:=1000000)(disch:=omega)only[↓Sd,↓So,↓Sk,↓den,↓Z0,Sa,Sb,Sc,Se,O1.d,O2.d,O3.d,cmI,arI,Z1,Z2,↓reduceIte,Nat.reduceLT,Nat.reduceSub,Nat.reduceAdd,Int.reduceAdd,Int.reduceEq,Int.reduceLT,Int.reduceLE,ZG,ZH,]
 refine ZW _ _ _ hb (by omega) (by omega) fun a a0 a1=>?_;simp+contextual(maxSteps:=1000000)(disch:=omega)only[↓Sd,↓So,↓Sk,↓den,↓Z0,Sa,Sb,Sc,Se,O1.d,O2.d,O3.d,cmI,arI,Z1,Z2,↓reduceIte,Nat.reduceLT,Nat.reduceSub,Nat.reduceAdd,Int.reduceAdd,Int.reduceEq,Int.reduceLT,Int.reduceLE,ZG,ZH,]
 obtain ⟨N,hN,hN2⟩:∃N:Nat,(if valid s then sz s.1 else 0)=N∧N≤400:=by
  by_cases g:valid s
  ·have:=ZP g;exact ⟨szn s.1,by rw [if_pos g];omega,by omega⟩
  ·exact ⟨0,by rw [if_neg g];rfl,by omega⟩
 refine ⟨fun _=>?_,fun _=>?_⟩
 ·simp+contextual(maxSteps:=1000000)(disch:=omega)only[↓Sd,↓So,↓Sk,↓den,↓Z0,Sa,Sb,Sc,Se,O1.d,O2.d,O3.d,cmI,arI,Z1,Z2,↓reduceIte,Nat.reduceLT,Nat.reduceSub,Nat.reduceAdd,Int.reduceAdd,Int.reduceEq,Int.reduceLT,Int.reduceLE,ZG,ZH,Zhe s hs.few,hN,Zke N (by omega)]
  exact h s w v _ hs hw hv (Nat.le_trans Ziz (by omega))
 ·refine Zk4 _ _ s hb (by omega) hs.few fun l p2 hp2 hll=>?_
  simp+contextual(maxSteps:=1000000)(disch:=omega)only[↓Sd,↓So,↓Sk,↓den,↓Z0,Sa,Sb,Sc,Se,O1.d,O2.d,O3.d,cmI,arI,Z1,Z2,↓reduceIte,Nat.reduceLT,Nat.reduceSub,Nat.reduceAdd,Int.reduceAdd,Int.reduceEq,Int.reduceLT,Int.reduceLE,ZG,ZH,↓ZI,]
  exact h s w v l hs hw hv hll
theorem Zlq {f:Bool→Bool→Bool} {a b:List Int} (h:∀k:Nat,k<400→f (dB ((k:Int)∈a)) (dB ((k:Int)∈b))=false):mix f a b=[]:=by
 unfold mix
 split
 ·exact List.eq_nil_of_length_eq_zero (ZiT.2 h)
 ·rfl
theorem Zlr (b:List Int) (hb:Byt b) (hl:ZgD b):mc.C ZcS [⟨L U,b⟩] (·=[⟨B,true⟩]):=by
 refine mc.c_of ZgB ?_
 simp+contextual(maxSteps:=1000000)(disch:=omega)only[↓Sd,↓So,↓Sk,↓den,↓Z0,Sa,Sb,Sc,Se,O1.d,O2.d,O3.d,cmI,arI,Z1,Z2,↓reduceIte,Nat.reduceLT,Nat.reduceSub,Nat.reduceAdd,Int.reduceAdd,Int.reduceEq,Int.reduceLT,Int.reduceLE,ZG,ZH,ZeL]
 intro _
 refine Zlp b hb hl fun s weak strong l hsm hw hv hll=>?_
 have hs:=hsm.few
 have hf1:weak.length≤1048576:=by omega
 have hf2:strong.length≤1048576:=by omega
 have hf3:l.length≤1048576:=by omega
 simp+contextual(maxSteps:=1000000)(disch:=omega)only[↓Sd,↓So,↓Sk,↓den,↓Z0,Sa,Sb,Sc,Se,O1.d,O2.d,O3.d,cmI,arI,Z1,Z2,↓reduceIte,Nat.reduceLT,Nat.reduceSub,Nat.reduceAdd,Int.reduceAdd,Int.reduceEq,Int.reduceLT,Int.reduceLE,ZG,ZH,Zlc s weak strong l hs hf1 hf2 hf3,Zla s weak strong l hs hf1 hf2 hf3,Zj0 s l hs hf3,Zj1 s l hs hf3,Zlm s weak strong l hs hf1 hf2 hf3]
 have hM:=Zl8 (s:=s) (weak:=weak) (strong:=strong) (l:=l)
 have hfacts:(∀c∈Zl6 s weak strong l,(∀x∈c,x∈l)∧(∀x∈c,x∈fwR s weak strong l))∧(Zl6 s weak strong l).Pairwise (fun c d=>∀x∈c,x∉d)∧(Zl6 s weak strong l=[]↔fwR s weak strong l=[]):=by
  by_cases hok:Zl3 s weak strong l
  ·have e1:Zl6 s weak strong l=Zl5 s weak strong l:=by unfold Zl6;rw [if_pos (ZS hok)]
   have e2:fwR s weak strong l=ZQ (Zlh s (mks l) (Zl5 s weak strong l).flatten) (szn s.1):=by unfold fwR;rw [if_pos (ZS hok)]
   have hcor:CorOf s (mks l) (Zl5 s weak strong l):=ZkN
   have hin:∀c∈Zl5 s weak strong l,∀x∈c,x∈ZQ (Zlh s (mks l) (Zl5 s weak strong l).flatten) (szn s.1):=fun c hc x hx=>by
    have h1:=List.mem_flatten.2 ⟨c,hc,hx⟩
    obtain ⟨a,rfl,h2,-⟩:=Zlg hcor h1
    exact ZR.2 ⟨a,h2,rfl,ZS (.base h1)⟩
   rw [e1,e2]
   refine ⟨fun c hc=>⟨fun x hx=>?_,hin c hc⟩,hcor.dj,fun g=>?_,fun g=>?_⟩
   ·obtain ⟨a,rfl,-,h3⟩:=Zlg hcor (List.mem_flatten.2 ⟨c,hc,hx⟩)
    exact ZiB.1 h3
   ·rw [g,List.flatten_nil]
    exact List.eq_nil_of_length_eq_zero (ZiT.2 fun k _=>Zli)
   ·cases hC:Zl5 s weak strong l with
    | nil=>rfl
    | cons c L =>
     exfalso
     rw [hC] at hin hcor
     obtain ⟨q,h1,h2,-⟩:=hcor.sub c (List.mem_cons_self ..)
     rw [hC] at g
     cases c with
     | nil=>exact h2 rfl
     | cons x c =>
      have:=hin (x::c) (List.mem_cons_self ..) x (List.mem_cons_self ..)
      rw [g] at this;simp at this
  ·have e1:Zl6 s weak strong l=[]:=by unfold Zl6;rw [if_neg (by rw [ZT hok];simp)]
   have e2:fwR s weak strong l=[]:=by unfold fwR;rw [if_neg (by rw [ZT hok];simp)]
   rw [e1,e2]
   exact ⟨fun c hc=>by simp at hc,List.Pairwise.nil,fun _=>rfl,fun _=>rfl⟩
 have hW:=Zll (s:=s) (weak:=weak) (strong:=strong) (l:=l)
 generalize Zl6 s weak strong l=M at hM hfacts
 generalize fwR s weak strong l=W at hfacts hW
 obtain ⟨h1,h2,h3⟩:=hfacts
 have hMl:=hM.1
 refine mc.lp_for Unit (fun i _=>[⟨L (L I),M⟩,⟨L (L I),M⟩,⟨I,(M.length:Int)⟩,⟨I,(i:Int)⟩,⟨L I,l⟩,⟨L (L I),M⟩,⟨L I,W⟩]) (fun _ _=>True) M.length 0 () _ rfl (Nat.zero_le _) trivial ?_ ?_
 ·rintro i _ hi -
  have hr:=hM.row i
  have hmem:M.getD i []∈M:=ZK hi
  obtain ⟨g1,g2⟩:=h1 _ hmem
  have m1:mix (fun x y=>x&&!y) (M.getD i []) l=[]:=Zlq fun k _=>by
   by_cases h:(k:Int)∈M.getD i []
   ·rw [ZS h,ZS (g1 _ h)];rfl
   ·rw [ZT h];rfl
  have m2:mix (fun x y=>x&&!y) (M.getD i []) W=[]:=Zlq fun k _=>by
   by_cases h:(k:Int)∈M.getD i []
   ·rw [ZS h,ZS (g2 _ h)];rfl
   ·rw [ZT h];rfl
  have hti:(M.take i).length=i:=by rw [List.length_take];omega
  simp+contextual(maxSteps:=1000000)(disch:=omega)only[↓Sd,↓So,↓Sk,↓den,↓Z0,Sa,Sb,Sc,Se,O1.d,O2.d,O3.d,cmI,arI,Z1,Z2,↓reduceIte,Nat.reduceLT,Nat.reduceSub,Nat.reduceAdd,Int.reduceAdd,Int.reduceEq,Int.reduceLT,Int.reduceLE,ZG,ZH,Zk3 _ _ (show (M.getD i []).length≤1048576 by omega) (show (M.getD i []).length≤1048576 by omega),decide_eq_true (show M.getD i []=M.getD i [] from rfl),Bool.not_true,
   Zk5 _ l (show (M.getD i []).length≤1048576 by omega) hf3,m1,List.length_nil,Zk5 _ W (show (M.getD i []).length≤1048576 by omega) (by omega),m2,hti]
  refine mc.lp_for Unit (fun j _=>[⟨L (L I),M⟩,⟨L I,M.getD i []⟩,⟨L (L I),M⟩,⟨I,(M.length:Int)⟩,⟨I,(i:Int)⟩,⟨L (L I),M.take i⟩,⟨I,(i:Int)⟩,⟨I,(j:Int)⟩,⟨L I,l⟩,⟨L (L I),M⟩,⟨L I,W⟩]) (fun _ _=>True) i 0 () _ rfl (Nat.zero_le _) trivial ?_ ?_
  ·rintro j _ hj -
   have hr2:=hM.row j
   have hgj:(M.take i).getD j []=M.getD j []:=by
    rw [List.getD_eq_getElem?_getD,List.getElem?_take_of_lt hj,List.getD_eq_getElem?_getD]
   have m3:mix (fun x y=>x&&y) (M.getD i []) (M.getD j [])=[]:=Zlq fun k _=>by
    by_cases h:(k:Int)∈M.getD i []
    ·have h5:=List.pairwise_iff_getElem.1 h2 j i (by omega) hi hj
     have h6:(k:Int)∉M.getD j []:=fun h7=>by
      rw [List.getD_eq_getElem?_getD,List.getElem?_eq_getElem (show j<M.length by omega)] at h7
      rw [List.getD_eq_getElem?_getD,List.getElem?_eq_getElem hi] at h
      exact h5 _ h7 h
     rw [ZS h,ZT h6];rfl
    ·rw [ZT h];rfl
   simp+contextual(maxSteps:=1000000)(disch:=omega)only[↓Sd,↓So,↓Sk,↓den,↓Z0,Sa,Sb,Sc,Se,O1.d,O2.d,O3.d,cmI,arI,Z1,Z2,↓reduceIte,Nat.reduceLT,Nat.reduceSub,Nat.reduceAdd,Int.reduceAdd,Int.reduceEq,Int.reduceLT,Int.reduceLE,ZG,ZH,hti,hgj,Zk6 _ _ (show (M.getD i []).length≤1048576 by omega) (show (M.getD j []).length≤1048576 by omega),m3,List.length_nil]
  ·rintro _ -
   simp+contextual(maxSteps:=1000000)(disch:=omega)only[↓Sd,↓So,↓Sk,↓den,↓Z0,Sa,Sb,Sc,Se,O1.d,O2.d,O3.d,cmI,arI,Z1,Z2,↓reduceIte,Nat.reduceLT,Nat.reduceSub,Nat.reduceAdd,Int.reduceAdd,Int.reduceEq,Int.reduceLT,Int.reduceLE,ZG,ZH,]
 ·rintro _ -
  simp+contextual(maxSteps:=1000000)(disch:=omega)only[↓Sd,↓So,↓Sk,↓den,↓Z0,Sa,Sb,Sc,Se,O1.d,O2.d,O3.d,cmI,arI,Z1,Z2,↓reduceIte,Nat.reduceLT,Nat.reduceSub,Nat.reduceAdd,Int.reduceAdd,Int.reduceEq,Int.reduceLT,Int.reduceLE,ZG,ZH,]
  by_cases hM0:M=[]
  ·rw [h3.1 hM0,hM0];rfl
  ·have hW0:W≠[]:=fun g=>hM0 (h3.2 g)
   have p1:=List.length_pos_iff.2 hM0
   have p2:=List.length_pos_iff.2 hW0
   rw [show ((M.length:Int)==0)=false by rw [beq_eq_false_iff_ne];omega,show ((W.length:Int)==0)=false by rw [beq_eq_false_iff_ne];omega]
end Go.Proofs.YtknlennollmgeaaGreat
