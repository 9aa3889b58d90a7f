/- What the trees come to: plain mathematics; no condition. -/
import Derived.Test.YtifkpliahhodoaaGreatSmMath2
namespace Go.Proofs.YtifkpliahhodoaaGreat
open Go Go.Sm Go.Sm.Q
set_option linter.unusedSimpArgs false
set_option linter.unusedVariables false
set_option maxHeartbeats 4000000 in
theorem law_FnTreeSets (b:List Int) (hb:Byt b) (hl:Lt63 b):mc.C f_laws_FnTreeSets [⟨L U,b⟩] (·=[⟨B,true⟩]):=by
 refine mc.c_of F_laws_FnTreeSets ?_
 have h63:=hl
 unfold Lt63 at h63
 simp+contextual(maxSteps:=1000000)(disch:=omega)only[↓Sd,↓So,↓Sk,↓den,↓denA,Sa,Sb,Sc,Se,O1.d,O2.d,O3.d,cmI,arI,envOf,putN,↓reduceIte,Nat.reduceLT,Nat.reduceSub,Nat.reduceAdd,Int.reduceAdd,Int.reduceEq,Int.reduceLT,Int.reduceLE,arr_pos,arr_neg,tr_laws_FnTreeSets]
 intro _
 refine D_DrawTreeSets b hb hl fun s F l hs hF hF2 hl8=>?_
 have hs:=hs.few
 have hFS:FewSS F:=⟨by unfold Few;omega,fun x hx=>by have:=hF2 x hx;unfold Few;omega⟩
 have hf:Few l:=by unfold Few;omega
 have him:=C_impl_TreeSets_t s F l hs hFS hf
 have hsp:=C_spec_TreeSets_t s F l hs hFS hf
 obtain ⟨X,hX⟩:∃X,trT0 s F l=X:=⟨_,rfl⟩
 rw [hX] at him hsp
 simp+contextual(maxSteps:=1000000)(disch:=omega)only[↓Sd,↓So,↓Sk,↓den,↓denA,Sa,Sb,Sc,Se,O1.d,O2.d,O3.d,cmI,arI,envOf,putN,↓reduceIte,Nat.reduceLT,Nat.reduceSub,Nat.reduceAdd,Int.reduceAdd,Int.reduceEq,Int.reduceLT,Int.reduceLE,arr_pos,arr_neg,him,hsp,C_impl_SizeOf_a s hs,C_spec_SizeOf s hs]
 by_cases h:uAsk s F l
 ·have hv:=h.1.1
  have hz:=szn_eq hv
  have hml:=h.2.2.1
  obtain ⟨Z,hN⟩:∃Z,szn s.1=Z:=⟨_,rfl⟩
  have hXl:X.length=l.length:=by rw [←hX];exact (trT0_last h).1
  have hXg:∀a,a<l.length→X.getD a []=upTo (trP (onw s) Z (ltrs s F) l l.length a) Z:=fun a ha=>by
   rw [←hX,trT0,if_pos h,trT,tab_get ha,hN]
  refine mc.lp_for Unit (fun i _=>[⟨L T4,l⟩,⟨N (L I),X⟩,⟨N (L I),X⟩,⟨I,(X.length:Int)⟩,⟨I,(i:Int)⟩,⟨L V3,s.1⟩,⟨L TR,s.2⟩,⟨L (L I),X⟩]) (fun _ _=>True) X.length 0 () _ rfl (Nat.zero_le _) trivial ?_ ?_
  ·rintro i - hi -
   have him:i<l.length:=by omega
   have hS:=hXg i him
   obtain ⟨S,hSe⟩:∃S,trP (onw s) Z (ltrs s F) l l.length i=S:=⟨_,rfl⟩
   rw [hSe] at hS
   have hSl:=@upTo_len S Z
   obtain ⟨Y,hY⟩:∃Y,upTo S Z=Y:=⟨_,rfl⟩
   rw [hY] at hS hSl
   simp+contextual(maxSteps:=1000000)(disch:=omega)only[↓Sd,↓So,↓Sk,↓den,↓denA,Sa,Sb,Sc,Se,O1.d,O2.d,O3.d,cmI,arI,envOf,putN,↓reduceIte,Nat.reduceLT,Nat.reduceSub,Nat.reduceAdd,Int.reduceAdd,Int.reduceEq,Int.reduceLT,Int.reduceLE,arr_pos,arr_neg,hS,C_laws_wcInts Y Y (by omega) (by omega),C_impl_SizeOf s hs hv]
   rw [←hz.1,hN]
   obtain ⟨t,ht⟩:∃t,l.getD i (0,0,0,0)=t:=⟨_,rfl⟩
   have hu:=h.2.2.2 i him
   rw [show l.getD i zT=t from ht] at hu
   obtain ⟨o,x,A,B0⟩:=t
   have hAB:(0≤A∧A<l.length)∧(0≤B0∧B0<l.length)∧(2≤o→A<i∧B0<i):=by
    unfold uO at hu;simp only at hu;omega
   obtain ⟨a,rfl⟩:∃a:Nat,A=a:=⟨A.toNat,by omega⟩
   obtain ⟨c,rfl⟩:∃c:Nat,B0=c:=⟨B0.toNat,by omega⟩
   obtain ⟨p,hp⟩:∃p,trP (onw s) Z (ltrs s F) l l.length a=p:=⟨_,rfl⟩
   obtain ⟨q,hq⟩:∃q,trP (onw s) Z (ltrs s F) l l.length c=q:=⟨_,rfl⟩
   have hga:=hXg a (by omega)
   have hgc:=hXg c (by omega)
   rw [hp] at hga
   rw [hq] at hgc
   have hlaw:=fun {k} (hk:k<Z)=>trP_law him (show l.getD i zT=(o,x,(a:Int),(c:Int)) from ht) (fun ho=>by have:=hAB.2.2 ho;omega) (fun ho=>by have:=hAB.2.2 ho;omega) hSe hp hq hk
   refine mc.lp_for Unit (fun n _=>[⟨L T4,l⟩,⟨N (L I),X⟩,⟨L I,Y⟩,⟨N (L I),X⟩,⟨I,(X.length:Int)⟩,⟨I,(i:Int)⟩,⟨I,(Z:Int)⟩,⟨I,(n:Int)⟩,⟨L V3,s.1⟩,⟨L TR,s.2⟩,⟨L (L I),X⟩,⟨I,o⟩,⟨I,x⟩,⟨I,(a:Int)⟩,⟨I,(c:Int)⟩]) (fun _ _=>True) Z 0 () _ (by rw [ht];rfl) (Nat.zero_le _) trivial ?_ ?_
   ·rintro n - hn -
    have hns:n<szn s.1:=by omega
    have hnl:=nxL_lset hv hns
    have hnm:=fun k=>@nxL_mem s n hv hns k
    have hT:∀x∈(onw s).getD n [],0≤x∧x<(Z:Int):=fun x hx=>by rw [←hN];exact (onw_tbl hv).row x hx
    have hbo:=both_pos (T:=onw s) (R:=S) (N:=Z) (n:=n) hnl hnm (by omega)
    have hwi:=with_nil (T:=onw s) (R:=S) (N:=Z) (n:=n) hnl hnm (by omega) hT
    rw [hY] at hbo hwi
    have hl1:=hlaw hn
    have hsv:setV s [(n:Int)]:=⟨hv,fun i hi=>by
     simp only [List.length_cons,List.length_nil] at hi
     have:i=0:=by omega
     subst this
     refine ⟨⟨?_,?_⟩,fun h=>absurd h (by omega)⟩<;>simp<;>omega⟩
    have hnn:∀Q:List AV→Prop,mc.C f_impl_NextNumbers [⟨L V3,s.1⟩,⟨L TR,s.2⟩,⟨L I,[(n:Int)]⟩] Q=Q [⟨L I,nextN s [(n:Int)]⟩]:=fun Q=>by rw [C_impl_NextNumbers s [(n:Int)] hs (by simp),if_pos hsv]
    have hnxl:(nxL s n).length≤1048576:=by have:=lset_len hnl (by omega);omega
    have hYl:Y.length≤1048576:=by have:=@upTo_len S Z;rw [hY] at this;omega
    have hpl:(upTo p Z).length≤1048576:=by have:=@upTo_len p Z;omega
    have hql:(upTo q Z).length≤1048576:=by have:=@upTo_len q Z;omega
    have hw1:∀Q:List AV→Prop,mc.C f_laws_wcHas [⟨L I,Y⟩,⟨I,(n:Int)⟩] Q=Q [⟨B,S n⟩]:=fun Q=>by rw [C_laws_wcHas Y n hYl,←hY,dB_upTo,decide_eq_true hn,Bool.true_and]
    have hw2:∀Q:List AV→Prop,mc.C f_laws_wcHas [⟨L I,upTo p Z⟩,⟨I,(n:Int)⟩] Q=Q [⟨B,p n⟩]:=fun Q=>by rw [C_laws_wcHas _ n hpl,dB_upTo,decide_eq_true hn,Bool.true_and]
    have hw3:∀Q:List AV→Prop,mc.C f_laws_wcHas [⟨L I,upTo q Z⟩,⟨I,(n:Int)⟩] Q=Q [⟨B,q n⟩]:=fun Q=>by rw [C_laws_wcHas _ n hql,dB_upTo,decide_eq_true hn,Bool.true_and]
    have hsb:=fun Q=>C_impl_SetBoth (nxL s n) Y hnxl hYl Q
    have hsw:=fun Q=>C_impl_SetWithout (nxL s n) Y hnxl hYl Q
    generalize mix (fun x y=>x&&y) (nxL s n) Y=bo at hbo hsb
    generalize mix (fun x y=>x&&!y) (nxL s n) Y=wi at hwi hsw
    have hnx:nxL s n=if nextN s [(n:Int)]=[] then [(n:Int)] else nextN s [(n:Int)]:=rfl
    generalize nxL s n=nx at *
    generalize nextN s [(n:Int)]=ne at *
    generalize S n=sn at *
    generalize p n=pn at *
    generalize q n=qn at *
    generalize aB (onw s) Z S n=sm at *
    generalize aB (onw s) Z (fun k=>!S k) n=al at *
    have hal:X.length≤24:=by omega
    obtain ⟨nal,hna⟩:∃nal,(!al)=nal:=⟨_,rfl⟩
    have hwi:((wi.length:Int)=0)=(nal=true):=by rw [hwi,←hna];cases al<;>simp
    rw [hna] at hl1
    have hbd:decide ((bo.length:Int) > 0)=sm:=by
     by_cases g:(bo.length:Int) > 0
     ·rw [decide_eq_true g];rw [hbo] at g;exact g.symm
     ·rw [decide_eq_false g];rw [hbo] at g
      cases sm with
      | false=>rfl
      | true=>exact absurd rfl g
    have hwd:((wi.length:Int)==0)=nal:=by
     by_cases g:(wi.length:Int)=0
     ·rw [beq_iff_eq.2 g];rw [hwi] at g;exact g.symm
     ·rw [beq_eq_false_iff_ne.2 g];rw [hwi] at g
      cases nal with
      | false=>rfl
      | true=>exact absurd rfl g
    simp+contextual(maxSteps:=1000000)(disch:=omega)only[↓Sd,↓So,↓Sk,↓den,↓denA,Sa,Sb,Sc,Se,O1.d,O2.d,O3.d,cmI,arI,envOf,putN,↓reduceIte,Nat.reduceLT,Nat.reduceSub,Nat.reduceAdd,Int.reduceAdd,Int.reduceEq,Int.reduceLT,Int.reduceLE,arr_pos,arr_neg,]
    refine mc.wp_join (fun us=>us=[⟨L T4,l⟩,⟨N (L I),X⟩,⟨L I,Y⟩,⟨N (L I),X⟩,⟨I,(X.length:Int)⟩,⟨I,(i:Int)⟩,⟨I,(Z:Int)⟩,⟨I,(n:Int)⟩,⟨L V3,s.1⟩,⟨L TR,s.2⟩,⟨L (L I),X⟩,⟨I,o⟩,⟨I,x⟩,⟨I,(a:Int)⟩,⟨I,(c:Int)⟩]) ?_ ?_
    ·simp+contextual(maxSteps:=1000000)(disch:=omega)only[↓Sd,↓So,↓Sk,↓den,↓denA,Sa,Sb,Sc,Se,O1.d,O2.d,O3.d,cmI,arI,envOf,putN,↓reduceIte,Nat.reduceLT,Nat.reduceSub,Nat.reduceAdd,Int.reduceAdd,Int.reduceEq,Int.reduceLT,Int.reduceLE,arr_pos,arr_neg,hnn]
     refine mc.wp_join (fun us=>us=[⟨L T4,l⟩,⟨N (L I),X⟩,⟨L I,Y⟩,⟨I,(n:Int)⟩,⟨N (L I),X⟩,⟨I,(X.length:Int)⟩,⟨I,(i:Int)⟩,⟨I,(Z:Int)⟩,⟨I,(n:Int)⟩,⟨L V3,s.1⟩,⟨L TR,s.2⟩,⟨L (L I),X⟩,⟨I,o⟩,⟨I,x⟩,⟨I,(a:Int)⟩,⟨I,(c:Int)⟩,⟨L I,nx⟩]) ?_ ?_
     ·simp+contextual(maxSteps:=1000000)(disch:=omega)only[↓Sd,↓So,↓Sk,↓den,↓denA,Sa,Sb,Sc,Se,O1.d,O2.d,O3.d,cmI,arI,envOf,putN,↓reduceIte,Nat.reduceLT,Nat.reduceSub,Nat.reduceAdd,Int.reduceAdd,Int.reduceEq,Int.reduceLT,Int.reduceLE,arr_pos,arr_neg,]
      refine ⟨fun g=>?_,fun g=>?_⟩
      ·rw [hnx,if_pos (List.eq_nil_of_length_eq_zero (by omega))]
      ·rw [hnx,if_neg fun g1=>g (by rw [g1];rfl)]
     ·rintro _ rfl
      have hoo:o=6∨o=9∨o=7∨o=10∨(¬o=6∧¬o=9∧¬o=7∧¬o=10):=by omega
      rcases hoo with rfl | rfl | rfl | rfl | ⟨h6,h9,h7,h10⟩
      ·simp+contextual(maxSteps:=1000000)(disch:=omega)only[↓Sd,↓So,↓Sk,↓den,↓denA,Sa,Sb,Sc,Se,O1.d,O2.d,O3.d,cmI,arI,envOf,putN,↓reduceIte,Nat.reduceLT,Nat.reduceSub,Nat.reduceAdd,Int.reduceAdd,Int.reduceEq,Int.reduceLT,Int.reduceLE,arr_pos,arr_neg,hsb,hsw,hga,hgc,hw1,hw2,hw3]
       have hh:=hl1.1 rfl
       rw [hbd]
       clear hlaw hl1 him hsp hsb hsw hw1 hw2 hw3 hbo hwi hna hbd hwd
       subst hh
       cases pn<;>cases qn<;>cases sm<;>simp
      ·simp+contextual(maxSteps:=1000000)(disch:=omega)only[↓Sd,↓So,↓Sk,↓den,↓denA,Sa,Sb,Sc,Se,O1.d,O2.d,O3.d,cmI,arI,envOf,putN,↓reduceIte,Nat.reduceLT,Nat.reduceSub,Nat.reduceAdd,Int.reduceAdd,Int.reduceEq,Int.reduceLT,Int.reduceLE,arr_pos,arr_neg,hsb,hsw,hga,hgc,hw1,hw2,hw3]
       have hh:=hl1.2.1 rfl
       rw [hwd]
       clear hlaw hl1 him hsp hsb hsw hw1 hw2 hw3 hbo hwi hna hbd hwd
       subst hh
       cases pn<;>cases qn<;>cases nal<;>simp
      ·simp+contextual(maxSteps:=1000000)(disch:=omega)only[↓Sd,↓So,↓Sk,↓den,↓denA,Sa,Sb,Sc,Se,O1.d,O2.d,O3.d,cmI,arI,envOf,putN,↓reduceIte,Nat.reduceLT,Nat.reduceSub,Nat.reduceAdd,Int.reduceAdd,Int.reduceEq,Int.reduceLT,Int.reduceLE,arr_pos,arr_neg,hsb,hsw,hga,hgc,hw1,hw2,hw3]
       have hh:=hl1.2.2.1 rfl
       rw [hbd]
       clear hlaw hl1 him hsp hsb hsw hw1 hw2 hw3 hbo hwi hna hbd hwd
       subst hh
       cases pn<;>cases qn<;>cases sm<;>simp
      ·simp+contextual(maxSteps:=1000000)(disch:=omega)only[↓Sd,↓So,↓Sk,↓den,↓denA,Sa,Sb,Sc,Se,O1.d,O2.d,O3.d,cmI,arI,envOf,putN,↓reduceIte,Nat.reduceLT,Nat.reduceSub,Nat.reduceAdd,Int.reduceAdd,Int.reduceEq,Int.reduceLT,Int.reduceLE,arr_pos,arr_neg,hsb,hsw,hga,hgc,hw1,hw2,hw3]
       have hh:=hl1.2.2.2 rfl
       rw [hwd]
       clear hlaw hl1 him hsp hsb hsw hw1 hw2 hw3 hbo hwi hna hbd hwd
       subst hh
       cases pn<;>cases qn<;>cases nal<;>simp
      ·simp+contextual(maxSteps:=1000000)(disch:=omega)only[↓Sd,↓So,↓Sk,↓den,↓denA,Sa,Sb,Sc,Se,O1.d,O2.d,O3.d,cmI,arI,envOf,putN,↓reduceIte,Nat.reduceLT,Nat.reduceSub,Nat.reduceAdd,Int.reduceAdd,Int.reduceEq,Int.reduceLT,Int.reduceLE,arr_pos,arr_neg,hsb,hsw,hga,hgc,hw1,hw2,hw3]
    ·rintro _ rfl
     simp+contextual(maxSteps:=1000000)(disch:=omega)only[↓Sd,↓So,↓Sk,↓den,↓denA,Sa,Sb,Sc,Se,O1.d,O2.d,O3.d,cmI,arI,envOf,putN,↓reduceIte,Nat.reduceLT,Nat.reduceSub,Nat.reduceAdd,Int.reduceAdd,Int.reduceEq,Int.reduceLT,Int.reduceLE,arr_pos,arr_neg,]
   ·rintro - -
    simp+contextual(maxSteps:=1000000)(disch:=omega)only[↓Sd,↓So,↓Sk,↓den,↓denA,Sa,Sb,Sc,Se,O1.d,O2.d,O3.d,cmI,arI,envOf,putN,↓reduceIte,Nat.reduceLT,Nat.reduceSub,Nat.reduceAdd,Int.reduceAdd,Int.reduceEq,Int.reduceLT,Int.reduceLE,arr_pos,arr_neg,]
  ·rintro - -
   simp+contextual(maxSteps:=1000000)(disch:=omega)only[↓Sd,↓So,↓Sk,↓den,↓denA,Sa,Sb,Sc,Se,O1.d,O2.d,O3.d,cmI,arI,envOf,putN,↓reduceIte,Nat.reduceLT,Nat.reduceSub,Nat.reduceAdd,Int.reduceAdd,Int.reduceEq,Int.reduceLT,Int.reduceLE,arr_pos,arr_neg,]
 ·have hX0:X=[]:=by rw [←hX];exact if_neg h
  subst hX0
  refine mc.lp_step ?_
  simp+contextual(maxSteps:=1000000)(disch:=omega)only[↓Sd,↓So,↓Sk,↓den,↓denA,Sa,Sb,Sc,Se,O1.d,O2.d,O3.d,cmI,arI,envOf,putN,↓reduceIte,Nat.reduceLT,Nat.reduceSub,Nat.reduceAdd,Int.reduceAdd,Int.reduceEq,Int.reduceLT,Int.reduceLE,arr_pos,arr_neg,]
end Go.Proofs.YtifkpliahhodoaaGreat
