/- What the trees come to: plain mathematics; no condition. -/
import Derived.Test.YtlfinllnfggiiaaGreatSmMath0
namespace Go.Proofs.YtlfinllnfggiiaaGreat
open Go Go.Sm Go.Sm.Q
set_option linter.unusedSimpArgs false
set_option linter.unusedVariables false
theorem C_spec_l16States (s:Sy) (c:List Int) (hs:FewSy s) (h:valid s) (hc:(c.length:Int)=bc s.1) (Q:List AV→Prop):mc.C f_spec_l16States [⟨L V3,s.1⟩,⟨L TR,s.2⟩,⟨L I,c⟩] Q=Q [⟨L I,upTo (inC s c) (szn s.1)⟩]:=by
 have hz:=szn_eq h
 have hb:=bc_bd h
 refine Mc.Ends.c (mc.ends F_spec_l16States ?_)
 simp+contextual(maxSteps:=1000000)(disch:=omega)only[↓Sd,↓So,↓Sk,↓den,↓denA,Sa,Sb,Sc,Se,O1.d,O2.d,O3.d,cmI,arI,envOf,putN,↓reduceIte,Nat.reduceLT,Nat.reduceSub,Nat.reduceAdd,Int.reduceAdd,Int.reduceEq,Int.reduceLT,Int.reduceLE,arr_pos,arr_neg,tr_spec_l16States]
 refine mc.lp_for (List Int) (fun i o=>[⟨L I,c⟩,⟨I,(i:Int)⟩,⟨L V3,s.1⟩,⟨L TR,s.2⟩,⟨L I,o⟩]) (fun i o=>o=upTo (inC s c) i) (szn s.1) 0 [] _ rfl (Nat.zero_le _) rfl ?_ ?_
 ·rintro i o hi rfl
  have hin:=stN_in h hi
  have hst:stAt s.1 (i:Int)=stN s i:=rfl
  have hlen:=@upTo_len (inC s c) i
  simp+contextual(maxSteps:=1000000)(disch:=omega)only[↓Sd,↓So,↓Sk,↓den,↓denA,Sa,Sb,Sc,Se,O1.d,O2.d,O3.d,cmI,arI,envOf,putN,↓reduceIte,Nat.reduceLT,Nat.reduceSub,Nat.reduceAdd,Int.reduceAdd,Int.reduceEq,Int.reduceLT,Int.reduceLE,arr_pos,arr_neg,↓wpJoin,C_spec_SizeOf s hs,h,C_spec_l4State s i hs h (by omega),hst,C_spec_l6State s (stN s i) h hin,C_spec_l16Has c (sb s (stN s i)) (by omega) (cube_len hc)]
  exact ⟨fun g=>(upTo_s g).symm,fun g=>(upTo_n g).symm⟩
 ·rintro o rfl
  simp+contextual(maxSteps:=1000000)(disch:=omega)only[↓Sd,↓So,↓Sk,↓den,↓denA,Sa,Sb,Sc,Se,O1.d,O2.d,O3.d,cmI,arI,envOf,putN,↓reduceIte,Nat.reduceLT,Nat.reduceSub,Nat.reduceAdd,Int.reduceAdd,Int.reduceEq,Int.reduceLT,Int.reduceLE,arr_pos,arr_neg,C_spec_SizeOf s hs,h]
def blk (s:Sy) (F c:List Int):Prop:=inC s c (num s.1 (fst0 s.1)).toNat=false∧∀x∈F,inC s c x.toNat=false→∀y∈(steps s).getD x.toNat [],inC s c y.toNat=false
theorem first_n {s:Sy} (h:valid s):∃m:Nat,num s.1 (fst0 s.1)=m∧m<szn s.1:=by
 have h1:=num_bd h.2.2.1 (fst0_in h.2.2.1)
 have h2:=szn_eq h
 exact ⟨(num s.1 (fst0 s.1)).toNat,by omega,by omega⟩
theorem C_spec_l4Mix0 (a b:List Int) (N:Nat) (hN:N=400) (ha:lset a 400) (hb:lset b 400) (Q:List AV→Prop):mc.C f_spec_l4Mix [⟨L I,a⟩,⟨L I,b⟩,⟨I,0⟩] Q=Q [⟨L I,upTo (fun k=>dB ((k:Int)∈a)&&dB ((k:Int)∈b)) N⟩]:=by
 have la:=lset_len ha (by omega)
 have lb:=lset_len hb (by omega)
 have ma:=lset_mem ha
 have mb:=lset_mem hb
 refine Mc.Ends.c (mc.ends F_spec_l4Mix ?_)
 simp+contextual(maxSteps:=1000000)(disch:=omega)only[↓Sd,↓So,↓Sk,↓den,↓denA,Sa,Sb,Sc,Se,O1.d,O2.d,O3.d,cmI,arI,envOf,putN,↓reduceIte,Nat.reduceLT,Nat.reduceSub,Nat.reduceAdd,Int.reduceAdd,Int.reduceEq,Int.reduceLT,Int.reduceLE,arr_pos,arr_neg,tr_spec_l4Mix,C_spec_l4Set a (by omega),C_spec_l4Set b (by omega),ha,hb,C_spec_l4Marks_i a 400 N (by omega) (by omega) (by omega) (fun x hx=>by have:=ma x hx;omega),C_spec_l4Marks_i b 400 N (by omega) (by omega) (by omega) (fun x hx=>by have:=mb x hx;omega)]
 refine mc.lp_for (List Int) (fun i o=>[⟨I,0⟩,⟨I,(i:Int)⟩,⟨L I,o⟩,⟨L B,tab (fun k=>dB ((k:Int)∈a)) N⟩,⟨L B,tab (fun k=>dB ((k:Int)∈b)) N⟩]) (fun i o=>o=upTo (fun k=>dB ((k:Int)∈a)&&dB ((k:Int)∈b)) i) N 0 [] _ rfl (Nat.zero_le _) rfl ?_ ?_
 ·rintro i o hi rfl
  have hl:=@upTo_len (fun k=>dB ((k:Int)∈a)&&dB ((k:Int)∈b)) i
  simp+contextual(maxSteps:=1000000)(disch:=omega)only[↓Sd,↓So,↓Sk,↓den,↓denA,Sa,Sb,Sc,Se,O1.d,O2.d,O3.d,cmI,arI,envOf,putN,↓reduceIte,Nat.reduceLT,Nat.reduceSub,Nat.reduceAdd,Int.reduceAdd,Int.reduceEq,Int.reduceLT,Int.reduceLE,arr_pos,arr_neg,]
  refine mc.wp_join (fun us=>us=[⟨I,0⟩,⟨I,(i:Int)⟩,⟨L I,upTo (fun k=>dB ((k:Int)∈a)&&dB ((k:Int)∈b)) (i+1)⟩,⟨L B,tab (fun k=>dB ((k:Int)∈a)) N⟩,⟨L B,tab (fun k=>dB ((k:Int)∈b)) N⟩]) ?_ (by rintro _ rfl;simp+contextual(maxSteps:=1000000)(disch:=omega)only[↓Sd,↓So,↓Sk,↓den,↓denA,Sa,Sb,Sc,Se,O1.d,O2.d,O3.d,cmI,arI,envOf,putN,↓reduceIte,Nat.reduceLT,Nat.reduceSub,Nat.reduceAdd,Int.reduceAdd,Int.reduceEq,Int.reduceLT,Int.reduceLE,arr_pos,arr_neg,])
  simp only [upTo]
  simp+contextual(maxSteps:=1000000)(disch:=omega)only[↓Sd,↓So,↓Sk,↓den,↓denA,Sa,Sb,Sc,Se,O1.d,O2.d,O3.d,cmI,arI,envOf,putN,↓reduceIte,Nat.reduceLT,Nat.reduceSub,Nat.reduceAdd,Int.reduceAdd,Int.reduceEq,Int.reduceLT,Int.reduceLE,arr_pos,arr_neg,tab_len,tab_get hi,Bool.and_eq_true,Bool.true_and,Bool.and_true,Bool.and_false,Bool.false_and]
 ·rintro o rfl
  simp+contextual(maxSteps:=1000000)(disch:=omega)only[↓Sd,↓So,↓Sk,↓den,↓denA,Sa,Sb,Sc,Se,O1.d,O2.d,O3.d,cmI,arI,envOf,putN,↓reduceIte,Nat.reduceLT,Nat.reduceSub,Nat.reduceAdd,Int.reduceAdd,Int.reduceEq,Int.reduceLT,Int.reduceLE,arr_pos,arr_neg,]
theorem C_spec_SetBoth (a b:List Int) (ha:lset a 400) (hb:lset b 400) (Q:List AV→Prop):mc.C f_spec_SetBoth [⟨L I,a⟩,⟨L I,b⟩] Q=Q [⟨L I,upTo (fun k=>dB ((k:Int)∈a)&&dB ((k:Int)∈b)) 400⟩]:=by
 refine Mc.Ends.c (mc.ends F_spec_SetBoth ?_)
 obtain ⟨N,hN⟩:∃N:Nat,N=400:=⟨_,rfl⟩
 rw [←hN]
 simp+contextual(maxSteps:=1000000)(disch:=omega)only[↓Sd,↓So,↓Sk,↓den,↓denA,Sa,Sb,Sc,Se,O1.d,O2.d,O3.d,cmI,arI,envOf,putN,↓reduceIte,Nat.reduceLT,Nat.reduceSub,Nat.reduceAdd,Int.reduceAdd,Int.reduceEq,Int.reduceLT,Int.reduceLE,arr_pos,arr_neg,tr_spec_SetBoth,C_spec_l4Mix0 a b N hN ha hb]
theorem lset_mono {l:List Int} {n m:Int} (h:lset l n) (hm:n≤m):lset l m:=fun i hi=>⟨⟨(h i hi).1.1,by have:=(h i hi).1.2;omega⟩,(h i hi).2⟩
theorem upTo_pos {p:Nat→Bool} {n:Nat}:0<(upTo p n).length↔∃k,k<n∧p k=true:=by
 constructor
 ·intro h
  obtain ⟨k,h1,_,h3⟩:=upTo_mem.1 (getD_mem (d:=0) h)
  exact ⟨k,h1,h3⟩
 ·rintro ⟨k,h1,h2⟩
  exact List.length_pos_of_mem (upTo_mem.2 ⟨k,h1,rfl,h2⟩)
theorem C_spec_l17Ordered (l:List Int) (N:Nat) (hN:N=400) (hl:l.length≤1048576) (h:∀x∈l,0≤x∧x<(N:Int)) (Q:List AV→Prop):mc.C f_spec_l17Ordered [⟨L I,l⟩] Q=Q [⟨L I,upTo (fun k=>dB ((k:Int)∈l)) N⟩]:=by
 refine Mc.Ends.c (mc.ends F_spec_l17Ordered ?_)
 simp+contextual(maxSteps:=1000000)(disch:=omega)only[↓Sd,↓So,↓Sk,↓den,↓denA,Sa,Sb,Sc,Se,O1.d,O2.d,O3.d,cmI,arI,envOf,putN,↓reduceIte,Nat.reduceLT,Nat.reduceSub,Nat.reduceAdd,Int.reduceAdd,Int.reduceEq,Int.reduceLT,Int.reduceLE,arr_pos,arr_neg,tr_spec_l17Ordered]
 refine mc.lp_for (List Bool) (fun i o=>[⟨L I,l⟩,⟨I,(i:Int)⟩,⟨L B,o⟩]) (fun i o=>o=tab (fun k=>dB ((k:Int)∈l.take i)) N) l.length 0 (List.replicate N false) _ (by rw [hN];rfl) (Nat.zero_le _) ?_ ?_ ?_
 ·rw [rep_tab];exact tab_congr fun k _=>(dB_f (by simp)).symm
 ·rintro i o hi rfl
  have hx:=h _ (getD_mem (d:=0) hi)
  simp+contextual(maxSteps:=1000000)(disch:=omega)only[↓Sd,↓So,↓Sk,↓den,↓denA,Sa,Sb,Sc,Se,O1.d,O2.d,O3.d,cmI,arI,envOf,putN,↓reduceIte,Nat.reduceLT,Nat.reduceSub,Nat.reduceAdd,Int.reduceAdd,Int.reduceEq,Int.reduceLT,Int.reduceLE,arr_pos,arr_neg,tab_len,tab_set']
  refine tab_congr fun k hk=>?_
  by_cases hk2:k=(l.getD i 0).toNat
  ·rw [if_pos hk2,dB_t];exact (mem_take_next hi).2 (.inr (by omega))
  ·rw [if_neg hk2];refine dB_congr ?_
   rw [mem_take_next hi]
   exact ⟨.inl,fun h=>h.elim id fun h=>absurd h (by omega)⟩
 ·rintro o rfl
  rw [List.take_length]
  simp+contextual(maxSteps:=1000000)(disch:=omega)only[↓Sd,↓So,↓Sk,↓den,↓denA,Sa,Sb,Sc,Se,O1.d,O2.d,O3.d,cmI,arI,envOf,putN,↓reduceIte,Nat.reduceLT,Nat.reduceSub,Nat.reduceAdd,Int.reduceAdd,Int.reduceEq,Int.reduceLT,Int.reduceLE,arr_pos,arr_neg,C_spec_l4List_tab _ N (by omega:N≤1048576)]
theorem C_spec_l17Blocked (s:Sy) (F c:List Int) (hs:FewSy s) (h:valid s) (hF:lset F (szn s.1)) (hc:(c.length:Int)=bc s.1) (Q:List AV→Prop) :
  mc.C f_spec_l17Blocked [⟨L V3,s.1⟩,⟨L TR,s.2⟩,⟨L (L I),steps s⟩,⟨L I,F⟩,⟨L I,c⟩] Q=Q [⟨B,dB (blk s F c)⟩]:=by
 have hz:=szn_eq h
 have h5:=h.1.2
 have hv:=h.2.2.1
 have ht:=steps_tbl h
 have hT:=ht.1
 obtain ⟨m,hm,hmn⟩:=first_n h
 have hCl:=@upTo_len (inC s c) (szn s.1)
 have hCs:lset (upTo (inC s c) (szn s.1)) 400:=upTo_lset (m:=400) (by omega)
 have hFs:lset F 400:=lset_mono hF (by omega)
 have hFm:=lset_mem hF
 refine Mc.Ends.c (mc.ends F_spec_l17Blocked ?_)
 generalize hK:dB (blk s F c)=K
 simp+contextual(maxSteps:=1000000)(disch:=omega)only[↓Sd,↓So,↓Sk,↓den,↓denA,Sa,Sb,Sc,Se,O1.d,O2.d,O3.d,cmI,arI,envOf,putN,↓reduceIte,Nat.reduceLT,Nat.reduceSub,Nat.reduceAdd,Int.reduceAdd,Int.reduceEq,Int.reduceLT,Int.reduceLE,arr_pos,arr_neg,tr_spec_l17Blocked,C_spec_l16States s c hs h hc,C_spec_FirstState s hs h,C_spec_l4Number s _ h5 hv (fst0_in hv),hm,C_spec_l2Has _ (m:Int) (by omega:(upTo (inC s c) (szn s.1)).length≤1048576),dB_upTo,hmn,C_spec_SetWithout F (upTo (inC s c) (szn s.1)) hFs hCs]
 simp only [decide_true,Bool.true_and]
 refine ⟨fun g=>?_,fun g=>?_⟩
 ·rw [←hK,dB_f];intro g1;have:=g1.1;rw [hm] at this;simp only [Int.toNat_natCast] at this;rw [g] at this;cases this
 generalize hfr:upTo (fun k=>dB ((k:Int)∈F)&&!(decide (k<szn s.1)&&inC s c k)) 400=fr
 have hfm:∀x,x∈fr↔x∈F∧inC s c x.toNat=false:=by
  intro x
  rw [←hfr,upTo_mem]
  constructor
  ·rintro ⟨k,h1,rfl,h2⟩
   simp only [Bool.and_eq_true,Bool.not_eq_true',Bool.and_eq_false_iff,decide_eq_false_iff_not] at h2
   have h3:=dB_iff.1 h2.1
   have h4:=hFm _ h3
   exact ⟨h3,h2.2.elim (fun h5=>absurd h4.2 (by omega)) (by simp)⟩
  ·rintro ⟨h1,h2⟩
   have h4:=hFm _ h1
   refine ⟨x.toNat,by omega,by omega,?_⟩
   rw [show ((x.toNat:Nat):Int)=x by omega,dB_t h1,h2]
   simp
 have hfl:fr.length≤400:=by rw [←hfr];exact upTo_len
 refine lp_all (fun i=>[⟨L (L I),steps s⟩,⟨I,(i:Int)⟩,⟨L I,upTo (inC s c) (szn s.1)⟩,⟨L I,fr⟩]) (fun i=>∀y∈(steps s).getD (fr.getD i 0).toNat [],inC s c y.toNat=false) fr.length _ rfl ?_ ?_
 ·intro i hi
  have hxf:=(hfm _).1 (getD_mem (d:=0) hi)
  have hx:=hFm _ hxf.1
  obtain ⟨x,hxe⟩:∃x:Nat,fr.getD i 0=x:=⟨(fr.getD i 0).toNat,by omega⟩
  rw [hxe] at hxf
  have hxn:x<szn s.1:=by omega
  have hrow:=ht.row (i:=x)
  have hrl:((steps s).getD x []).length≤1048576:=(ht.2 _ (getD_mem (by omega))).1
  obtain ⟨N,hN⟩:∃N:Nat,N=400:=⟨_,rfl⟩
  simp+contextual(maxSteps:=1000000)(disch:=omega)only[↓Sd,↓So,↓Sk,↓den,↓denA,Sa,Sb,Sc,Se,O1.d,O2.d,O3.d,cmI,arI,envOf,putN,↓reduceIte,Nat.reduceLT,Nat.reduceSub,Nat.reduceAdd,Int.reduceAdd,Int.reduceEq,Int.reduceLT,Int.reduceLE,arr_pos,arr_neg,hxe,hT,C_spec_l17Ordered ((steps s).getD x []) N hN hrl (fun y hy=>by have:=hrow y hy;omega)]
  have ho:lset (upTo (fun k=>dB ((k:Int)∈(steps s).getD x [])) N) 400:=upTo_lset (m:=400) (by omega)
  simp+contextual(maxSteps:=1000000)(disch:=omega)only[↓Sd,↓So,↓Sk,↓den,↓denA,Sa,Sb,Sc,Se,O1.d,O2.d,O3.d,cmI,arI,envOf,putN,↓reduceIte,Nat.reduceLT,Nat.reduceSub,Nat.reduceAdd,Int.reduceAdd,Int.reduceEq,Int.reduceLT,Int.reduceLE,arr_pos,arr_neg,C_spec_SetBoth _ _ ho hCs]
  have hiff:0<(upTo (fun k=>dB ((k:Int)∈upTo (fun k=>dB ((k:Int)∈(steps s).getD x [])) N)&&dB ((k:Int)∈upTo (inC s c) (szn s.1))) 400).length↔¬ ∀y∈(steps s).getD x [],inC s c y.toNat=false:=by
   rw [upTo_pos]
   constructor
   ·rintro ⟨k,h1,h2⟩ h3
    simp only [dB_upTo,Bool.and_eq_true,decide_eq_true_eq] at h2
    have:=h3 _ (dB_iff.1 h2.1.2)
    simp only [Int.toNat_natCast] at this
    rw [h2.2.2] at this;cases this
   ·intro h3
    refine Classical.byContradiction fun h4=>h3 fun y hy=>?_
    have hyb:=hrow y hy
    refine Bool.eq_false_iff.2 fun h5=>h4 ⟨y.toNat,by omega,?_⟩
    simp only [dB_upTo,Bool.and_eq_true,decide_eq_true_eq]
    exact ⟨⟨by omega,dB_t (by rw [show ((y.toNat:Nat):Int)=y by omega];exact hy)⟩,by omega,h5⟩
  refine ⟨fun g1=>?_,fun g1=>?_⟩
  ·rw [←hK,dB_f]
   intro g2
   exact hiff.1 (by omega) (g2.2 _ hxf.1 (by simpa using hxf.2))
  ·exact Classical.byContradiction fun g2=>g1 (by have:=hiff.2 g2;omega)
 ·intro g1
  simp+contextual(maxSteps:=1000000)(disch:=omega)only[↓Sd,↓So,↓Sk,↓den,↓denA,Sa,Sb,Sc,Se,O1.d,O2.d,O3.d,cmI,arI,envOf,putN,↓reduceIte,Nat.reduceLT,Nat.reduceSub,Nat.reduceAdd,Int.reduceAdd,Int.reduceEq,Int.reduceLT,Int.reduceLE,arr_pos,arr_neg,]
  rw [←hK,dB_t]
  refine ⟨by rw [hm];simpa using g,fun x hx hxc=>?_⟩
  obtain ⟨i,hi,he⟩:=List.getElem_of_mem ((hfm x).2 ⟨hx,hxc⟩)
  have:=g1 i hi
  rwa [getD_lt hi,he] at this
noncomputable def wdn (P:List Int→Prop) (c:List Int):Nat→List Int
 | 0=>c
 | i+1=>if dB (P ((wdn P c i).set i 2))=true then (wdn P c i).set i 2 else wdn P c i
theorem wdn_len {P:List Int→Prop} {c:List Int}:∀{i:Nat},(wdn P c i).length=c.length
 | 0=>rfl
 | i+1=>by
  simp only [wdn]
  split
  ·rw [List.length_set,wdn_len]
  ·exact wdn_len
noncomputable def gen (s:Sy) (F:List Int) (n:Nat):List Int:=wdn (blk s F) (sb s (stN s n)) (sb s (stN s n)).length
theorem stN_sb_len {s:Sy} {n:Nat}:((sb s (stN s n)).length:Int)=bc s.1:=sb_len
theorem gen_len {s:Sy} {F:List Int} {n:Nat}:((gen s F n).length:Int)=bc s.1:=by rw [gen,wdn_len];exact sb_len
theorem C_spec_l17Wide (s:Sy) (F:List Int) (n:Nat) (hs:FewSy s) (h:valid s) (hn:n<szn s.1) (hF:lset F (szn s.1)) (hB:dB (blk s F (sb s (stN s n)))=true) (Q:List AV→Prop) :
  mc.C f_spec_l17Wide [⟨L V3,s.1⟩,⟨L TR,s.2⟩,⟨L (L I),steps s⟩,⟨L I,F⟩,⟨I,(n:Int)⟩] Q=Q [⟨L I,gen s F n⟩]:=by
 have hz:=szn_eq h
 have hb:=bc_bd h
 have hin:=stN_in h hn
 have hst:stAt s.1 (n:Int)=stN s n:=rfl
 have hlen:=@stN_sb_len s n
 refine Mc.Ends.c (mc.ends F_spec_l17Wide ?_)
 simp+contextual(maxSteps:=1000000)(disch:=omega)only[↓Sd,↓So,↓Sk,↓den,↓denA,Sa,Sb,Sc,Se,O1.d,O2.d,O3.d,cmI,arI,envOf,putN,↓reduceIte,Nat.reduceLT,Nat.reduceSub,Nat.reduceAdd,Int.reduceAdd,Int.reduceEq,Int.reduceLT,Int.reduceLE,arr_pos,arr_neg,tr_spec_l17Wide,C_spec_l4State s n hs h (by omega),hst,C_spec_l6State s (stN s n) h hin,C_spec_l17Blocked s F (sb s (stN s n)) hs h hF hlen,hB]
 generalize hc:sb s (stN s n)=c at *
 refine mc.lp_for (List Int) (fun i o=>[⟨L (L I),steps s⟩,⟨L I,F⟩,⟨I,(i:Int)⟩,⟨L V3,s.1⟩,⟨L TR,s.2⟩,⟨L I,o⟩]) (fun i o=>o=wdn (blk s F) c i) c.length 0 c _ rfl (Nat.zero_le _) rfl ?_ ?_
 ·rintro i o hi rfl
  have hl:=@wdn_len (blk s F) c i
  have hl2:(((wdn (blk s F) c i).set i 2).length:Int)=bc s.1:=by rw [List.length_set,hl];exact hlen
  simp+contextual(maxSteps:=1000000)(disch:=omega)only[↓Sd,↓So,↓Sk,↓den,↓denA,Sa,Sb,Sc,Se,O1.d,O2.d,O3.d,cmI,arI,envOf,putN,↓reduceIte,Nat.reduceLT,Nat.reduceSub,Nat.reduceAdd,Int.reduceAdd,Int.reduceEq,Int.reduceLT,Int.reduceLE,arr_pos,arr_neg,↓wpJoin,C_spec_l3Copy (wdn (blk s F) c i) (by omega),C_spec_l17Blocked s F ((wdn (blk s F) c i).set i 2) hs h hF hl2]
  simp only [wdn]
  refine ⟨fun g1=>by rw [if_pos g1],fun g1=>by rw [if_neg g1]⟩
 ·rintro o rfl
  have hl:=@wdn_len (blk s F) c c.length
  simp+contextual(maxSteps:=1000000)(disch:=omega)only[↓Sd,↓So,↓Sk,↓den,↓denA,Sa,Sb,Sc,Se,O1.d,O2.d,O3.d,cmI,arI,envOf,putN,↓reduceIte,Nat.reduceLT,Nat.reduceSub,Nat.reduceAdd,Int.reduceAdd,Int.reduceEq,Int.reduceLT,Int.reduceLE,arr_pos,arr_neg,hl]
  rw [gen,hc]
theorem wrap_u64 {n:Nat} (h:n<18446744073709551616):IntKind.u64.wrap (n:Int)=n:=by
 unfold IntKind.wrap
 simp only [IntKind.bits,IntKind.signed]
 have:((n:Int) % (2:Int) ^ 64)=n:=by omega
 simpa using this
theorem fd64 {n:Nat} (h:n<4294967296):(n:Int).fdiv (2 ^ min (Int.toNat 32) IntKind.u64.bits)=0:=by
 have:min (Int.toNat 32) IntKind.u64.bits=32:=by decide
 rw [this,Int.fdiv_eq_ediv_of_nonneg _ (by decide)]
 omega
theorem sh64 {n:Nat} (h:n<4294967296):shI false .u64 (n:Int) 32=0:=by
 unfold shI
 simp only [Bool.false_eq_true,if_false]
 exact fd64 h
theorem and64 {n:Nat} (h:n<4294967296):IntKind.u64.wrap ((BitVec.ofInt IntKind.u64.bits (n:Int) &&& BitVec.ofInt IntKind.u64.bits 4294967295).toNat:Int)=n:=by
 have h1:(BitVec.ofInt IntKind.u64.bits (n:Int) &&& BitVec.ofInt IntKind.u64.bits 4294967295).toNat=n:=by
  rw [BitVec.toNat_and]
  have e1:(BitVec.ofInt IntKind.u64.bits (n:Int)).toNat=n:=by
   rw [BitVec.toNat_ofInt]
   show Int.toNat ((n:Int) % (2:Int) ^ 64)=n
   omega
  have e2:(BitVec.ofInt IntKind.u64.bits 4294967295).toNat=2 ^ 32 - 1:=by decide
  rw [e1,e2,Nat.and_two_pow_sub_one_eq_mod,Nat.mod_eq_of_lt h]
 rw [h1]
 exact wrap_u64 (by omega)
theorem C_math_bits_Mul1 (n:Nat) (h:n≤1048576) (Q:List AV→Prop):mc.C f_math_bits_Mul [⟨.int .u64,(1:Int)⟩,⟨.int .u64,(n:Int)⟩] Q=Q [⟨.int .u64,(0:Int)⟩,⟨.int .u64,(n:Int)⟩]:=by
 have e1:mc.C f_math_bits_Mul64 [⟨.int .u64,(1:Int)⟩,⟨.int .u64,(n:Int)⟩]=fun Q=>Q [⟨.int .u64,(0:Int)⟩,⟨.int .u64,(n:Int)⟩]:=by
  funext Q
  refine Mc.Ends.c (mc.ends F_math_bits_Mul64 ?_)
  have s1:shI false .u64 1 32=0:=sh64 (n:=1) (by omega)
  have s0:shI false .u64 0 32=0:=sh64 (n:=0) (by omega)
  have sn:=sh64 (n:=n) (by omega)
  have a1:IntKind.u64.wrap ((BitVec.ofInt IntKind.u64.bits 1 &&& BitVec.ofInt IntKind.u64.bits 4294967295).toNat:Int)=1:=and64 (n:=1) (by omega)
  have a0:IntKind.u64.wrap ((BitVec.ofInt IntKind.u64.bits 0 &&& BitVec.ofInt IntKind.u64.bits 4294967295).toNat:Int)=0:=and64 (n:=0) (by omega)
  have an:=and64 (n:=n) (by omega)
  have w:=wrap_u64 (n:=n) (by omega)
  have w0:IntKind.u64.wrap 0=0:=by decide
  simp+contextual(maxSteps:=1000000)(disch:=omega)only[↓Sd,↓So,↓Sk,↓den,↓denA,Sa,Sb,Sc,Se,O1.d,O2.d,O3.d,cmI,arI,envOf,putN,↓reduceIte,Nat.reduceLT,Nat.reduceSub,Nat.reduceAdd,Int.reduceAdd,Int.reduceEq,Int.reduceLT,Int.reduceLE,arr_pos,arr_neg,tr_math_bits_Mul64,s1,s0,sn,a1,an,a0,w,w0,Int.zero_mul,Int.mul_zero,Int.one_mul,Int.add_zero,Int.zero_add]
 refine Mc.Ends.c (mc.ends F_math_bits_Mul ?_)
 simp+contextual(maxSteps:=1000000)(disch:=omega)only[↓Sd,↓So,↓Sk,↓den,↓denA,Sa,Sb,Sc,Se,O1.d,O2.d,O3.d,cmI,arI,envOf,putN,↓reduceIte,Nat.reduceLT,Nat.reduceSub,Nat.reduceAdd,Int.reduceAdd,Int.reduceEq,Int.reduceLT,Int.reduceLE,arr_pos,arr_neg,tr_math_bits_Mul,e1]
def reps (k n:Nat) (v:Int):List Int:=List.replicate k v++List.replicate (n - k) 0
theorem reps_len {k n:Nat} {v:Int} (h:k≤n):(reps k n v).length=n:=by simp [reps];omega
theorem reps_over0 {n:Nat} {v:Int}:overL (List.replicate n (0:Int)) [v]=reps (min 1 n) n v:=by
 cases n with
 | zero=>simp [overL,reps]
 | succ n =>
  have:min 1 (n+1)=1:=by omega
  rw [this]
  simp [overL,reps,List.replicate_succ]
theorem reps_next {k n:Nat} {v:Int} (h:k≤n):(reps k n v).take k++overL (((reps k n v).take n).drop k) (((reps k n v).take k).drop 0)++(reps k n v).drop n=reps (k+min k (n - k)) n v:=by
 have e1:(reps k n v).take k=List.replicate k v:=by simp [reps]
 have e2:(reps k n v).take n=reps k n v:=List.take_of_length_le (by rw [reps_len h];omega)
 have e3:(reps k n v).drop n=[]:=List.drop_eq_nil_of_le (by rw [reps_len h];omega)
 have e4:(reps k n v).drop k=List.replicate (n - k) 0:=by simp [reps]
 rw [e1,e2,e3,e4,List.drop_zero,List.append_nil]
 unfold overL reps
 rw [List.length_replicate,List.length_replicate,List.take_replicate,List.drop_replicate,←List.append_assoc,List.replicate_append_replicate]
 congr 2
 ·omega
 ·omega
theorem C_slices_Repeat (v:Int) (n:Nat) (h:n≤1048576) (Q:List AV→Prop):mc.C f_slices_Repeat_Sint_int [⟨L I,[v]⟩,⟨I,(n:Int)⟩] Q=Q [⟨L I,List.replicate n v⟩]:=by
 refine Mc.Ends.c (mc.ends F_slices_Repeat_Sint_int ?_)
 have w1:IntKind.u64.wrap 1=1:=by decide
 have w:=wrap_u64 (n:=n) (by omega)
 simp+contextual(maxSteps:=1000000)(disch:=omega)only[↓Sd,↓So,↓Sk,↓den,↓denA,Sa,Sb,Sc,Se,O1.d,O2.d,O3.d,cmI,arI,envOf,putN,↓reduceIte,Nat.reduceLT,Nat.reduceSub,Nat.reduceAdd,Int.reduceAdd,Int.reduceEq,Int.reduceLT,Int.reduceLE,arr_pos,arr_neg,tr_slices_Repeat_Sint_int,w1,w,C_math_bits_Mul1 n h,reps_over0,List.length_replicate]
 refine mc.lp_inv (fun j us=>∃k:Nat,us=[⟨I,(k:Int)⟩,⟨L I,reps k n v⟩]∧k≤n∧(n=0∨1≤k)∧j=n - k) (n - min 1 n) _ ⟨min 1 n,?_,Nat.min_le_right ..,by omega,rfl⟩ ?_
 ·rw [show (if (n:Int)<1 then (n:Int) else 1)=((min 1 n:Nat):Int) by omega]
 rintro j us ⟨k,rfl,i1,i2,rfl⟩
 have hl:=reps_len (v:=v) i1
 have l1:(List.drop k (List.take n (reps k n v))).length=n - k:=by rw [List.length_drop,List.length_take,hl];omega
 have l2:(List.drop 0 (List.take k (reps k n v))).length=k:=by rw [List.length_drop,List.length_take,hl];omega
 simp+contextual(maxSteps:=1000000)(disch:=omega)only[↓Sd,↓So,↓Sk,↓den,↓denA,Sa,Sb,Sc,Se,O1.d,O2.d,O3.d,cmI,arI,envOf,putN,↓reduceIte,Nat.reduceLT,Nat.reduceSub,Nat.reduceAdd,Int.reduceAdd,Int.reduceEq,Int.reduceLT,Int.reduceLE,arr_pos,arr_neg,↓wpJoin,hl,l1,l2,reps_next i1]
 refine ⟨fun g=>?_,fun g=>?_⟩
 ·have hkn:k<n:=Int.ofNat_lt.1 g
  refine ⟨_,?_,k+min k (n - k),⟨?_,rfl⟩,by omega,by omega,rfl⟩
  ·omega
  rw [show (if ((n - k:Nat):Int)<(k:Int) then ((n - k:Nat):Int) else (k:Int))=((min k (n - k):Nat):Int) by omega]
  rw [wrap_id (by omega) (by omega)]
  exact (Int.natCast_add _ _).symm
 ·have hkn:¬k<n:=fun hh=>g (Int.ofNat_lt.2 hh)
  have:k=n:=by omega
  subst this
  simp [reps]
def Lay (T:List (List Int)) (F:List Int):Nat→Nat→Prop
 | 0,k=>(k:Int)∈F
 | d+1,k=>Lay T F d k∨∃a,Lay T F d a∧(k:Int)∈T.getD a []
theorem least {P:Nat→Prop} (h:∃d,P d):∃d,P d∧∀e,e<d→¬P e:=by
 obtain ⟨d,hd⟩:=h
 induction d using Nat.strongRecOn with
 | ind d ih =>
  by_cases g:∃e,e<d∧P e
  ·obtain ⟨e,h1,h2⟩:=g;exact ih e h1 h2
  ·exact ⟨d,hd,fun e he hp=>g ⟨e,he,hp⟩⟩
open Classical in
noncomputable def dst (T:List (List Int)) (F:List Int) (k:Nat):Int:=if h:∃d,Lay T F d k then ((Classical.choose (least h):Nat):Int) else -1
theorem Lay.up {T:List (List Int)} {F:List Int} {d e k:Nat} (h:Lay T F d k) (he:d≤e):Lay T F e k:=by
 induction e with
 | zero => have : d = 0 := by omega
           subst this;exact h
 | succ e ih =>
  by_cases g:d≤e
  ·exact .inl (ih g)
  ·have:d=e+1:=by omega
   subst this;exact h
structure IsDst (T:List (List Int)) (F:List Int) (n:Nat) (f:Nat→Int):Prop where
 ge:∀k,k<n → -1≤f k
 zero:∀k,k<n→(f k=0↔(k:Int)∈F)
 pre:∀k,k<n→0<f k→∃a,a<n∧f a+1=f k∧(k:Int)∈T.getD a []
 nxt:∀a,a<n→0≤f a→∀k:Nat,(k:Int)∈T.getD a []→0≤f k∧f k≤f a+1
theorem IsDst.eq {T:List (List Int)} {F:List Int} {n:Nat} {f:Nat→Int} (ht:Tbl T n) (hF:∀x∈F,0≤x∧x<n) (h:IsDst T F n f):∀k,k<n→f k=dst T F k:=by
 have a1:∀d k,k<n→f k=(d:Nat)→Lay T F d k:=by
  intro d
  induction d with
  | zero=>intro k hk h1;exact (h.zero k hk).1 h1
  | succ d ih =>
   intro k hk h1
   obtain ⟨a,b1,b2,b3⟩:=h.pre k hk (by omega)
   exact .inr ⟨a,ih a b1 (by omega),b3⟩
 have a2:∀d k,Lay T F d k→k<n∧0≤f k∧f k≤(d:Nat):=by
  intro d
  induction d with
  | zero => intro k h1; have := hF _ h1; have hk : k < n := by omega
            have:=(h.zero k hk).2 h1;exact ⟨hk,by omega,by omega⟩
  | succ d ih =>
   intro k h1
   rcases h1 with h1 | ⟨a,h1,h2⟩
   ·have:=ih k h1;exact ⟨this.1,this.2.1,by omega⟩
   ·obtain ⟨b1,b2,b3⟩:=ih a h1
    have:=ht.row _ h2
    have:=h.nxt a b1 b2 k h2
    exact ⟨by omega,this.1,by omega⟩
 intro k hk
 unfold dst
 by_cases g:∃d,Lay T F d k
 ·rw [dif_pos g]
  obtain ⟨b1,b2⟩:=Classical.choose_spec (least g)
  generalize Classical.choose (least g)=d at b1 b2
  obtain ⟨-,c1,c2⟩:=a2 d k b1
  have c3:=a1 (f k).toNat k hk (by omega)
  have:¬(f k).toNat<d:=fun hh=>b2 _ hh c3
  omega
 ·rw [dif_neg g]
  have:=h.ge k hk
  by_cases g2:0≤f k
  ·exact absurd ⟨_,a1 (f k).toNat k hk (by omega)⟩ g
  ·omega
theorem tab_one {n m:Nat} (hm:m<n):(List.replicate n (-1:Int)).set m 0=tab (fun k=>if k=m then 0 else -1) n:=by
 rw [rep_tab,tab_set']
structure Bfs (T:List (List Int)) (m n:Nat) (f:Nat→Int) (q:List Nat) (ex:Nat→Prop):Prop where
 ge:∀k,k<n → -1≤f k
 zero:∀k,k<n→(f k=0↔k=m)
 pre:∀k,k<n→0<f k→∃a,a<n∧f a+1=f k∧(k:Int)∈T.getD a []
 inq:∀x∈q,x<n∧0≤f x
 sorted:q.Pairwise fun a b=>f a≤f b
 closed:∀a,a<n→0≤f a→a∉q→¬ex a→∀k:Nat,(k:Int)∈T.getD a []→0≤f k∧f k≤f a+1
 top:∀k,k<n→f k+cntF (fun k=>decide (0≤f k)) n≤n
theorem cntF_congr {p q:Nat→Bool} {n:Nat} (h:∀k,k<n→p k=q k):cntF p n=cntF q n:=by
 unfold cntF
 rw [upTo_congr fun k hk=>by rw [h k hk]]
theorem Bfs.visit {T:List (List Int)} {m n x y:Nat} {f:Nat→Int} {q:List Nat} (h:Bfs T m n f q (·=x)) (hx:x<n) (hfx:0≤f x) (hy:y<n) (hfy:f y<0) (hm:m<n) (hT:(y:Int)∈T.getD x []) (hb:∀k,k<n→f k≤f x+1) :
  Bfs T m n (fun k=>if k=y then f x+1 else f k) (q++[y]) (·=x)∧cntF (fun k=>decide (0≤(if k=y then f x+1 else f k))) n+1=cntF (fun k=>decide (0≤f k)) n:=by
 have hxy:¬x=y:=by rintro rfl;omega
 have hc:cntF (fun k=>decide (0≤(if k=y then f x+1 else f k))) n+1=cntF (fun k=>decide (0≤f k)) n:=by
  have:=cntF_set (p:=fun k=>decide (0≤f k)) (j:=y) (by simp;omega) (n:=n) hy
  rw [←this]
  congr 1
  refine cntF_congr fun k _=>?_
  by_cases g:k=y
  ·simp [g];omega
  ·simp [g]
 refine ⟨⟨fun k hk=>?_,fun k hk=>?_,fun k hk h1=>?_,fun z hz=>?_,?_,fun a ha h1 h2 h3 k hk=>?_,fun k hk=>?_⟩,hc⟩
 ·have:=h.ge k hk;split<;>omega
 ·have:=h.zero k hk
  have:=h.zero m hm
  split
  ·rename_i g;subst g
   constructor
   ·intro h1;omega
   ·intro h1;subst h1;omega
  ·assumption
 ·by_cases g:k=y
  ·subst g
   exact ⟨x,hx,by simp [hxy],hT⟩
  ·simp only [g,if_false] at h1 ⊢
   obtain ⟨a,b1,b2,b3⟩:=h.pre k hk h1
   have:¬a=y:=by rintro rfl;omega
   exact ⟨a,b1,by simp [this,b2],b3⟩
 ·rcases List.mem_append.1 hz with hz | hz
  ·have:=h.inq z hz
   refine ⟨this.1,?_⟩
   split<;>omega
  ·simp only [List.mem_singleton] at hz
   subst hz
   exact ⟨hy,by simp;omega⟩
 ·refine List.pairwise_append.2 ⟨?_,List.pairwise_singleton _ _,?_⟩
  ·refine h.sorted.imp_of_mem ?_
   intro a b ha hb2 hab
   have h1:=(h.inq a ha).2
   have h2:=(h.inq b hb2).2
   have e1:¬a=y:=by rintro rfl;omega
   have e2:¬b=y:=by rintro rfl;omega
   simp only [e1,e2,if_false];exact hab
  ·intro a ha b hb2
   simp only [List.mem_singleton] at hb2
   subst hb2
   have h1:=h.inq a ha
   have e1:¬a=b:=by rintro rfl;omega
   simp only [e1,if_false,if_true]
   exact hb a h1.1
 ·simp only [List.mem_append,List.mem_singleton,not_or] at h2
  have e1:¬a=y:=h2.2
  simp only [e1,if_false] at h1 ⊢
  have:=h.closed a ha h1 h2.1 h3 k hk
  have e2:¬k=y:=by rintro rfl;omega
  simp only [e2,if_false];exact this
 ·have:=h.top k hk
  have:=h.top x hx
  split<;>omega
theorem C_impl_steps (T:List (List Int)) (m n:Nat) (hm:m<n) (hn:n≤1000) (ht:Tbl T n) (Q:List AV→Prop):mc.C f_impl_steps [⟨L (L I),T⟩,⟨I,(m:Int)⟩] Q=Q [⟨L I,tab (dst T [(m:Int)]) n⟩]:=by
 have hl:=ht.1
 refine Mc.Ends.c (mc.ends F_impl_steps ?_)
 simp+contextual(maxSteps:=1000000)(disch:=omega)only[↓Sd,↓So,↓Sk,↓den,↓denA,Sa,Sb,Sc,Se,O1.d,O2.d,O3.d,cmI,arI,envOf,putN,↓reduceIte,Nat.reduceLT,Nat.reduceSub,Nat.reduceAdd,Int.reduceAdd,Int.reduceEq,Int.reduceLT,Int.reduceLE,arr_pos,arr_neg,tr_impl_steps,hl,C_slices_Repeat (-1) n (by omega),List.length_replicate,tab_one hm]
 have hc0:cntF (fun k=>decide ((0:Int)≤if k=m then 0 else -1)) n≤n:=cntF_le
 refine mc.lp_inv (fun j us=>∃(f:Nat→Int) (q:List Nat),us=[⟨L (L I),T⟩,⟨L I,tab f n⟩,⟨L I,q.map Int.ofNat⟩]∧Bfs T m n f q (fun _=>False)∧(∀x q',q=x::q'→∀k,k<n→f k≤f x+1)∧q.length+cntF (fun k=>decide (0≤f k)) n≤2000 ∧
  j=2 * cntF (fun k=>decide (0≤f k)) n+q.length) _ _ ⟨fun k=>if k=m then 0 else -1,[m],rfl,⟨?_,?_,?_,?_,?_,?_,?_⟩,?_,?_,rfl⟩ ?_
 ·intro k _;split<;>omega
 ·intro k _;split<;>omega
 ·intro k _ h;split at h<;>omega
 ·intro x hx;simp only [List.mem_singleton] at hx;subst hx;exact ⟨hm,by simp⟩
 ·exact List.pairwise_singleton _ _
 ·intro a ha h1 h2
  simp only [List.mem_singleton] at h2
  simp only [h2,if_false] at h1
  omega
 ·intro k hk
  have hc:=cntF_set (p:=fun _=>false) (j:=m) rfl (n:=n) hm
  have:cntF (fun _=>false) n≤n:=cntF_le
  rw [cntF_congr (q:=fun k=>if k=m then true else false) fun k _=>by by_cases g:k=m<;>simp [g]]
  split<;>omega
 ·intro x q' hq k hk
  simp only [List.cons.injEq] at hq
  rw [←hq.1]
  simp only [if_true]
  split<;>omega
 ·simp only [List.length_singleton];omega
 rintro j us ⟨f,q,rfl,i1,i2,i3,rfl⟩
 cases q with
 | nil =>
  simp+contextual(maxSteps:=1000000)(disch:=omega)only[↓Sd,↓So,↓Sk,↓den,↓denA,Sa,Sb,Sc,Se,O1.d,O2.d,O3.d,cmI,arI,envOf,putN,↓reduceIte,Nat.reduceLT,Nat.reduceSub,Nat.reduceAdd,Int.reduceAdd,Int.reduceEq,Int.reduceLT,Int.reduceLE,arr_pos,arr_neg,List.map_nil]
  refine tab_congr (IsDst.eq ht (by intro x hx;simp only [List.mem_singleton] at hx;omega) ⟨i1.ge,fun k hk=>?_,i1.pre,fun a ha h1 k hk=>i1.closed a ha h1 (by simp) (by simp) k hk⟩)
  rw [i1.zero k hk]
  simp only [List.mem_singleton]
  omega
 | cons x q =>
  have hb:=i2 x q rfl
  obtain ⟨hx,hfx⟩:=i1.inq x (List.mem_cons_self ..)
  have hso:=List.pairwise_cons.1 i1.sorted
  have hrow:=ht.row (i:=x)
  have hrl:(T.getD x []).length≤1048576:=(ht.2 _ (getD_mem (by omega))).1
  simp only [List.length_cons] at i3
  obtain ⟨row,hr⟩:∃row,T.getD x []=row:=⟨_,rfl⟩
  rw [hr] at hrow hrl
  have e0:Int.ofNat x=(x:Int):=rfl
  simp+contextual(maxSteps:=1000000)(disch:=omega)only[↓Sd,↓So,↓Sk,↓den,↓denA,Sa,Sb,Sc,Se,O1.d,O2.d,O3.d,cmI,arI,envOf,putN,↓reduceIte,Nat.reduceLT,Nat.reduceSub,Nat.reduceAdd,Int.reduceAdd,Int.reduceEq,Int.reduceLT,Int.reduceLE,arr_pos,arr_neg,List.map_cons,hl,e0,Int.toNat_natCast,hr,List.drop_succ_cons,List.drop_zero,List.length_cons]
  refine mc.lp_for ((Nat→Int)×List Nat) (fun j s=>[⟨L (L I),T⟩,⟨I,(x:Int)⟩,⟨L I,row⟩,⟨I,(row.length:Int)⟩,⟨I,(j:Int)⟩,⟨L I,tab s.1 n⟩,⟨L I,s.2.map Int.ofNat⟩]) (fun j s=>Bfs T m n s.1 s.2 (·=x)∧s.1 x=f x∧(∀k,k<n→s.1 k≤f x+1)∧(∀y∈s.2,f x≤s.1 y) ∧
   (∀k:Nat,(k:Int)∈row.take j→0≤s.1 k)∧s.2.length+cntF (fun k=>decide (0≤s.1 k)) n=q.length+cntF (fun k=>decide (0≤f k)) n∧cntF (fun k=>decide (0≤s.1 k)) n≤cntF (fun k=>decide (0≤f k)) n) row.length 0 (f,q) _ rfl (Nat.zero_le _)
   ⟨⟨i1.ge,i1.zero,i1.pre,fun y hy=>i1.inq y (List.mem_cons_of_mem _ hy),hso.2,fun a h1 h2 h3 h4=>i1.closed a h1 h2 (by simp only [List.mem_cons,not_or];exact ⟨h4,h3⟩) (by simp),i1.top⟩,rfl,hb,hso.1,by simp,rfl,Nat.le_refl _⟩ ?_ ?_
  ·rintro j ⟨f',q'⟩ hj ⟨a1,a2,a3,a4,a5,a6,a7⟩
   simp only at a1 a2 a3 a4 a5 a6 a7
   have hy:=hrow _ (getD_mem (d:=0) hj)
   obtain ⟨y,hy2⟩:∃y:Nat,row.getD j 0=y:=⟨(row.getD j 0).toNat,by omega⟩
   have hyn:y<n:=by omega
   have hyT:(y:Int)∈T.getD x []:=by rw [hr,←hy2];exact getD_mem hj
   have htop:=a1.top x hx
   have hwr:IntKind.i64.wrap (f x+1)=f x+1:=wrap_id (by omega) (by omega)
   have hql:(q'.map Int.ofNat).length=q'.length:=List.length_map ..
   simp+contextual(maxSteps:=1000000)(disch:=omega)only[↓Sd,↓So,↓Sk,↓den,↓denA,Sa,Sb,Sc,Se,O1.d,O2.d,O3.d,cmI,arI,envOf,putN,↓reduceIte,Nat.reduceLT,Nat.reduceSub,Nat.reduceAdd,Int.reduceAdd,Int.reduceEq,Int.reduceLT,Int.reduceLE,arr_pos,arr_neg,↓wpJoin,hy2,tab_len,tab_get hyn,tab_get hx,Int.toNat_natCast,tab_set',a2,hwr,hql]
   have hfx':0≤f' x:=by omega
   refine ⟨fun g=>?_,fun g=>?_⟩
   ·obtain ⟨v1,v2⟩:=a1.visit hx hfx' hyn g hm hyT (by rw [a2];exact a3)
    rw [a2] at v1 v2
    have hxy:¬x=y:=by rintro rfl;omega
    refine ⟨(fun k=>if k=y then f x+1 else f' k,q'++[y]),⟨rfl,by simp⟩,v1,by simp [hxy,a2],?_,?_,?_,?_,?_⟩
    ·intro k hk
     have:=a3 k hk
     simp only []
     split<;>omega
    ·intro z hz
     simp only []
     split
     ·omega
     ·rename_i hzy
      rcases List.mem_append.1 hz with h | h
      ·exact a4 z h
      ·exact absurd (List.mem_singleton.1 h) hzy
    ·intro k hk
     simp only []
     split
     ·omega
     ·rename_i hky
      rcases (mem_take_next hj).1 hk with h | h
      ·exact a5 k h
      ·exact absurd (by omega) hky
    ·simp only [List.length_append,List.length_singleton];omega
    ·simp only [];omega
   ·refine ⟨(f',q'),⟨rfl,rfl⟩,a1,a2,a3,a4,fun k hk=>?_,a6,a7⟩
    rcases (mem_take_next hj).1 hk with h | h
    ·exact a5 k h
    ·rw [show k=y by omega];simp only [];omega
  ·rintro ⟨f',q'⟩ ⟨a1,a2,a3,a4,a5,a6,a7⟩
   rw [List.take_length] at a5
   simp only at a1 a2 a3 a4 a5 a6 a7
   simp+contextual(maxSteps:=1000000)(disch:=omega)only[↓Sd,↓So,↓Sk,↓den,↓denA,Sa,Sb,Sc,Se,O1.d,O2.d,O3.d,cmI,arI,envOf,putN,↓reduceIte,Nat.reduceLT,Nat.reduceSub,Nat.reduceAdd,Int.reduceAdd,Int.reduceEq,Int.reduceLT,Int.reduceLE,arr_pos,arr_neg,]
   refine ⟨_,?_,f',q',⟨rfl,rfl⟩,⟨a1.ge,a1.zero,a1.pre,a1.inq,a1.sorted,fun a ha h1 h2 _ k hk=>?_,a1.top⟩,fun z q'' hq k hk=>?_,by omega,rfl⟩
   ·omega
   ·by_cases hax:a=x
    ·subst hax
     rw [hr] at hk
     have h3:=hrow _ hk
     have h4:=a3 k (by omega)
     exact ⟨a5 k hk,by omega⟩
    ·exact a1.closed a ha h1 h2 hax k hk
   ·have h3:=a3 k hk
    have h4:=a4 z (by rw [hq];exact List.mem_cons_self ..)
    omega
theorem Rch.one {T:List (List Int)} {a:Nat}:Rch T [(a:Int)] a:=.base (by simp)
def eqv (T:List (List Int)) (i k:Nat):Prop:=Rch T [(i:Int)] k∧Rch T [(k:Int)] i
noncomputable def cmp (T:List (List Int)):Nat→Nat→Int
 | 0,_ => -1
 | i+1,k=>if 0≤cmp T i k then cmp T i k else if dB (eqv T i k)=true then (i:Int) else -1
theorem dst_le {T:List (List Int)} {F:List Int} {d k:Nat}:Lay T F d k↔0≤dst T F k∧dst T F k≤d:=by
 unfold dst
 constructor
 ·intro h
  have hh:∃d,Lay T F d k:=⟨d,h⟩
  rw [dif_pos hh]
  obtain ⟨b1,b2⟩:=Classical.choose_spec (least hh)
  generalize Classical.choose (least hh)=e at b1 b2
  have:¬d<e:=fun g=>b2 d g h
  omega
 ·rintro ⟨h1,h2⟩
  by_cases g:∃d,Lay T F d k
  ·rw [dif_pos g] at h1 h2
   obtain ⟨b1,-⟩:=Classical.choose_spec (least g)
   generalize Classical.choose (least g)=e at b1 h1 h2
   exact b1.up (by omega)
  ·rw [dif_neg g] at h1;omega
noncomputable def ecc (s:Sy):List Int:=tab (dst (steps s) [num s.1 (fst0 s.1)]) (szn s.1)
abbrev RD:Ty:=P (L U) I
def Byt (b:List Int):Prop:=∀x∈b,0≤x∧x≤255
def Rdy (b:List Int):Prop:=Byt b∧b.length≤2000
theorem Byt.get {b:List Int} (h:Byt b) (i:Nat):0≤b.getD i 0∧b.getD i 0≤255:=by
 by_cases hi:i<b.length
 ·exact h _ (getD_mem hi)
 ·rw [List.getD_eq_getElem?_getD,List.getElem?_eq_none (by omega)];simp
theorem xor_bd {x y:Int} (hx:0≤x∧x<1099511627776) (hy:0≤y∧y<1099511627776):0≤IntKind.i64.wrap ((BitVec.ofInt IntKind.i64.bits x ^^^ BitVec.ofInt IntKind.i64.bits y).toNat:Int):=by
 have e:∀z:Int,0≤z∧z<1099511627776→(BitVec.ofInt IntKind.i64.bits z).toNat<2 ^ 40:=by
  intro z hz
  rw [BitVec.toNat_ofInt]
  show Int.toNat (z % (2:Int) ^ 64)<2 ^ 40
  omega
 have h:(BitVec.ofInt IntKind.i64.bits x ^^^ BitVec.ofInt IntKind.i64.bits y).toNat<2 ^ 40:=by
  rw [BitVec.toNat_xor]
  exact Nat.xor_lt_two_pow (e x hx) (e y hy)
 rw [wrap_id (by omega) (by omega)]
 omega
theorem D_pick (b:List Int) (p n:Int) (hb:Rdy b) (hp:0≤p∧p≤1000000000) {Q:List AV→Prop} (h:∀v:Int,0≤v→(1≤n→v<n)→Q [⟨I,v⟩,⟨RD,(b,p+1)⟩]):mc.C f_spec_l40Rd_pick [⟨RD,(b,p)⟩,⟨I,n⟩] Q:=by
 refine mc.c_of F_spec_l40Rd_pick ?_
 have hl:=hb.2
 simp+contextual(maxSteps:=1000000)(disch:=omega)only[↓Sd,↓So,↓Sk,↓den,↓denA,Sa,Sb,Sc,Se,O1.d,O2.d,O3.d,cmI,arI,envOf,putN,↓reduceIte,Nat.reduceLT,Nat.reduceSub,Nat.reduceAdd,Int.reduceAdd,Int.reduceEq,Int.reduceLT,Int.reduceLE,arr_pos,arr_neg,tr_spec_l40Rd_pick]
 refine ⟨fun g=>h 0 (by omega) (by omega),fun g=>⟨fun g2=>h 0 (by omega) (by omega),fun g2=>?_⟩⟩
 have hn:1≤n:=by omega
 have hlb:0<(b.length:Int):=by omega
 refine ⟨fun g3=>?_,fun g3=>?_⟩
 ·have h1:=hb.1.get p.toNat
  rw [wrap_id (by omega) (by omega),Int.tmod_eq_emod_of_nonneg h1.1]
  exact h _ (Int.emod_nonneg _ (by omega)) fun _=>Int.emod_lt_of_pos _ (by omega)
 ·have a1:=Int.emod_nonneg p (show (b.length:Int)≠0 by omega)
  have a2:=Int.emod_lt_of_pos p hlb
  have a3:=Int.emod_nonneg (p * 7+3) (show (b.length:Int)≠0 by omega)
  have a4:=Int.emod_lt_of_pos (p * 7+3) hlb
  have a5:=Int.ediv_nonneg hp.1 (Int.le_of_lt hlb)
  have a6:=Int.ediv_le_self (b.length:Int) hp.1
  have h1:=hb.1.get (p % (b.length:Int)).toNat
  have h2:=hb.1.get ((p * 7+3) % (b.length:Int)).toNat
  refine ⟨a1,a2,a3,a4,?_⟩
  generalize b.getD (p % (b.length:Int)).toNat 0=x1 at *
  generalize b.getD ((p * 7+3) % (b.length:Int)).toNat 0=x2 at *
  generalize p / (b.length:Int)=x3 at *
  rw [wrap_id (x:=x1) (by omega) (by omega),wrap_id (x:=x2) (by omega) (by omega),wrap_id (x:=x3) (by omega) (by omega),wrap_id (x:=x1 * 131) (by omega) (by omega),wrap_id (x:=x2 * 1117) (by omega) (by omega),wrap_id (x:=x1 * 131+x2 * 1117) (by omega) (by omega),wrap_id (x:=x1 * 131+x2 * 1117+p * 29) (by omega) (by omega),wrap_id (x:=x3 * 53) (by omega) (by omega),wrap_id (x:=x1 * 131+x2 * 1117+p * 29+x3 * 53) (by omega) (by omega)]
  obtain ⟨y,hy⟩:∃y,x1 * 131+x2 * 1117+p * 29+x3 * 53=y:=⟨_,rfl⟩
  have hyb:0≤y∧y<1099511627776:=by omega
  rw [hy,Int.tdiv_eq_ediv_of_nonneg hyb.1,wrap_id (x:=y / 64) (by omega) (by omega)]
  have h4:=xor_bd hyb (y:=y / 64) (by omega)
  rw [Int.tmod_eq_emod_of_nonneg h4]
  exact h _ (Int.emod_nonneg _ (by omega)) fun _=>Int.emod_lt_of_pos _ (by omega)
theorem D_pick1 (b:List Int) (p n:Int) (hb:Rdy b) (hp:0≤p∧p≤1000000000) (hn:1≤n) {Q:List AV→Prop} (h:∀v:Int,0≤v→v<n→Q [⟨I,v⟩,⟨RD,(b,p+1)⟩]):mc.C f_spec_l40Rd_pick [⟨RD,(b,p)⟩,⟨I,n⟩] Q:=D_pick b p n hb hp fun v h0 h1=>h v h0 (h1 hn)
theorem D_num (b:List Int) (p:Int) (l:List Int) (hb:Rdy b) (hp:0≤p∧p≤1000000000) (hl:l≠[]) (hl2:l.length≤1048576) {Q:List AV→Prop} (h:∀v:Int,v∈l→Q [⟨I,v⟩,⟨RD,(b,p+1)⟩]):mc.C f_spec_l40Rd_num [⟨RD,(b,p)⟩,⟨L I,l⟩] Q:=by
 have hl1:0<l.length:=List.length_pos_iff.2 hl
 refine mc.c_of F_spec_l40Rd_num ?_
 simp+contextual(maxSteps:=1000000)(disch:=omega)only[↓Sd,↓So,↓Sk,↓den,↓denA,Sa,Sb,Sc,Se,O1.d,O2.d,O3.d,cmI,arI,envOf,putN,↓reduceIte,Nat.reduceLT,Nat.reduceSub,Nat.reduceAdd,Int.reduceAdd,Int.reduceEq,Int.reduceLT,Int.reduceLE,arr_pos,arr_neg,tr_spec_l40Rd_num]
 refine D_pick1 b p _ hb hp (by omega) fun v h0 h1=>?_
 simp+contextual(maxSteps:=1000000)(disch:=omega)only[↓Sd,↓So,↓Sk,↓den,↓denA,Sa,Sb,Sc,Se,O1.d,O2.d,O3.d,cmI,arI,envOf,putN,↓reduceIte,Nat.reduceLT,Nat.reduceSub,Nat.reduceAdd,Int.reduceAdd,Int.reduceEq,Int.reduceLT,Int.reduceLE,arr_pos,arr_neg,]
 exact h _ (getD_mem (by omega))
theorem D_open (b:List Int) (hb:Byt b) (hl:Lt63 b) {Q:List AV→Prop} (h:∀b',Rdy b'→Q [⟨RD,(b',0)⟩]):mc.C f_spec_l40Open [⟨L U,b⟩] Q:=by
 unfold Lt63 at hl
 refine mc.c_of F_spec_l40Open ?_
 simp+contextual(maxSteps:=1000000)(disch:=omega)only[↓Sd,↓So,↓Sk,↓den,↓denA,Sa,Sb,Sc,Se,O1.d,O2.d,O3.d,cmI,arI,envOf,putN,↓reduceIte,Nat.reduceLT,Nat.reduceSub,Nat.reduceAdd,Int.reduceAdd,Int.reduceEq,Int.reduceLT,Int.reduceLE,arr_pos,arr_neg,↓wpJoin,tr_spec_l40Open]
 refine ⟨fun g=>?_,fun g=>h b ⟨hb,by omega⟩⟩
 refine h _ ⟨fun x hx=>hb x ?_,?_⟩
 ·exact List.mem_of_mem_take hx
 ·rw [List.length_take];omega
theorem D_l1Number (b:List Int) (p:Int) (hb:Rdy b) (hp:0≤p∧p≤900000000) {Q:List AV→Prop} (h:∀v p':Int,p≤p'∧p'≤p+6→Q [⟨I,v⟩,⟨RD,(b,p')⟩]):mc.C f_spec_l1Number [⟨RD,(b,p)⟩] Q:=by
 refine mc.c_of F_spec_l1Number ?_
 simp+contextual(maxSteps:=1000000)(disch:=omega)only[↓Sd,↓So,↓Sk,↓den,↓denA,Sa,Sb,Sc,Se,O1.d,O2.d,O3.d,cmI,arI,envOf,putN,↓reduceIte,Nat.reduceLT,Nat.reduceSub,Nat.reduceAdd,Int.reduceAdd,Int.reduceEq,Int.reduceLT,Int.reduceLE,arr_pos,arr_neg,tr_spec_l1Number]
 refine D_pick1 _ _ _ hb (by omega) (by omega) fun v1 v10 v11=>?_;simp+contextual(maxSteps:=1000000)(disch:=omega)only[↓Sd,↓So,↓Sk,↓den,↓denA,Sa,Sb,Sc,Se,O1.d,O2.d,O3.d,cmI,arI,envOf,putN,↓reduceIte,Nat.reduceLT,Nat.reduceSub,Nat.reduceAdd,Int.reduceAdd,Int.reduceEq,Int.reduceLT,Int.reduceLE,arr_pos,arr_neg,]
 refine D_pick1 _ _ _ hb (by omega) (by omega) fun v2 v20 v21=>?_;simp+contextual(maxSteps:=1000000)(disch:=omega)only[↓Sd,↓So,↓Sk,↓den,↓denA,Sa,Sb,Sc,Se,O1.d,O2.d,O3.d,cmI,arI,envOf,putN,↓reduceIte,Nat.reduceLT,Nat.reduceSub,Nat.reduceAdd,Int.reduceAdd,Int.reduceEq,Int.reduceLT,Int.reduceLE,arr_pos,arr_neg,]
 refine D_pick1 _ _ _ hb (by omega) (by omega) fun v3 v30 v31=>?_;simp+contextual(maxSteps:=1000000)(disch:=omega)only[↓Sd,↓So,↓Sk,↓den,↓denA,Sa,Sb,Sc,Se,O1.d,O2.d,O3.d,cmI,arI,envOf,putN,↓reduceIte,Nat.reduceLT,Nat.reduceSub,Nat.reduceAdd,Int.reduceAdd,Int.reduceEq,Int.reduceLT,Int.reduceLE,arr_pos,arr_neg,]
 refine D_pick1 _ _ _ hb (by omega) (by omega) fun v4 v40 v41=>?_;simp+contextual(maxSteps:=1000000)(disch:=omega)only[↓Sd,↓So,↓Sk,↓den,↓denA,Sa,Sb,Sc,Se,O1.d,O2.d,O3.d,cmI,arI,envOf,putN,↓reduceIte,Nat.reduceLT,Nat.reduceSub,Nat.reduceAdd,Int.reduceAdd,Int.reduceEq,Int.reduceLT,Int.reduceLE,arr_pos,arr_neg,]
 refine D_pick1 _ _ _ hb (by omega) (by omega) fun v5 v50 v51=>?_;simp+contextual(maxSteps:=1000000)(disch:=omega)only[↓Sd,↓So,↓Sk,↓den,↓denA,Sa,Sb,Sc,Se,O1.d,O2.d,O3.d,cmI,arI,envOf,putN,↓reduceIte,Nat.reduceLT,Nat.reduceSub,Nat.reduceAdd,Int.reduceAdd,Int.reduceEq,Int.reduceLT,Int.reduceLE,arr_pos,arr_neg,]
 refine D_num _ _ _ hb (by omega) (by simp) (by simp) fun v v0=>?_;simp+contextual(maxSteps:=1000000)(disch:=omega)only[↓Sd,↓So,↓Sk,↓den,↓denA,Sa,Sb,Sc,Se,O1.d,O2.d,O3.d,cmI,arI,envOf,putN,↓reduceIte,Nat.reduceLT,Nat.reduceSub,Nat.reduceAdd,Int.reduceAdd,Int.reduceEq,Int.reduceLT,Int.reduceLE,arr_pos,arr_neg,]
 exact h v _ (by omega)
theorem D_l1Pick (b:List Int) (p:Int) (ks:List Int) (kind:Int) (hb:Rdy b) (hp:0≤p∧p≤900000000) (hk:0<ks.length) (hk2:ks.length≤1000) {Q:List AV→Prop} (h:∀v:Int,-1≤v∧v<ks.length→Q [⟨I,v⟩,⟨RD,(b,p+1)⟩]):mc.C f_spec_l1Pick [⟨RD,(b,p)⟩,⟨L I,ks⟩,⟨I,kind⟩] Q:=by
 refine mc.c_of F_spec_l1Pick ?_
 simp+contextual(maxSteps:=1000000)(disch:=omega)only[↓Sd,↓So,↓Sk,↓den,↓denA,Sa,Sb,Sc,Se,O1.d,O2.d,O3.d,cmI,arI,envOf,putN,↓reduceIte,Nat.reduceLT,Nat.reduceSub,Nat.reduceAdd,Int.reduceAdd,Int.reduceEq,Int.reduceLT,Int.reduceLE,arr_pos,arr_neg,tr_spec_l1Pick]
 refine D_pick1 _ _ _ hb (by omega) (by omega) fun a a0 a1=>?_;simp+contextual(maxSteps:=1000000)(disch:=omega)only[↓Sd,↓So,↓Sk,↓den,↓denA,Sa,Sb,Sc,Se,O1.d,O2.d,O3.d,cmI,arI,envOf,putN,↓reduceIte,Nat.reduceLT,Nat.reduceSub,Nat.reduceAdd,Int.reduceAdd,Int.reduceEq,Int.reduceLT,Int.reduceLE,arr_pos,arr_neg,]
 refine mc.lp_for Unit (fun i _=>[⟨L I,ks⟩,⟨I,kind⟩,⟨I,a⟩,⟨I,(i:Int)⟩,⟨L U,b⟩,⟨I,p+1⟩]) (fun _ _=>True) ks.length 0 () _ rfl (Nat.zero_le _) trivial ?_ ?_
 ·rintro i - hi -
  have a1:=Int.emod_nonneg (a+(i:Int)) (show (ks.length:Int)≠0 by omega)
  have a2:=Int.emod_lt_of_pos (a+(i:Int)) (show 0<(ks.length:Int) by omega)
  simp+contextual(maxSteps:=1000000)(disch:=omega)only[↓Sd,↓So,↓Sk,↓den,↓denA,Sa,Sb,Sc,Se,O1.d,O2.d,O3.d,cmI,arI,envOf,putN,↓reduceIte,Nat.reduceLT,Nat.reduceSub,Nat.reduceAdd,Int.reduceAdd,Int.reduceEq,Int.reduceLT,Int.reduceLE,arr_pos,arr_neg,]
  exact fun _=>h _ (by omega)
 ·rintro - -
  simp+contextual(maxSteps:=1000000)(disch:=omega)only[↓Sd,↓So,↓Sk,↓den,↓denA,Sa,Sb,Sc,Se,O1.d,O2.d,O3.d,cmI,arI,envOf,putN,↓reduceIte,Nat.reduceLT,Nat.reduceSub,Nat.reduceAdd,Int.reduceAdd,Int.reduceEq,Int.reduceLT,Int.reduceLE,arr_pos,arr_neg,]
  exact h _ (by omega)
theorem C_spec_l2VarOf (n:Int) (Q:List AV→Prop):mc.C f_spec_l2VarOf [⟨I,n⟩] Q=Q [⟨I,1⟩,⟨I,n⟩,⟨I,0⟩,⟨I,0⟩]:=Mc.Ends.c (mc.ends F_spec_l2VarOf (by simp+contextual(maxSteps:=1000000)(disch:=omega)only[↓Sd,↓So,↓Sk,↓den,↓denA,Sa,Sb,Sc,Se,O1.d,O2.d,O3.d,cmI,arI,envOf,putN,↓reduceIte,Nat.reduceLT,Nat.reduceSub,Nat.reduceAdd,Int.reduceAdd,Int.reduceEq,Int.reduceLT,Int.reduceLE,arr_pos,arr_neg,tr_spec_l2VarOf]))
theorem C_spec_l2Const (n:Int) (Q:List AV→Prop):mc.C f_spec_l2Const [⟨I,n⟩] Q=Q [⟨I,0⟩,⟨I,n⟩,⟨I,0⟩,⟨I,0⟩]:=Mc.Ends.c (mc.ends F_spec_l2Const (by simp+contextual(maxSteps:=1000000)(disch:=omega)only[↓Sd,↓So,↓Sk,↓den,↓denA,Sa,Sb,Sc,Se,O1.d,O2.d,O3.d,cmI,arI,envOf,putN,↓reduceIte,Nat.reduceLT,Nat.reduceSub,Nat.reduceAdd,Int.reduceAdd,Int.reduceEq,Int.reduceLT,Int.reduceLE,arr_pos,arr_neg,tr_spec_l2Const]))
theorem D_l2Cond (b:List Int) (p:Int) (v:Vr) (at_:Int) (hb:Rdy b) (hp:0≤p∧p≤900000000) {Q:List AV→Prop} (h:∀(l:List Tm) (p':Int),p≤p'∧p'≤p+3→l.length≤4→Q [⟨L T4,l⟩,⟨RD,(b,p')⟩]):mc.C f_spec_l2Cond [⟨RD,(b,p)⟩,⟨I,v.1⟩,⟨I,v.2.1⟩,⟨I,v.2.2⟩,⟨I,at_⟩] Q:=by
 refine mc.c_of F_spec_l2Cond ?_
 simp+contextual(maxSteps:=1000000)(disch:=omega)only[↓Sd,↓So,↓Sk,↓den,↓denA,Sa,Sb,Sc,Se,O1.d,O2.d,O3.d,cmI,arI,envOf,putN,↓reduceIte,Nat.reduceLT,Nat.reduceSub,Nat.reduceAdd,Int.reduceAdd,Int.reduceEq,Int.reduceLT,Int.reduceLE,arr_pos,arr_neg,tr_spec_l2Cond]
 refine D_pick _ _ _ hb (by omega) fun n _ _=>?_
 simp+contextual(maxSteps:=1000000)(disch:=omega)only[↓Sd,↓So,↓Sk,↓den,↓denA,Sa,Sb,Sc,Se,O1.d,O2.d,O3.d,cmI,arI,envOf,putN,↓reduceIte,Nat.reduceLT,Nat.reduceSub,Nat.reduceAdd,Int.reduceAdd,Int.reduceEq,Int.reduceLT,Int.reduceLE,arr_pos,arr_neg,↓wpJoin,]
 refine D_num _ _ _ hb (by omega) (by simp) (by simp) fun o o0=>?_;simp+contextual(maxSteps:=1000000)(disch:=omega)only[↓Sd,↓So,↓Sk,↓den,↓denA,Sa,Sb,Sc,Se,O1.d,O2.d,O3.d,cmI,arI,envOf,putN,↓reduceIte,Nat.reduceLT,Nat.reduceSub,Nat.reduceAdd,Int.reduceAdd,Int.reduceEq,Int.reduceLT,Int.reduceLE,arr_pos,arr_neg,]
 simp+contextual(maxSteps:=1000000)(disch:=omega)only[↓Sd,↓So,↓Sk,↓den,↓denA,Sa,Sb,Sc,Se,O1.d,O2.d,O3.d,cmI,arI,envOf,putN,↓reduceIte,Nat.reduceLT,Nat.reduceSub,Nat.reduceAdd,Int.reduceAdd,Int.reduceEq,Int.reduceLT,Int.reduceLE,arr_pos,arr_neg,↓wpJoin,C_spec_l2VarOf,C_spec_l2Const]
 refine D_pick1 _ _ _ hb (by omega) (by omega) fun k k0 k1=>?_;simp+contextual(maxSteps:=1000000)(disch:=omega)only[↓Sd,↓So,↓Sk,↓den,↓denA,Sa,Sb,Sc,Se,O1.d,O2.d,O3.d,cmI,arI,envOf,putN,↓reduceIte,Nat.reduceLT,Nat.reduceSub,Nat.reduceAdd,Int.reduceAdd,Int.reduceEq,Int.reduceLT,Int.reduceLE,arr_pos,arr_neg,]
 exact ⟨fun _=>h _ _ (by omega) (by simp),fun _=>h _ _ (by omega) (by simp)⟩
def mvT (t:Tm) (n:Int):Tm:=if 2≤t.1 then (t.1,0,IntKind.i64.wrap (t.2.2.1+n),IntKind.i64.wrap (t.2.2.2+n)) else t
theorem C_spec_l1Moved (t:Tm) (n:Int) (Q:List AV→Prop):mc.C f_spec_l1Moved [⟨I,t.1⟩,⟨I,t.2.1⟩,⟨I,t.2.2.1⟩,⟨I,t.2.2.2⟩,⟨I,n⟩] Q=Q [⟨I,(mvT t n).1⟩,⟨I,(mvT t n).2.1⟩,⟨I,(mvT t n).2.2.1⟩,⟨I,(mvT t n).2.2.2⟩]:=by
 refine Mc.Ends.c (mc.ends F_spec_l1Moved ?_)
 unfold mvT
 by_cases g:2≤t.1
 ·rw [if_pos g]
  simp+contextual(maxSteps:=1000000)(disch:=omega)only[↓Sd,↓So,↓Sk,↓den,↓denA,Sa,Sb,Sc,Se,O1.d,O2.d,O3.d,cmI,arI,envOf,putN,↓reduceIte,Nat.reduceLT,Nat.reduceSub,Nat.reduceAdd,Int.reduceAdd,Int.reduceEq,Int.reduceLT,Int.reduceLE,arr_pos,arr_neg,tr_spec_l1Moved]
 ·rw [if_neg g]
  simp+contextual(maxSteps:=1000000)(disch:=omega)only[↓Sd,↓So,↓Sk,↓den,↓denA,Sa,Sb,Sc,Se,O1.d,O2.d,O3.d,cmI,arI,envOf,putN,↓reduceIte,Nat.reduceLT,Nat.reduceSub,Nat.reduceAdd,Int.reduceAdd,Int.reduceEq,Int.reduceLT,Int.reduceLE,arr_pos,arr_neg,tr_spec_l1Moved]
theorem C_spec_TermsValid (l:List Tm) (vars:Int) (hl:Few l) (Q:List AV→Prop):mc.C f_spec_TermsValid [⟨L T4,l⟩,⟨I,vars⟩] Q=Q [⟨B,decide (((kdsOf l vars).length:Int) > 0)⟩]:=by
 refine Mc.Ends.c (mc.ends F_spec_TermsValid ?_)
 simp+contextual(maxSteps:=1000000)(disch:=omega)only[↓Sd,↓So,↓Sk,↓den,↓denA,Sa,Sb,Sc,Se,O1.d,O2.d,O3.d,cmI,arI,envOf,putN,↓reduceIte,Nat.reduceLT,Nat.reduceSub,Nat.reduceAdd,Int.reduceAdd,Int.reduceEq,Int.reduceLT,Int.reduceLE,arr_pos,arr_neg,tr_spec_TermsValid,C_spec_KindsOf l vars hl]
theorem D_Joined (o:Int) (l m:List Tm) (vars:Int) (hl:l.length≤1000) (hm:m.length≤1000) {Q:List AV→Prop} (h:∀(r:List Tm),r.length≤l.length+m.length+1→Q [⟨L T4,r⟩]):mc.C f_spec_Joined [⟨I,o⟩,⟨L T4,l⟩,⟨L T4,m⟩,⟨I,vars⟩] Q:=by
 have h1:Few l:=by unfold Few;omega
 have h2:Few m:=by unfold Few;omega
 refine mc.c_of F_spec_Joined ?_
 simp+contextual(maxSteps:=1000000)(disch:=omega)only[↓Sd,↓So,↓Sk,↓den,↓denA,Sa,Sb,Sc,Se,O1.d,O2.d,O3.d,cmI,arI,envOf,putN,↓reduceIte,Nat.reduceLT,Nat.reduceSub,Nat.reduceAdd,Int.reduceAdd,Int.reduceEq,Int.reduceLT,Int.reduceLE,arr_pos,arr_neg,tr_spec_Joined,C_spec_TermsValid l vars h1,C_spec_TermsValid m vars h2]
 refine ⟨fun _=>h _ (by simp),fun _=>⟨fun _=>h _ (by simp),fun _=>?_⟩⟩
 refine mc.lp_for (List Tm) (fun i s=>[⟨I,o⟩,⟨L T4,l⟩,⟨L T4,m⟩,⟨I,vars⟩,⟨I,(i:Int)⟩,⟨L T4,s⟩]) (fun i s=>s.length=i) l.length 0 [] _ rfl (Nat.zero_le _) rfl ?_ ?_
 ·rintro i s hi hs
  simp+contextual(maxSteps:=1000000)(disch:=omega)only[↓Sd,↓So,↓Sk,↓den,↓denA,Sa,Sb,Sc,Se,O1.d,O2.d,O3.d,cmI,arI,envOf,putN,↓reduceIte,Nat.reduceLT,Nat.reduceSub,Nat.reduceAdd,Int.reduceAdd,Int.reduceEq,Int.reduceLT,Int.reduceLE,arr_pos,arr_neg,]
  omega
 rintro s hs
 simp+contextual(maxSteps:=1000000)(disch:=omega)only[↓Sd,↓So,↓Sk,↓den,↓denA,Sa,Sb,Sc,Se,O1.d,O2.d,O3.d,cmI,arI,envOf,putN,↓reduceIte,Nat.reduceLT,Nat.reduceSub,Nat.reduceAdd,Int.reduceAdd,Int.reduceEq,Int.reduceLT,Int.reduceLE,arr_pos,arr_neg,↓wpJoin,]
 refine mc.lp_for (List Tm) (fun i s=>[⟨I,o⟩,⟨L T4,l⟩,⟨L T4,m⟩,⟨I,vars⟩,⟨I,(i:Int)⟩,⟨L T4,s⟩]) (fun i s=>s.length≤l.length+i) m.length 0 s _ rfl (Nat.zero_le _) (by omega) ?_ ?_
 ·rintro i s hi hs
  simp+contextual(maxSteps:=1000000)(disch:=omega)only[↓Sd,↓So,↓Sk,↓den,↓denA,Sa,Sb,Sc,Se,O1.d,O2.d,O3.d,cmI,arI,envOf,putN,↓reduceIte,Nat.reduceLT,Nat.reduceSub,Nat.reduceAdd,Int.reduceAdd,Int.reduceEq,Int.reduceLT,Int.reduceLE,arr_pos,arr_neg,C_spec_l1One,C_spec_l1Moved]
  refine ⟨fun _=>by omega,fun g=>?_⟩
  have hf:Few (s++[((7:Int),(0:Int),(l.length:Int) - 1,(s.length:Int) - 1)]):=by unfold Few;simp only [List.length_append,List.length_singleton];omega
  simp+contextual(maxSteps:=1000000)(disch:=omega)only[↓Sd,↓So,↓Sk,↓den,↓denA,Sa,Sb,Sc,Se,O1.d,O2.d,O3.d,cmI,arI,envOf,putN,↓reduceIte,Nat.reduceLT,Nat.reduceSub,Nat.reduceAdd,Int.reduceAdd,Int.reduceEq,Int.reduceLT,Int.reduceLE,arr_pos,arr_neg,C_spec_TermsValid _ vars hf]
  exact ⟨fun _=>h _ (by simp),fun _=>h _ (by simp only [List.length_append,List.length_singleton];omega)⟩
 ·rintro s hs
  simp+contextual(maxSteps:=1000000)(disch:=omega)only[↓Sd,↓So,↓Sk,↓den,↓denA,Sa,Sb,Sc,Se,O1.d,O2.d,O3.d,cmI,arI,envOf,putN,↓reduceIte,Nat.reduceLT,Nat.reduceSub,Nat.reduceAdd,Int.reduceAdd,Int.reduceEq,Int.reduceLT,Int.reduceLE,arr_pos,arr_neg,]
  refine ⟨fun _=>h _ (by simp),fun _=>?_⟩
  have hf:Few (s++[(o,(0:Int),(l.length:Int) - 1,(s.length:Int) - 1)]):=by unfold Few;simp only [List.length_append,List.length_singleton];omega
  simp+contextual(maxSteps:=1000000)(disch:=omega)only[↓Sd,↓So,↓Sk,↓den,↓denA,Sa,Sb,Sc,Se,O1.d,O2.d,O3.d,cmI,arI,envOf,putN,↓reduceIte,Nat.reduceLT,Nat.reduceSub,Nat.reduceAdd,Int.reduceAdd,Int.reduceEq,Int.reduceLT,Int.reduceLE,arr_pos,arr_neg,C_spec_TermsValid _ vars hf]
  exact ⟨fun _=>h _ (by simp),fun _=>h _ (by simp only [List.length_append,List.length_singleton];omega)⟩
theorem D_l2When (b:List Int) (p:Int) (vs:List Vr) (hb:Rdy b) (hp:0≤p∧p≤800000000) (hv:1≤vs.length) (hv2:vs.length≤1000) {Q:List AV→Prop} (h:∀(l:List Tm) (p':Int),p≤p'∧p'≤p+10→l.length≤9→Q [⟨L T4,l⟩,⟨RD,(b,p')⟩]):mc.C f_spec_l2When [⟨RD,(b,p)⟩,⟨L V3,vs⟩] Q:=by
 refine mc.c_of F_spec_l2When ?_
 simp+contextual(maxSteps:=1000000)(disch:=omega)only[↓Sd,↓So,↓Sk,↓den,↓denA,Sa,Sb,Sc,Se,O1.d,O2.d,O3.d,cmI,arI,envOf,putN,↓reduceIte,Nat.reduceLT,Nat.reduceSub,Nat.reduceAdd,Int.reduceAdd,Int.reduceEq,Int.reduceLT,Int.reduceLE,arr_pos,arr_neg,tr_spec_l2When]
 refine D_pick1 _ _ _ hb (by omega) (by omega) fun i i0 i1=>?_;simp+contextual(maxSteps:=1000000)(disch:=omega)only[↓Sd,↓So,↓Sk,↓den,↓denA,Sa,Sb,Sc,Se,O1.d,O2.d,O3.d,cmI,arI,envOf,putN,↓reduceIte,Nat.reduceLT,Nat.reduceSub,Nat.reduceAdd,Int.reduceAdd,Int.reduceEq,Int.reduceLT,Int.reduceLE,arr_pos,arr_neg,]
 refine D_l2Cond _ _ (vs.getD i.toNat (0,0,0)) _ hb (by omega) fun l p1 hp1 hl=>?_
 simp+contextual(maxSteps:=1000000)(disch:=omega)only[↓Sd,↓So,↓Sk,↓den,↓denA,Sa,Sb,Sc,Se,O1.d,O2.d,O3.d,cmI,arI,envOf,putN,↓reduceIte,Nat.reduceLT,Nat.reduceSub,Nat.reduceAdd,Int.reduceAdd,Int.reduceEq,Int.reduceLT,Int.reduceLE,arr_pos,arr_neg,↓wpJoin,]
 refine D_pick1 _ _ _ hb (by omega) (by omega) fun k k0 k1=>?_;simp+contextual(maxSteps:=1000000)(disch:=omega)only[↓Sd,↓So,↓Sk,↓den,↓denA,Sa,Sb,Sc,Se,O1.d,O2.d,O3.d,cmI,arI,envOf,putN,↓reduceIte,Nat.reduceLT,Nat.reduceSub,Nat.reduceAdd,Int.reduceAdd,Int.reduceEq,Int.reduceLT,Int.reduceLE,arr_pos,arr_neg,]
 refine ⟨fun _=>?_,fun _=>h _ _ (by omega) (by omega)⟩
 refine D_pick1 _ _ _ hb (by omega) (by omega) fun j j0 j1=>?_;simp+contextual(maxSteps:=1000000)(disch:=omega)only[↓Sd,↓So,↓Sk,↓den,↓denA,Sa,Sb,Sc,Se,O1.d,O2.d,O3.d,cmI,arI,envOf,putN,↓reduceIte,Nat.reduceLT,Nat.reduceSub,Nat.reduceAdd,Int.reduceAdd,Int.reduceEq,Int.reduceLT,Int.reduceLE,arr_pos,arr_neg,]
 refine D_num _ _ _ hb (by omega) (by simp) (by simp) fun o o0=>?_;simp+contextual(maxSteps:=1000000)(disch:=omega)only[↓Sd,↓So,↓Sk,↓den,↓denA,Sa,Sb,Sc,Se,O1.d,O2.d,O3.d,cmI,arI,envOf,putN,↓reduceIte,Nat.reduceLT,Nat.reduceSub,Nat.reduceAdd,Int.reduceAdd,Int.reduceEq,Int.reduceLT,Int.reduceLE,arr_pos,arr_neg,]
 refine D_l2Cond _ _ (vs.getD j.toNat (0,0,0)) _ hb (by omega) fun m p2 hp2 hm=>?_
 simp+contextual(maxSteps:=1000000)(disch:=omega)only[↓Sd,↓So,↓Sk,↓den,↓denA,Sa,Sb,Sc,Se,O1.d,O2.d,O3.d,cmI,arI,envOf,putN,↓reduceIte,Nat.reduceLT,Nat.reduceSub,Nat.reduceAdd,Int.reduceAdd,Int.reduceEq,Int.reduceLT,Int.reduceLE,arr_pos,arr_neg,]
 refine D_Joined _ _ _ _ (by omega) (by omega) fun r hr=>?_
 simp+contextual(maxSteps:=1000000)(disch:=omega)only[↓Sd,↓So,↓Sk,↓den,↓denA,Sa,Sb,Sc,Se,O1.d,O2.d,O3.d,cmI,arI,envOf,putN,↓reduceIte,Nat.reduceLT,Nat.reduceSub,Nat.reduceAdd,Int.reduceAdd,Int.reduceEq,Int.reduceLT,Int.reduceLE,arr_pos,arr_neg,↓wpJoin,]
 exact h _ _ (by omega) (by omega)
theorem D_l1Terms (b:List Int) (p vars kind most:Int) (hb:Rdy b) (hp:0≤p∧p≤800000000) (hv:0≤vars∧vars≤5) (hm:1≤most∧most≤12) {Q:List AV→Prop} (h:∀(l:List Tm) (p':Int),p≤p'∧p'≤p+400→1≤l.length→l.length≤16→Q [⟨L T4,l⟩,⟨RD,(b,p')⟩]):mc.C f_spec_l1Terms [⟨RD,(b,p)⟩,⟨I,vars⟩,⟨I,kind⟩,⟨I,most⟩] Q:=by
 refine mc.c_of F_spec_l1Terms ?_
 simp+contextual(maxSteps:=1000000)(disch:=omega)only[↓Sd,↓So,↓Sk,↓den,↓denA,Sa,Sb,Sc,Se,O1.d,O2.d,O3.d,cmI,arI,envOf,putN,↓reduceIte,Nat.reduceLT,Nat.reduceSub,Nat.reduceAdd,Int.reduceAdd,Int.reduceEq,Int.reduceLT,Int.reduceLE,arr_pos,arr_neg,tr_spec_l1Terms]
 refine D_pick1 _ _ _ hb (by omega) (by omega) fun n n0 n1=>?_;simp+contextual(maxSteps:=1000000)(disch:=omega)only[↓Sd,↓So,↓Sk,↓den,↓denA,Sa,Sb,Sc,Se,O1.d,O2.d,O3.d,cmI,arI,envOf,putN,↓reduceIte,Nat.reduceLT,Nat.reduceSub,Nat.reduceAdd,Int.reduceAdd,Int.reduceEq,Int.reduceLT,Int.reduceLE,arr_pos,arr_neg,]
 obtain ⟨N,hN⟩:∃N:Nat,n=N:=⟨n.toNat,by omega⟩
 subst hN
 refine mc.lp_inv (fun k us=>∃(p1:Int) (l:List Tm) (ks:List Int),us=[⟨I,vars⟩,⟨I,kind⟩,⟨I,(k:Int)⟩,⟨L U,b⟩,⟨I,p1⟩,⟨L T4,l⟩,⟨L I,ks⟩]∧l.length=ks.length∧l.length+k≤2+N∧p≤p1∧p1+20 * k≤p+1+20 * (2+N)) (2+N) _ ⟨p+1,[],[],by simp,rfl,by simp,by omega,by omega⟩ ?_
 rintro k us ⟨p1,l,ks,rfl,i1,i2,i3,i4⟩
 cases k with
 | zero =>
  simp+contextual(maxSteps:=1000000)(disch:=omega)only[↓Sd,↓So,↓Sk,↓den,↓denA,Sa,Sb,Sc,Se,O1.d,O2.d,O3.d,cmI,arI,envOf,putN,↓reduceIte,Nat.reduceLT,Nat.reduceSub,Nat.reduceAdd,Int.reduceAdd,Int.reduceEq,Int.reduceLT,Int.reduceLE,arr_pos,arr_neg,]
  refine mc.wp_join (fun us=>∃(l:List Tm) (ks:List Int),us=[⟨I,kind⟩,⟨L U,b⟩,⟨I,p1⟩,⟨L T4,l⟩,⟨L I,ks⟩]∧l.length=ks.length∧1≤l.length∧l.length≤14) ?_ ?_
  ·simp+contextual(maxSteps:=1000000)(disch:=omega)only[↓Sd,↓So,↓Sk,↓den,↓denA,Sa,Sb,Sc,Se,O1.d,O2.d,O3.d,cmI,arI,envOf,putN,↓reduceIte,Nat.reduceLT,Nat.reduceSub,Nat.reduceAdd,Int.reduceAdd,Int.reduceEq,Int.reduceLT,Int.reduceLE,arr_pos,arr_neg,]
   refine ⟨fun g=>⟨_,_,⟨rfl,rfl⟩,by simp [i1],by simp,?_⟩,fun g=>⟨l,ks,⟨rfl,rfl⟩,i1,by omega,by omega⟩⟩
   simp only [List.length_append,List.length_singleton];omega
  ·rintro us ⟨l,ks,rfl,a1,a2,a3⟩
   refine mc.wp_join (fun us=>∃(p2:Int) (l:List Tm),us=[⟨L U,b⟩,⟨I,p2⟩,⟨L T4,l⟩]∧p≤p2∧p2≤p+390∧1≤l.length∧l.length≤16) ?_ ?_
   ·have ln1:∀x:Tm,1≤(l++[x]).length∧(l++[x]).length≤16:=fun x=>by simp only [List.length_append,List.length_singleton];omega
    simp+contextual(maxSteps:=1000000)(disch:=omega)only[↓Sd,↓So,↓Sk,↓den,↓denA,Sa,Sb,Sc,Se,O1.d,O2.d,O3.d,cmI,arI,envOf,putN,↓reduceIte,Nat.reduceLT,Nat.reduceSub,Nat.reduceAdd,Int.reduceAdd,Int.reduceEq,Int.reduceLT,Int.reduceLE,arr_pos,arr_neg,]
    refine ⟨fun _=>⟨fun _=>?_,fun _=>⟨_,_,⟨rfl,rfl⟩,by omega,by omega,by omega,by omega⟩⟩,fun _=>⟨fun _=>⟨fun _=>?_,fun _=>⟨_,_,⟨rfl,rfl⟩,by omega,by omega,by omega,by omega⟩⟩,fun _=>⟨_,_,⟨rfl,rfl⟩,by omega,by omega,by omega,by omega⟩⟩⟩
    ·refine D_num _ _ _ hb (by omega) (by simp) (by simp) fun o o0=>?_;simp+contextual(maxSteps:=1000000)(disch:=omega)only[↓Sd,↓So,↓Sk,↓den,↓denA,Sa,Sb,Sc,Se,O1.d,O2.d,O3.d,cmI,arI,envOf,putN,↓reduceIte,Nat.reduceLT,Nat.reduceSub,Nat.reduceAdd,Int.reduceAdd,Int.reduceEq,Int.reduceLT,Int.reduceLE,arr_pos,arr_neg,]
     refine D_l1Pick _ _ _ _ hb (by omega) (by omega) (by omega) fun x hx=>?_
     simp+contextual(maxSteps:=1000000)(disch:=omega)only[↓Sd,↓So,↓Sk,↓den,↓denA,Sa,Sb,Sc,Se,O1.d,O2.d,O3.d,cmI,arI,envOf,putN,↓reduceIte,Nat.reduceLT,Nat.reduceSub,Nat.reduceAdd,Int.reduceAdd,Int.reduceEq,Int.reduceLT,Int.reduceLE,arr_pos,arr_neg,]
     exact ⟨_,_,⟨rfl,rfl⟩,by omega,by omega,(ln1 _).1,(ln1 _).2⟩
    ·refine D_l1Pick _ _ _ _ hb (by omega) (by omega) (by omega) fun x hx=>?_
     simp+contextual(maxSteps:=1000000)(disch:=omega)only[↓Sd,↓So,↓Sk,↓den,↓denA,Sa,Sb,Sc,Se,O1.d,O2.d,O3.d,cmI,arI,envOf,putN,↓reduceIte,Nat.reduceLT,Nat.reduceSub,Nat.reduceAdd,Int.reduceAdd,Int.reduceEq,Int.reduceLT,Int.reduceLE,arr_pos,arr_neg,]
     refine D_num _ _ _ hb (by omega) (by simp) (by simp) fun o o0=>?_;simp+contextual(maxSteps:=1000000)(disch:=omega)only[↓Sd,↓So,↓Sk,↓den,↓denA,Sa,Sb,Sc,Se,O1.d,O2.d,O3.d,cmI,arI,envOf,putN,↓reduceIte,Nat.reduceLT,Nat.reduceSub,Nat.reduceAdd,Int.reduceAdd,Int.reduceEq,Int.reduceLT,Int.reduceLE,arr_pos,arr_neg,]
     refine D_l1Pick _ _ _ _ hb (by omega) (by omega) (by omega) fun y hy=>?_
     simp+contextual(maxSteps:=1000000)(disch:=omega)only[↓Sd,↓So,↓Sk,↓den,↓denA,Sa,Sb,Sc,Se,O1.d,O2.d,O3.d,cmI,arI,envOf,putN,↓reduceIte,Nat.reduceLT,Nat.reduceSub,Nat.reduceAdd,Int.reduceAdd,Int.reduceEq,Int.reduceLT,Int.reduceLE,arr_pos,arr_neg,]
     exact ⟨_,_,⟨rfl,rfl⟩,by omega,by omega,(ln1 _).1,(ln1 _).2⟩
   ·rintro us ⟨p2,l,rfl,c1,c2,c3,c4⟩
    simp+contextual(maxSteps:=1000000)(disch:=omega)only[↓Sd,↓So,↓Sk,↓den,↓denA,Sa,Sb,Sc,Se,O1.d,O2.d,O3.d,cmI,arI,envOf,putN,↓reduceIte,Nat.reduceLT,Nat.reduceSub,Nat.reduceAdd,Int.reduceAdd,Int.reduceEq,Int.reduceLT,Int.reduceLE,arr_pos,arr_neg,]
    exact h _ _ (by omega) (by omega) (by omega)
 | succ k =>
  simp+contextual(maxSteps:=1000000)(disch:=omega)only[↓Sd,↓So,↓Sk,↓den,↓denA,Sa,Sb,Sc,Se,O1.d,O2.d,O3.d,cmI,arI,envOf,putN,↓reduceIte,Nat.reduceLT,Nat.reduceSub,Nat.reduceAdd,Int.reduceAdd,Int.reduceEq,Int.reduceLT,Int.reduceLE,arr_pos,arr_neg,]
  refine mc.wp_join (fun us=>∃(p2:Int) (l:List Tm) (ks:List Int),us=[⟨I,vars⟩,⟨I,kind⟩,⟨I,(k:Int)+1⟩,⟨L U,b⟩,⟨I,p2⟩,⟨L T4,l⟩,⟨L I,ks⟩]∧l.length=ks.length∧l.length+k≤2+N∧p≤p2∧p2+20 * k≤p+1+20 * (2+N)) ?_ ?_
  ·simp+contextual(maxSteps:=1000000)(disch:=omega)only[↓Sd,↓So,↓Sk,↓den,↓denA,Sa,Sb,Sc,Se,O1.d,O2.d,O3.d,cmI,arI,envOf,putN,↓reduceIte,Nat.reduceLT,Nat.reduceSub,Nat.reduceAdd,Int.reduceAdd,Int.reduceEq,Int.reduceLT,Int.reduceLE,arr_pos,arr_neg,]
   refine D_num _ _ _ hb (by omega) (by simp) (by simp) fun o o0=>?_;simp+contextual(maxSteps:=1000000)(disch:=omega)only[↓Sd,↓So,↓Sk,↓den,↓denA,Sa,Sb,Sc,Se,O1.d,O2.d,O3.d,cmI,arI,envOf,putN,↓reduceIte,Nat.reduceLT,Nat.reduceSub,Nat.reduceAdd,Int.reduceAdd,Int.reduceEq,Int.reduceLT,Int.reduceLE,arr_pos,arr_neg,]
   refine mc.wp_join (fun us=>∃(p2:Int) (t:Tm),us=[⟨I,vars⟩,⟨I,kind⟩,⟨I,(k:Int)+1⟩,⟨L U,b⟩,⟨I,p2⟩,⟨L T4,l⟩,⟨L I,ks⟩,⟨I,t.1⟩,⟨I,t.2.1⟩,⟨I,t.2.2.1⟩,⟨I,t.2.2.2⟩]∧p≤p2∧p2≤p1+10) ?_ ?_
   ·simp+contextual(maxSteps:=1000000)(disch:=omega)only[↓Sd,↓So,↓Sk,↓den,↓denA,Sa,Sb,Sc,Se,O1.d,O2.d,O3.d,cmI,arI,envOf,putN,↓reduceIte,Nat.reduceLT,Nat.reduceSub,Nat.reduceAdd,Int.reduceAdd,Int.reduceEq,Int.reduceLT,Int.reduceLE,arr_pos,arr_neg,]
    refine ⟨fun g=>?_,fun g=>⟨fun g2=>?_,fun g2=>?_⟩⟩
    ·refine D_l1Number _ _ hb (by omega) fun x p2 hp2=>?_
     simp+contextual(maxSteps:=1000000)(disch:=omega)only[↓Sd,↓So,↓Sk,↓den,↓denA,Sa,Sb,Sc,Se,O1.d,O2.d,O3.d,cmI,arI,envOf,putN,↓reduceIte,Nat.reduceLT,Nat.reduceSub,Nat.reduceAdd,Int.reduceAdd,Int.reduceEq,Int.reduceLT,Int.reduceLE,arr_pos,arr_neg,]
     refine ⟨fun _=>⟨fun _=>?_,fun _=>⟨_,((0:Int),x,(0:Int),(0:Int)),⟨rfl,rfl,rfl,rfl,rfl⟩,by omega,by omega⟩⟩,fun _=>⟨_,((0:Int),x,(0:Int),(0:Int)),⟨rfl,rfl,rfl,rfl,rfl⟩,by omega,by omega⟩⟩
     refine D_pick1 _ _ _ hb (by omega) (by omega) fun y y0 y1=>?_;simp+contextual(maxSteps:=1000000)(disch:=omega)only[↓Sd,↓So,↓Sk,↓den,↓denA,Sa,Sb,Sc,Se,O1.d,O2.d,O3.d,cmI,arI,envOf,putN,↓reduceIte,Nat.reduceLT,Nat.reduceSub,Nat.reduceAdd,Int.reduceAdd,Int.reduceEq,Int.reduceLT,Int.reduceLE,arr_pos,arr_neg,]
     exact ⟨_,((1:Int),y,(0:Int),(0:Int)),⟨rfl,rfl,rfl,rfl,rfl⟩,by omega,by omega⟩
    ·refine D_l1Number _ _ hb (by omega) fun x p2 hp2=>?_
     simp+contextual(maxSteps:=1000000)(disch:=omega)only[↓Sd,↓So,↓Sk,↓den,↓denA,Sa,Sb,Sc,Se,O1.d,O2.d,O3.d,cmI,arI,envOf,putN,↓reduceIte,Nat.reduceLT,Nat.reduceSub,Nat.reduceAdd,Int.reduceAdd,Int.reduceEq,Int.reduceLT,Int.reduceLE,arr_pos,arr_neg,]
     refine ⟨fun _=>⟨fun _=>?_,fun _=>⟨_,((0:Int),x,(0:Int),(0:Int)),⟨rfl,rfl,rfl,rfl,rfl⟩,by omega,by omega⟩⟩,fun _=>⟨_,((0:Int),x,(0:Int),(0:Int)),⟨rfl,rfl,rfl,rfl,rfl⟩,by omega,by omega⟩⟩
     refine D_pick1 _ _ _ hb (by omega) (by omega) fun y y0 y1=>?_;simp+contextual(maxSteps:=1000000)(disch:=omega)only[↓Sd,↓So,↓Sk,↓den,↓denA,Sa,Sb,Sc,Se,O1.d,O2.d,O3.d,cmI,arI,envOf,putN,↓reduceIte,Nat.reduceLT,Nat.reduceSub,Nat.reduceAdd,Int.reduceAdd,Int.reduceEq,Int.reduceLT,Int.reduceLE,arr_pos,arr_neg,]
     exact ⟨_,((1:Int),y,(0:Int),(0:Int)),⟨rfl,rfl,rfl,rfl,rfl⟩,by omega,by omega⟩
    ·refine mc.wp_join (fun us=>∃w:Int,us=[⟨I,vars⟩,⟨I,kind⟩,⟨I,(k:Int)+1⟩,⟨I,o⟩,⟨I,w⟩,⟨L U,b⟩,⟨I,p1+1⟩,⟨L T4,l⟩,⟨L I,ks⟩,⟨I,o⟩,⟨I,(0:Int)⟩,⟨I,(0:Int)⟩,⟨I,(0:Int)⟩]) ?_ ?_
     ·simp+contextual(maxSteps:=1000000)(disch:=omega)only[↓Sd,↓So,↓Sk,↓den,↓denA,Sa,Sb,Sc,Se,O1.d,O2.d,O3.d,cmI,arI,envOf,putN,↓reduceIte,Nat.reduceLT,Nat.reduceSub,Nat.reduceAdd,Int.reduceAdd,Int.reduceEq,Int.reduceLT,Int.reduceLE,arr_pos,arr_neg,]
      exact ⟨fun _=>⟨2,rfl⟩,fun _=>⟨1,rfl⟩⟩
     ·rintro us ⟨w,rfl⟩
      simp+contextual(maxSteps:=1000000)(disch:=omega)only[↓Sd,↓So,↓Sk,↓den,↓denA,Sa,Sb,Sc,Se,O1.d,O2.d,O3.d,cmI,arI,envOf,putN,↓reduceIte,Nat.reduceLT,Nat.reduceSub,Nat.reduceAdd,Int.reduceAdd,Int.reduceEq,Int.reduceLT,Int.reduceLE,arr_pos,arr_neg,]
      refine D_l1Pick _ _ _ _ hb (by omega) (by omega) (by omega) fun x hx=>?_
      simp+contextual(maxSteps:=1000000)(disch:=omega)only[↓Sd,↓So,↓Sk,↓den,↓denA,Sa,Sb,Sc,Se,O1.d,O2.d,O3.d,cmI,arI,envOf,putN,↓reduceIte,Nat.reduceLT,Nat.reduceSub,Nat.reduceAdd,Int.reduceAdd,Int.reduceEq,Int.reduceLT,Int.reduceLE,arr_pos,arr_neg,]
      refine D_l1Pick _ _ _ _ hb (by omega) (by omega) (by omega) fun y hy=>?_
      simp+contextual(maxSteps:=1000000)(disch:=omega)only[↓Sd,↓So,↓Sk,↓den,↓denA,Sa,Sb,Sc,Se,O1.d,O2.d,O3.d,cmI,arI,envOf,putN,↓reduceIte,Nat.reduceLT,Nat.reduceSub,Nat.reduceAdd,Int.reduceAdd,Int.reduceEq,Int.reduceLT,Int.reduceLE,arr_pos,arr_neg,C_spec_l1One]
      exact ⟨fun _=>⟨_,((7:Int),(0:Int),x,x),⟨rfl,rfl,rfl,rfl,rfl⟩,by omega,by omega⟩,fun _=>⟨_,(o,(0:Int),x,y),⟨rfl,rfl,rfl,rfl,rfl⟩,by omega,by omega⟩⟩
   ·rintro us ⟨p2,t,rfl,c1,c2⟩
    simp+contextual(maxSteps:=1000000)(disch:=omega)only[↓Sd,↓So,↓Sk,↓den,↓denA,Sa,Sb,Sc,Se,O1.d,O2.d,O3.d,cmI,arI,envOf,putN,↓reduceIte,Nat.reduceLT,Nat.reduceSub,Nat.reduceAdd,Int.reduceAdd,Int.reduceEq,Int.reduceLT,Int.reduceLE,arr_pos,arr_neg,C_spec_l1Kind t ks vars hv (by omega)]
    refine ⟨fun _=>⟨_,_,_,⟨rfl,rfl,rfl⟩,?_,?_,by omega,by omega⟩,fun _=>⟨_,_,_,⟨rfl,rfl,rfl⟩,i1,by omega,by omega,by omega⟩⟩
    ·simp only [List.length_append,List.length_singleton];omega
    ·simp only [List.length_append,List.length_singleton];omega
  ·rintro us ⟨p2,l,ks,rfl,a1,a2,a3,a4⟩
   simp+contextual(maxSteps:=1000000)(disch:=omega)only[↓Sd,↓So,↓Sk,↓den,↓denA,Sa,Sb,Sc,Se,O1.d,O2.d,O3.d,cmI,arI,envOf,putN,↓reduceIte,Nat.reduceLT,Nat.reduceSub,Nat.reduceAdd,Int.reduceAdd,Int.reduceEq,Int.reduceLT,Int.reduceLE,arr_pos,arr_neg,]
   exact ⟨k,by omega,p2,l,ks,⟨rfl,rfl,rfl,rfl⟩,a1,a2,a3,a4⟩
theorem D_l2Value (b:List Int) (p:Int) (vs:List Vr) (k:Int) (i:Nat) (hk:k=i) (hb:Rdy b) (hp:0≤p∧p≤700000000) (hv:vs.length≤5) (hi:i<vs.length) {Q:List AV→Prop} (h:∀(l:List Tm) (p':Int),p≤p'∧p'≤p+500→l.length≤16→Q [⟨L T4,l⟩,⟨RD,(b,p')⟩]):mc.C f_spec_l2Value [⟨RD,(b,p)⟩,⟨L V3,vs⟩,⟨I,k⟩] Q:=by
 subst hk
 refine mc.c_of F_spec_l2Value ?_
 simp+contextual(maxSteps:=1000000)(disch:=omega)only[↓Sd,↓So,↓Sk,↓den,↓denA,Sa,Sb,Sc,Se,O1.d,O2.d,O3.d,cmI,arI,envOf,putN,↓reduceIte,Nat.reduceLT,Nat.reduceSub,Nat.reduceAdd,Int.reduceAdd,Int.reduceEq,Int.reduceLT,Int.reduceLE,arr_pos,arr_neg,tr_spec_l2Value]
 refine D_pick1 _ _ _ hb (by omega) (by omega) fun k k0 k1=>?_;simp+contextual(maxSteps:=1000000)(disch:=omega)only[↓Sd,↓So,↓Sk,↓den,↓denA,Sa,Sb,Sc,Se,O1.d,O2.d,O3.d,cmI,arI,envOf,putN,↓reduceIte,Nat.reduceLT,Nat.reduceSub,Nat.reduceAdd,Int.reduceAdd,Int.reduceEq,Int.reduceLT,Int.reduceLE,arr_pos,arr_neg,]
 refine ⟨fun _=>?_,fun _=>⟨fun _=>?_,fun _=>⟨fun _=>?_,fun _=>?_⟩⟩⟩
 ·simp+contextual(maxSteps:=1000000)(disch:=omega)only[↓Sd,↓So,↓Sk,↓den,↓denA,Sa,Sb,Sc,Se,O1.d,O2.d,O3.d,cmI,arI,envOf,putN,↓reduceIte,Nat.reduceLT,Nat.reduceSub,Nat.reduceAdd,Int.reduceAdd,Int.reduceEq,Int.reduceLT,Int.reduceLE,arr_pos,arr_neg,C_spec_l2VarOf,C_spec_l2Const]
  refine D_num _ _ _ hb (by omega) (by simp) (by simp) fun o o0=>?_;simp+contextual(maxSteps:=1000000)(disch:=omega)only[↓Sd,↓So,↓Sk,↓den,↓denA,Sa,Sb,Sc,Se,O1.d,O2.d,O3.d,cmI,arI,envOf,putN,↓reduceIte,Nat.reduceLT,Nat.reduceSub,Nat.reduceAdd,Int.reduceAdd,Int.reduceEq,Int.reduceLT,Int.reduceLE,arr_pos,arr_neg,]
  exact h _ _ (by omega) (by simp)
 ·refine D_pick _ _ _ hb (by omega) fun n _ _=>?_
  simp+contextual(maxSteps:=1000000)(disch:=omega)only[↓Sd,↓So,↓Sk,↓den,↓denA,Sa,Sb,Sc,Se,O1.d,O2.d,O3.d,cmI,arI,envOf,putN,↓reduceIte,Nat.reduceLT,Nat.reduceSub,Nat.reduceAdd,Int.reduceAdd,Int.reduceEq,Int.reduceLT,Int.reduceLE,arr_pos,arr_neg,↓wpJoin,C_spec_l2Const]
  exact h _ _ (by omega) (by simp)
 ·refine D_pick1 _ _ _ hb (by omega) (by omega) fun n n0 n1=>?_;simp+contextual(maxSteps:=1000000)(disch:=omega)only[↓Sd,↓So,↓Sk,↓den,↓denA,Sa,Sb,Sc,Se,O1.d,O2.d,O3.d,cmI,arI,envOf,putN,↓reduceIte,Nat.reduceLT,Nat.reduceSub,Nat.reduceAdd,Int.reduceAdd,Int.reduceEq,Int.reduceLT,Int.reduceLE,arr_pos,arr_neg,]
  simp+contextual(maxSteps:=1000000)(disch:=omega)only[↓Sd,↓So,↓Sk,↓den,↓denA,Sa,Sb,Sc,Se,O1.d,O2.d,O3.d,cmI,arI,envOf,putN,↓reduceIte,Nat.reduceLT,Nat.reduceSub,Nat.reduceAdd,Int.reduceAdd,Int.reduceEq,Int.reduceLT,Int.reduceLE,arr_pos,arr_neg,C_spec_l2VarOf]
  exact h _ _ (by omega) (by simp)
 ·refine D_l1Terms _ _ _ _ _ hb (by omega) (by omega) (by omega) fun l p2 h1 h2 h3=>?_
  simp+contextual(maxSteps:=1000000)(disch:=omega)only[↓Sd,↓So,↓Sk,↓den,↓denA,Sa,Sb,Sc,Se,O1.d,O2.d,O3.d,cmI,arI,envOf,putN,↓reduceIte,Nat.reduceLT,Nat.reduceSub,Nat.reduceAdd,Int.reduceAdd,Int.reduceEq,Int.reduceLT,Int.reduceLE,arr_pos,arr_neg,]
  exact h _ _ (by omega) (by omega)
def SmRu (r:Ru):Prop:=r.1.length≤100∧r.2.1.length≤100∧r.2.2.length≤100∧∀x∈r.2.2,x.length≤100
def SmR5 (r:Ru):Prop:=r.1.length≤50∧r.2.1.length≤50∧r.2.2.length≤50∧∀x∈r.2.2,x.length≤50
theorem SmR5.sm {r:Ru} (h:SmR5 r):SmRu r:=⟨by have:=h.1;omega,by have:=h.2.1;omega,by have:=h.2.2.1;omega,fun x hx=>by have:=h.2.2.2 x hx;omega⟩
def SmSy (s:Sy):Prop:=s.1.length≤3∧s.2.length≤9∧∀r∈s.2,SmRu r
theorem SmSy.few {s:Sy} (h:SmSy s):FewSy s:=by
 refine ⟨by have:=h.1;unfold Few;omega,by have:=h.2.1;unfold Few;omega,fun r hr=>?_⟩
 have h1:=h.2.2 r hr
 exact ⟨by have:=h1.1;unfold Few;omega,by have:=h1.2.1;unfold Few;omega,by have:=h1.2.2.1;unfold Few;omega,fun x hx=>by have:=h1.2.2.2 x hx;unfold Few;omega⟩
theorem D_l2Rules (b:List Int) (p:Int) (vs:List Vr) (many:Nat) (hb:Rdy b) (hp:0≤p∧p≤600000000) (hv1:1≤vs.length) (hv:vs.length≤3) (hm:many≤9) {Q:List AV→Prop} (h:∀(l:List Ru) (p':Int),p≤p'∧p'≤p+20000→l.length≤many→(∀r∈l,SmR5 r)→Q [⟨L TR,l⟩,⟨RD,(b,p')⟩]):mc.C f_spec_l2Rules [⟨RD,(b,p)⟩,⟨L V3,vs⟩,⟨I,(many:Int)⟩] Q:=by
 refine mc.c_of F_spec_l2Rules ?_
 simp+contextual(maxSteps:=1000000)(disch:=omega)only[↓Sd,↓So,↓Sk,↓den,↓denA,Sa,Sb,Sc,Se,O1.d,O2.d,O3.d,cmI,arI,envOf,putN,↓reduceIte,Nat.reduceLT,Nat.reduceSub,Nat.reduceAdd,Int.reduceAdd,Int.reduceEq,Int.reduceLT,Int.reduceLE,arr_pos,arr_neg,tr_spec_l2Rules]
 refine mc.lp_for (Int×List Ru) (fun i s=>[⟨L V3,vs⟩,⟨I,(many:Int)⟩,⟨I,(i:Int)⟩,⟨L U,b⟩,⟨I,s.1⟩,⟨L TR,s.2⟩]) (fun i s=>p≤s.1∧s.1≤p+2000 * i∧s.2.length=i∧∀r∈s.2,SmR5 r) many 0 (p,[]) _ rfl (Nat.zero_le _) ⟨by simp,by simp,rfl,by simp⟩ ?_ ?_
 ·rintro i ⟨p1,l⟩ hi ⟨a1,a2,a3,a4⟩
  simp only at a1 a2 a3 a4
  simp+contextual(maxSteps:=1000000)(disch:=omega)only[↓Sd,↓So,↓Sk,↓den,↓denA,Sa,Sb,Sc,Se,O1.d,O2.d,O3.d,cmI,arI,envOf,putN,↓reduceIte,Nat.reduceLT,Nat.reduceSub,Nat.reduceAdd,Int.reduceAdd,Int.reduceEq,Int.reduceLT,Int.reduceLE,arr_pos,arr_neg,]
  refine D_l2When _ _ _ hb (by omega) hv1 (by omega) fun w p2 hp2 hw=>?_
  simp+contextual(maxSteps:=1000000)(disch:=omega)only[↓Sd,↓So,↓Sk,↓den,↓denA,Sa,Sb,Sc,Se,O1.d,O2.d,O3.d,cmI,arI,envOf,putN,↓reduceIte,Nat.reduceLT,Nat.reduceSub,Nat.reduceAdd,Int.reduceAdd,Int.reduceEq,Int.reduceLT,Int.reduceLE,arr_pos,arr_neg,]
  refine mc.lp_for (Int×List Int×List (List Tm)) (fun j s=>[⟨L V3,vs⟩,⟨I,(many:Int)⟩,⟨I,(i:Int)⟩,⟨I,(j:Int)⟩,⟨L U,b⟩,⟨I,s.1⟩,⟨L TR,l⟩,⟨L T4,w⟩,⟨L I,s.2.1⟩,⟨L (L T4),s.2.2⟩]) (fun j s=>p2≤s.1∧s.1≤p2+510 * j∧s.2.1.length≤j∧s.2.2.length≤j∧∀x∈s.2.2,x.length≤16) vs.length 0 (p2,[],[]) _ rfl (Nat.zero_le _) ⟨by simp,by simp,by simp,by simp,by simp⟩ ?_ ?_
  ·rintro j ⟨p3,ss,ts⟩ hj ⟨c1,c2,c3,c4,c5⟩
   simp only at c1 c2 c3 c4 c5
   have app:∀(x:List Tm),x.length≤16→∀y∈ts++[x],y.length≤16:=fun x hx y hy=>(List.mem_append.1 hy).elim (c5 y) fun hy=>by rw [List.mem_singleton.1 hy];exact hx
   have l1:∀x,(ss++[x]).length=ss.length+1:=fun x=>by simp
   have l2:∀x,(ts++[x]).length=ts.length+1:=fun x=>by simp
   simp+contextual(maxSteps:=1000000)(disch:=omega)only[↓Sd,↓So,↓Sk,↓den,↓denA,Sa,Sb,Sc,Se,O1.d,O2.d,O3.d,cmI,arI,envOf,putN,↓reduceIte,Nat.reduceLT,Nat.reduceSub,Nat.reduceAdd,Int.reduceAdd,Int.reduceEq,Int.reduceLT,Int.reduceLE,arr_pos,arr_neg,↓wpJoin,]
   refine D_pick1 _ _ _ hb (by omega) (by omega) fun a a0 a1=>?_;simp+contextual(maxSteps:=1000000)(disch:=omega)only[↓Sd,↓So,↓Sk,↓den,↓denA,Sa,Sb,Sc,Se,O1.d,O2.d,O3.d,cmI,arI,envOf,putN,↓reduceIte,Nat.reduceLT,Nat.reduceSub,Nat.reduceAdd,Int.reduceAdd,Int.reduceEq,Int.reduceLT,Int.reduceLE,arr_pos,arr_neg,]
   refine ⟨fun _=>?_,fun _=>⟨fun _=>⟨fun _=>?_,fun _=>?_⟩,fun _=>?_⟩⟩
   ·refine D_l2Value _ _ _ _ j (by omega) hb (by omega) (by omega) hj fun x p4 hp4 hx=>?_
    simp+contextual(maxSteps:=1000000)(disch:=omega)only[↓Sd,↓So,↓Sk,↓den,↓denA,Sa,Sb,Sc,Se,O1.d,O2.d,O3.d,cmI,arI,envOf,putN,↓reduceIte,Nat.reduceLT,Nat.reduceSub,Nat.reduceAdd,Int.reduceAdd,Int.reduceEq,Int.reduceLT,Int.reduceLE,arr_pos,arr_neg,↓wpJoin,]
    exact ⟨(_,_,_),⟨rfl,rfl,rfl⟩,by dsimp only;omega,by dsimp only;omega,by dsimp only;rw [l1];omega,by dsimp only;rw [l2];omega,app x hx⟩
   ·refine D_pick1 _ _ _ hb (by omega) (by omega) fun c c0 c1=>?_;simp+contextual(maxSteps:=1000000)(disch:=omega)only[↓Sd,↓So,↓Sk,↓den,↓denA,Sa,Sb,Sc,Se,O1.d,O2.d,O3.d,cmI,arI,envOf,putN,↓reduceIte,Nat.reduceLT,Nat.reduceSub,Nat.reduceAdd,Int.reduceAdd,Int.reduceEq,Int.reduceLT,Int.reduceLE,arr_pos,arr_neg,]
    refine ⟨fun _=>?_,fun _=>?_⟩
    ·refine D_l2Value _ _ _ _ j (by omega) hb (by omega) (by omega) hj fun x p4 hp4 hx=>?_
     simp+contextual(maxSteps:=1000000)(disch:=omega)only[↓Sd,↓So,↓Sk,↓den,↓denA,Sa,Sb,Sc,Se,O1.d,O2.d,O3.d,cmI,arI,envOf,putN,↓reduceIte,Nat.reduceLT,Nat.reduceSub,Nat.reduceAdd,Int.reduceAdd,Int.reduceEq,Int.reduceLT,Int.reduceLE,arr_pos,arr_neg,↓wpJoin,]
     exact ⟨(_,_,_),⟨rfl,rfl,rfl⟩,by dsimp only;omega,by dsimp only;omega,by dsimp only;rw [l1];omega,by dsimp only;rw [l2];omega,app x hx⟩
    ·exact ⟨(_,_,_),⟨rfl,rfl,rfl⟩,by dsimp only;omega,by dsimp only;omega,by dsimp only;omega,by dsimp only;omega,c5⟩
   ·exact ⟨(_,_,_),⟨rfl,rfl,rfl⟩,by dsimp only;omega,by dsimp only;omega,by dsimp only;omega,by dsimp only;omega,c5⟩
   ·exact ⟨(_,_,_),⟨rfl,rfl,rfl⟩,by dsimp only;omega,by dsimp only;omega,by dsimp only;omega,by dsimp only;omega,c5⟩
  ·rintro ⟨p3,ss,ts⟩ ⟨c1,c2,c3,c4,c5⟩
   simp only at c1 c2 c3 c4 c5
   simp+contextual(maxSteps:=1000000)(disch:=omega)only[↓Sd,↓So,↓Sk,↓den,↓denA,Sa,Sb,Sc,Se,O1.d,O2.d,O3.d,cmI,arI,envOf,putN,↓reduceIte,Nat.reduceLT,Nat.reduceSub,Nat.reduceAdd,Int.reduceAdd,Int.reduceEq,Int.reduceLT,Int.reduceLE,arr_pos,arr_neg,]
   refine ⟨(_,_),⟨rfl,rfl⟩,by dsimp only;omega,by dsimp only;omega,by dsimp only;simp [a3],fun r hr=>?_⟩
   rcases List.mem_append.1 hr with hr | hr
   ·exact a4 r hr
   ·rw [List.mem_singleton.1 hr]
    exact ⟨by dsimp only;omega,by dsimp only;omega,by dsimp only;omega,fun x hx=>by have:=c5 x hx;omega⟩
 ·rintro ⟨p1,l⟩ ⟨a1,a2,a3,a4⟩
  simp only at a1 a2 a3 a4
  simp+contextual(maxSteps:=1000000)(disch:=omega)only[↓Sd,↓So,↓Sk,↓den,↓denA,Sa,Sb,Sc,Se,O1.d,O2.d,O3.d,cmI,arI,envOf,putN,↓reduceIte,Nat.reduceLT,Nat.reduceSub,Nat.reduceAdd,Int.reduceAdd,Int.reduceEq,Int.reduceLT,Int.reduceLE,arr_pos,arr_neg,]
  exact h _ _ (by omega) (by omega) a4
theorem D_l2System (b:List Int) (p most:Int) (hb:Rdy b) (hp:0≤p∧p≤500000000) {Q:List AV→Prop} (h:∀(s:Sy) (p':Int),p≤p'∧p'≤p+30000→SmSy s→1≤s.1.length→s.2.length≤4→(∀r∈s.2,SmR5 r)→Q [⟨L V3,s.1⟩,⟨L TR,s.2⟩,⟨RD,(b,p')⟩]):mc.C f_spec_l2System [⟨RD,(b,p)⟩,⟨I,most⟩] Q:=by
 refine mc.c_of F_spec_l2System ?_
 simp+contextual(maxSteps:=1000000)(disch:=omega)only[↓Sd,↓So,↓Sk,↓den,↓denA,Sa,Sb,Sc,Se,O1.d,O2.d,O3.d,cmI,arI,envOf,putN,↓reduceIte,Nat.reduceLT,Nat.reduceSub,Nat.reduceAdd,Int.reduceAdd,Int.reduceEq,Int.reduceLT,Int.reduceLE,arr_pos,arr_neg,tr_spec_l2System]
 refine D_pick1 _ _ _ hb (by omega) (by omega) fun n n0 n1=>?_;simp+contextual(maxSteps:=1000000)(disch:=omega)only[↓Sd,↓So,↓Sk,↓den,↓denA,Sa,Sb,Sc,Se,O1.d,O2.d,O3.d,cmI,arI,envOf,putN,↓reduceIte,Nat.reduceLT,Nat.reduceSub,Nat.reduceAdd,Int.reduceAdd,Int.reduceEq,Int.reduceLT,Int.reduceLE,arr_pos,arr_neg,]
 obtain ⟨N,hN⟩:∃N:Nat,n=N:=⟨n.toNat,by omega⟩
 subst hN
 refine mc.lp_inv (fun k us=>∃(p1 m:Int) (l:List Vr),us=[⟨I,most⟩,⟨I,m⟩,⟨I,(k:Int)⟩,⟨L U,b⟩,⟨I,p1⟩,⟨L V3,l⟩]∧l.length+k≤1+N∧p≤p1∧p1+3 * k≤p+1+3 * (1+N)) (1+N) _ ⟨p+1,1,[],by simp,by simp,by omega,by omega⟩ ?_
 rintro k us ⟨p1,m,l,rfl,i1,i2,i3⟩
 cases k with
 | zero =>
  simp+contextual(maxSteps:=1000000)(disch:=omega)only[↓Sd,↓So,↓Sk,↓den,↓denA,Sa,Sb,Sc,Se,O1.d,O2.d,O3.d,cmI,arI,envOf,putN,↓reduceIte,Nat.reduceLT,Nat.reduceSub,Nat.reduceAdd,Int.reduceAdd,Int.reduceEq,Int.reduceLT,Int.reduceLE,arr_pos,arr_neg,]
  refine mc.wp_join (fun us=>∃(l:List Vr),us=[⟨L U,b⟩,⟨I,p1⟩,⟨L V3,l⟩]∧1≤l.length∧l.length≤3) ?_ ?_
  ·simp+contextual(maxSteps:=1000000)(disch:=omega)only[↓Sd,↓So,↓Sk,↓den,↓denA,Sa,Sb,Sc,Se,O1.d,O2.d,O3.d,cmI,arI,envOf,putN,↓reduceIte,Nat.reduceLT,Nat.reduceSub,Nat.reduceAdd,Int.reduceAdd,Int.reduceEq,Int.reduceLT,Int.reduceLE,arr_pos,arr_neg,]
   exact ⟨fun _=>by omega,fun _=>by omega⟩
  ·rintro us ⟨l,rfl,a1,a2⟩
   simp+contextual(maxSteps:=1000000)(disch:=omega)only[↓Sd,↓So,↓Sk,↓den,↓denA,Sa,Sb,Sc,Se,O1.d,O2.d,O3.d,cmI,arI,envOf,putN,↓reduceIte,Nat.reduceLT,Nat.reduceSub,Nat.reduceAdd,Int.reduceAdd,Int.reduceEq,Int.reduceLT,Int.reduceLE,arr_pos,arr_neg,]
   refine D_num _ _ _ hb (by omega) (by simp) (by simp) fun x x0=>?_;simp+contextual(maxSteps:=1000000)(disch:=omega)only[↓Sd,↓So,↓Sk,↓den,↓denA,Sa,Sb,Sc,Se,O1.d,O2.d,O3.d,cmI,arI,envOf,putN,↓reduceIte,Nat.reduceLT,Nat.reduceSub,Nat.reduceAdd,Int.reduceAdd,Int.reduceEq,Int.reduceLT,Int.reduceLE,arr_pos,arr_neg,]
   have hx:0≤x∧x≤4:=by simp only [List.mem_append,List.mem_singleton] at x0;omega
   obtain ⟨y,hy⟩:∃y:Nat,x=y:=⟨x.toNat,by omega⟩
   subst hy
   refine D_l2Rules _ _ _ _ hb (by omega) a1 a2 (by omega) fun rs p2 hp2 h1 h2=>?_
   simp+contextual(maxSteps:=1000000)(disch:=omega)only[↓Sd,↓So,↓Sk,↓den,↓denA,Sa,Sb,Sc,Se,O1.d,O2.d,O3.d,cmI,arI,envOf,putN,↓reduceIte,Nat.reduceLT,Nat.reduceSub,Nat.reduceAdd,Int.reduceAdd,Int.reduceEq,Int.reduceLT,Int.reduceLE,arr_pos,arr_neg,↓wpJoin,]
   exact h (l,rs) _ (by omega) ⟨a2,by dsimp only;omega,fun r hr=>(h2 r hr).sm⟩ a1 (by dsimp only;omega) h2
 | succ k =>
  simp+contextual(maxSteps:=1000000)(disch:=omega)only[↓Sd,↓So,↓Sk,↓den,↓denA,Sa,Sb,Sc,Se,O1.d,O2.d,O3.d,cmI,arI,envOf,putN,↓reduceIte,Nat.reduceLT,Nat.reduceSub,Nat.reduceAdd,Int.reduceAdd,Int.reduceEq,Int.reduceLT,Int.reduceLE,arr_pos,arr_neg,]
  refine mc.wp_join (fun us=>∃(p2 m:Int) (l:List Vr),us=[⟨I,most⟩,⟨I,m⟩,⟨I,(k:Int)+1⟩,⟨L U,b⟩,⟨I,p2⟩,⟨L V3,l⟩]∧l.length+k≤1+N∧p≤p2∧p2+3 * k≤p+1+3 * (1+N)) ?_ ?_
  ·simp+contextual(maxSteps:=1000000)(disch:=omega)only[↓Sd,↓So,↓Sk,↓den,↓denA,Sa,Sb,Sc,Se,O1.d,O2.d,O3.d,cmI,arI,envOf,putN,↓reduceIte,Nat.reduceLT,Nat.reduceSub,Nat.reduceAdd,Int.reduceAdd,Int.reduceEq,Int.reduceLT,Int.reduceLE,arr_pos,arr_neg,]
   refine D_num _ _ _ hb (by omega) (by simp) (by simp) fun x x0=>?_;simp+contextual(maxSteps:=1000000)(disch:=omega)only[↓Sd,↓So,↓Sk,↓den,↓denA,Sa,Sb,Sc,Se,O1.d,O2.d,O3.d,cmI,arI,envOf,putN,↓reduceIte,Nat.reduceLT,Nat.reduceSub,Nat.reduceAdd,Int.reduceAdd,Int.reduceEq,Int.reduceLT,Int.reduceLE,arr_pos,arr_neg,]
   have hx:2≤x∧x≤5:=by simp only [List.mem_append,List.mem_singleton] at x0;omega
   refine ⟨fun _=>?_,fun _=>⟨_,_,_,⟨rfl,rfl,rfl⟩,by omega,by omega,by omega⟩⟩
   refine D_num _ _ _ hb (by omega) (by simp) (by simp) fun lo lo0=>?_;simp+contextual(maxSteps:=1000000)(disch:=omega)only[↓Sd,↓So,↓Sk,↓den,↓denA,Sa,Sb,Sc,Se,O1.d,O2.d,O3.d,cmI,arI,envOf,putN,↓reduceIte,Nat.reduceLT,Nat.reduceSub,Nat.reduceAdd,Int.reduceAdd,Int.reduceEq,Int.reduceLT,Int.reduceLE,arr_pos,arr_neg,]
   refine D_pick1 _ _ _ hb (by omega) (by omega) fun d d0 d1=>?_;simp+contextual(maxSteps:=1000000)(disch:=omega)only[↓Sd,↓So,↓Sk,↓den,↓denA,Sa,Sb,Sc,Se,O1.d,O2.d,O3.d,cmI,arI,envOf,putN,↓reduceIte,Nat.reduceLT,Nat.reduceSub,Nat.reduceAdd,Int.reduceAdd,Int.reduceEq,Int.reduceLT,Int.reduceLE,arr_pos,arr_neg,]
   simp+contextual(maxSteps:=1000000)(disch:=omega)only[↓Sd,↓So,↓Sk,↓den,↓denA,Sa,Sb,Sc,Se,O1.d,O2.d,O3.d,cmI,arI,envOf,putN,↓reduceIte,Nat.reduceLT,Nat.reduceSub,Nat.reduceAdd,Int.reduceAdd,Int.reduceEq,Int.reduceLT,Int.reduceLE,arr_pos,arr_neg,↓wpJoin,]
   exact ⟨_,_,_,⟨rfl,rfl,rfl⟩,by simp only [List.length_append,List.length_singleton];omega,by omega,by omega⟩
  ·rintro us ⟨p2,m,l,rfl,a1,a2,a3⟩
   simp+contextual(maxSteps:=1000000)(disch:=omega)only[↓Sd,↓So,↓Sk,↓den,↓denA,Sa,Sb,Sc,Se,O1.d,O2.d,O3.d,cmI,arI,envOf,putN,↓reduceIte,Nat.reduceLT,Nat.reduceSub,Nat.reduceAdd,Int.reduceAdd,Int.reduceEq,Int.reduceLT,Int.reduceLE,arr_pos,arr_neg,]
   exact ⟨k,by omega,p2,m,l,⟨rfl,rfl,rfl,rfl⟩,a1,a2,a3⟩
theorem D_l2Any (b:List Int) (p most:Int) (hb:Rdy b) (hp:0≤p∧p≤400000000) {Q:List AV→Prop} (h:∀(s:Sy) (p':Int),p≤p'∧p'≤p+31000→SmSy s→Q [⟨L V3,s.1⟩,⟨L TR,s.2⟩,⟨RD,(b,p')⟩]):mc.C f_spec_l2Any [⟨RD,(b,p)⟩,⟨I,most⟩] Q:=by
 refine mc.c_of F_spec_l2Any ?_
 simp+contextual(maxSteps:=1000000)(disch:=omega)only[↓Sd,↓So,↓Sk,↓den,↓denA,Sa,Sb,Sc,Se,O1.d,O2.d,O3.d,cmI,arI,envOf,putN,↓reduceIte,Nat.reduceLT,Nat.reduceSub,Nat.reduceAdd,Int.reduceAdd,Int.reduceEq,Int.reduceLT,Int.reduceLE,arr_pos,arr_neg,tr_spec_l2Any]
 refine D_l2System _ _ _ hb (by omega) fun s p1 hp1 hs h1 h2 h5=>?_
 simp+contextual(maxSteps:=1000000)(disch:=omega)only[↓Sd,↓So,↓Sk,↓den,↓denA,Sa,Sb,Sc,Se,O1.d,O2.d,O3.d,cmI,arI,envOf,putN,↓reduceIte,Nat.reduceLT,Nat.reduceSub,Nat.reduceAdd,Int.reduceAdd,Int.reduceEq,Int.reduceLT,Int.reduceLE,arr_pos,arr_neg,↓wpJoin,C_spec_l2Const]
 refine D_pick1 _ _ _ hb (by omega) (by omega) fun a a0 a1=>?_;simp+contextual(maxSteps:=1000000)(disch:=omega)only[↓Sd,↓So,↓Sk,↓den,↓denA,Sa,Sb,Sc,Se,O1.d,O2.d,O3.d,cmI,arI,envOf,putN,↓reduceIte,Nat.reduceLT,Nat.reduceSub,Nat.reduceAdd,Int.reduceAdd,Int.reduceEq,Int.reduceLT,Int.reduceLE,arr_pos,arr_neg,]
 refine ⟨fun _=>?_,fun _=>h _ _ (by omega) hs⟩
 have hV:∀(l:List Vr) (p':Int),l.length≤3→p≤p'∧p'≤p+31000→Q [⟨L V3,l⟩,⟨L TR,s.2⟩,⟨RD,(b,p')⟩]:=fun l p' hl hp'=>h (l,s.2) p' hp' ⟨hl,hs.2.1,hs.2.2⟩
 have hR:∀(r:Ru) (p':Int),SmRu r→p≤p'∧p'≤p+31000→Q [⟨L V3,s.1⟩,⟨L TR,s.2.set 0 r⟩,⟨RD,(b,p')⟩]:=fun r p' hr hp'=>h (s.1,s.2.set 0 r) p' hp' ⟨hs.1,by rw [List.length_set];exact hs.2.1,fun x hx=>(List.mem_or_eq_of_mem_set hx).elim (hs.2.2 x) fun e=>by rw [e];exact hr⟩
 have hS1:(s.1.set 0 (s.1.getD 0 (0,0,0))).length≤3:=by rw [List.length_set];exact hs.1
 have hsl:∀x:Vr,(s.1.set 0 x).length≤3:=fun x=>by rw [List.length_set];exact hs.1
 have hb0:SmR5 (s.2.getD 0 ([],[],[])):=by
  by_cases g:0<s.2.length
  ·exact h5 _ (getD_mem g)
  ·rw [List.getD_eq_getElem?_getD,List.getElem?_eq_none (by omega)];exact ⟨by simp,by simp,by simp,by simp⟩
 refine D_pick1 _ _ _ hb (by omega) (by omega) fun c c0 c1=>?_;simp+contextual(maxSteps:=1000000)(disch:=omega)only[↓Sd,↓So,↓Sk,↓den,↓denA,Sa,Sb,Sc,Se,O1.d,O2.d,O3.d,cmI,arI,envOf,putN,↓reduceIte,Nat.reduceLT,Nat.reduceSub,Nat.reduceAdd,Int.reduceAdd,Int.reduceEq,Int.reduceLT,Int.reduceLE,arr_pos,arr_neg,]
 have q1:=hb0.2.1
 have q2:=hb0.2.2.1
 simp+contextual(maxSteps:=1000000)(disch:=omega)only[↓Sd,↓So,↓Sk,↓den,↓denA,Sa,Sb,Sc,Se,O1.d,O2.d,O3.d,cmI,arI,envOf,putN,↓reduceIte,Nat.reduceLT,Nat.reduceSub,Nat.reduceAdd,Int.reduceAdd,Int.reduceEq,Int.reduceLT,Int.reduceLE,arr_pos,arr_neg,↓wpJoin,C_spec_l2Const]
 repeat' first | apply And.intro | intro _
 all_goals first
  | exact hV _ _ (hsl _) (by omega)
  | exact hV _ _ (by simp) (by omega)
  | exact hV _ _ hs.1 (by omega)
  | exact hR _ _ ⟨by simp,hb0.sm.2.1,hb0.sm.2.2.1,hb0.sm.2.2.2⟩ (by omega)
  | exact hR _ _ ⟨hb0.sm.1,by simp only [List.length_append,List.length_singleton];omega,hb0.sm.2.2.1,hb0.sm.2.2.2⟩ (by omega)
  | exact hR _ _ ⟨hb0.sm.1,hb0.sm.2.1,by simp only [List.length_append,List.length_singleton];omega,fun x hx=>(List.mem_append.1 hx).elim (hb0.sm.2.2.2 x) fun hx=>by rw [List.mem_singleton.1 hx];simp⟩ (by omega)
  | skip
 refine D_num _ _ _ hb (by omega) (by simp) (by simp) fun x x0=>?_;simp+contextual(maxSteps:=1000000)(disch:=omega)only[↓Sd,↓So,↓Sk,↓den,↓denA,Sa,Sb,Sc,Se,O1.d,O2.d,O3.d,cmI,arI,envOf,putN,↓reduceIte,Nat.reduceLT,Nat.reduceSub,Nat.reduceAdd,Int.reduceAdd,Int.reduceEq,Int.reduceLT,Int.reduceLE,arr_pos,arr_neg,]
 simp+contextual(maxSteps:=1000000)(disch:=omega)only[↓Sd,↓So,↓Sk,↓den,↓denA,Sa,Sb,Sc,Se,O1.d,O2.d,O3.d,cmI,arI,envOf,putN,↓reduceIte,Nat.reduceLT,Nat.reduceSub,Nat.reduceAdd,Int.reduceAdd,Int.reduceEq,Int.reduceLT,Int.reduceLE,arr_pos,arr_neg,↓wpJoin,]
 exact hV _ _ (hsl _) (by omega)
theorem C_impl_StepsTo (s:Sy) (hs:FewSy s) (hv:valid s) (Q:List AV→Prop):mc.C f_impl_StepsTo [⟨L V3,s.1⟩,⟨L TR,s.2⟩] Q=Q [⟨L I,ecc s⟩]:=by
 have hz:=szn_eq hv
 have hfi:=fst0_in hv.2.2.1
 have hn:=num_bd hv.2.2.1 hfi
 have ht:=steps_tbl hv
 have hl:(ecc s).length=szn s.1:=tab_len
 obtain ⟨m,hm⟩:∃m:Nat,num s.1 (fst0 s.1)=m:=⟨(num s.1 (fst0 s.1)).toNat,by omega⟩
 have hec:ecc s=tab (dst (steps s) [(m:Int)]) (szn s.1):=by rw [ecc,hm]
 refine Mc.Ends.c (mc.ends F_impl_StepsTo ?_)
 simp+contextual(maxSteps:=1000000)(disch:=omega)only[↓Sd,↓So,↓Sk,↓den,↓denA,Sa,Sb,Sc,Se,O1.d,O2.d,O3.d,cmI,arI,envOf,putN,↓reduceIte,Nat.reduceLT,Nat.reduceSub,Nat.reduceAdd,Int.reduceAdd,Int.reduceEq,Int.reduceLT,Int.reduceLE,arr_pos,arr_neg,tr_impl_StepsTo,C_impl_SystemValid s hs,hv,C_impl_nexts s hv,C_impl_first s hv.1.2,C_impl_number s _ hv.1.2 hv.2.2.1 hfi,hm,C_impl_steps (steps s) m (szn s.1) (by omega) (by omega) ht]
 rw [←hec]
 simp+contextual(maxSteps:=1000000)(disch:=omega)only[↓Sd,↓So,↓Sk,↓den,↓denA,Sa,Sb,Sc,Se,O1.d,O2.d,O3.d,cmI,arI,envOf,putN,↓reduceIte,Nat.reduceLT,Nat.reduceSub,Nat.reduceAdd,Int.reduceAdd,Int.reduceEq,Int.reduceLT,Int.reduceLE,arr_pos,arr_neg,C_impl_clone_int (ecc s) (by omega)]
theorem D_l1Any (b:List Int) (p vars:Int) (hb:Rdy b) (hp:0≤p∧p≤700000000) (hv:0≤vars∧vars≤5) {Q:List AV→Prop} (h:∀(l:List Tm) (p':Int),p≤p'∧p'≤p+500→1≤l.length→l.length≤16→Q [⟨L T4,l⟩,⟨RD,(b,p')⟩]):mc.C f_spec_l1Any [⟨RD,(b,p)⟩,⟨I,vars⟩] Q:=by
 refine mc.c_of F_spec_l1Any ?_
 simp+contextual(maxSteps:=1000000)(disch:=omega)only[↓Sd,↓So,↓Sk,↓den,↓denA,Sa,Sb,Sc,Se,O1.d,O2.d,O3.d,cmI,arI,envOf,putN,↓reduceIte,Nat.reduceLT,Nat.reduceSub,Nat.reduceAdd,Int.reduceAdd,Int.reduceEq,Int.reduceLT,Int.reduceLE,arr_pos,arr_neg,tr_spec_l1Any]
 refine D_pick1 _ _ _ hb (by omega) (by omega) fun k k0 k1=>?_;simp+contextual(maxSteps:=1000000)(disch:=omega)only[↓Sd,↓So,↓Sk,↓den,↓denA,Sa,Sb,Sc,Se,O1.d,O2.d,O3.d,cmI,arI,envOf,putN,↓reduceIte,Nat.reduceLT,Nat.reduceSub,Nat.reduceAdd,Int.reduceAdd,Int.reduceEq,Int.reduceLT,Int.reduceLE,arr_pos,arr_neg,]
 refine D_l1Terms _ _ _ _ _ hb (by omega) hv (by omega) fun l p2 h1 h2 h3=>?_
 simp+contextual(maxSteps:=1000000)(disch:=omega)only[↓Sd,↓So,↓Sk,↓den,↓denA,Sa,Sb,Sc,Se,O1.d,O2.d,O3.d,cmI,arI,envOf,putN,↓reduceIte,Nat.reduceLT,Nat.reduceSub,Nat.reduceAdd,Int.reduceAdd,Int.reduceEq,Int.reduceLT,Int.reduceLE,arr_pos,arr_neg,↓wpJoin,]
 refine D_pick1 _ _ _ hb (by omega) (by omega) fun a a0 a1=>?_;simp+contextual(maxSteps:=1000000)(disch:=omega)only[↓Sd,↓So,↓Sk,↓den,↓denA,Sa,Sb,Sc,Se,O1.d,O2.d,O3.d,cmI,arI,envOf,putN,↓reduceIte,Nat.reduceLT,Nat.reduceSub,Nat.reduceAdd,Int.reduceAdd,Int.reduceEq,Int.reduceLT,Int.reduceLE,arr_pos,arr_neg,]
 refine ⟨fun _=>?_,fun _=>h _ _ (by omega) h2 h3⟩
 refine D_pick1 _ _ _ hb (by omega) (by omega) fun i i0 i1=>?_;simp+contextual(maxSteps:=1000000)(disch:=omega)only[↓Sd,↓So,↓Sk,↓den,↓denA,Sa,Sb,Sc,Se,O1.d,O2.d,O3.d,cmI,arI,envOf,putN,↓reduceIte,Nat.reduceLT,Nat.reduceSub,Nat.reduceAdd,Int.reduceAdd,Int.reduceEq,Int.reduceLT,Int.reduceLE,arr_pos,arr_neg,]
 refine D_pick1 _ _ _ hb (by omega) (by omega) fun f f0 f1=>?_;simp+contextual(maxSteps:=1000000)(disch:=omega)only[↓Sd,↓So,↓Sk,↓den,↓denA,Sa,Sb,Sc,Se,O1.d,O2.d,O3.d,cmI,arI,envOf,putN,↓reduceIte,Nat.reduceLT,Nat.reduceSub,Nat.reduceAdd,Int.reduceAdd,Int.reduceEq,Int.reduceLT,Int.reduceLE,arr_pos,arr_neg,↓wpJoin,]
 have hset:∀(x:Tm),1≤(l.set i.toNat x).length∧(l.set i.toNat x).length≤16:=fun x=>by rw [List.length_set];exact ⟨h2,h3⟩
 refine ⟨fun _=>?_,fun _=>⟨fun _=>?_,fun _=>⟨fun _=>?_,fun _=>?_⟩⟩⟩
 ·refine D_num _ _ _ hb (by omega) (by simp) (by simp) fun x x0=>?_;simp+contextual(maxSteps:=1000000)(disch:=omega)only[↓Sd,↓So,↓Sk,↓den,↓denA,Sa,Sb,Sc,Se,O1.d,O2.d,O3.d,cmI,arI,envOf,putN,↓reduceIte,Nat.reduceLT,Nat.reduceSub,Nat.reduceAdd,Int.reduceAdd,Int.reduceEq,Int.reduceLT,Int.reduceLE,arr_pos,arr_neg,]
  exact h _ _ (by omega) (hset _).1 (hset _).2
 ·refine D_num _ _ _ hb (by omega) (by simp) (by simp) fun x x0=>?_;simp+contextual(maxSteps:=1000000)(disch:=omega)only[↓Sd,↓So,↓Sk,↓den,↓denA,Sa,Sb,Sc,Se,O1.d,O2.d,O3.d,cmI,arI,envOf,putN,↓reduceIte,Nat.reduceLT,Nat.reduceSub,Nat.reduceAdd,Int.reduceAdd,Int.reduceEq,Int.reduceLT,Int.reduceLE,arr_pos,arr_neg,]
  exact h _ _ (by omega) (hset _).1 (hset _).2
 ·refine D_num _ _ _ hb (by omega) (by simp) (by simp) fun x x0=>?_;simp+contextual(maxSteps:=1000000)(disch:=omega)only[↓Sd,↓So,↓Sk,↓den,↓denA,Sa,Sb,Sc,Se,O1.d,O2.d,O3.d,cmI,arI,envOf,putN,↓reduceIte,Nat.reduceLT,Nat.reduceSub,Nat.reduceAdd,Int.reduceAdd,Int.reduceEq,Int.reduceLT,Int.reduceLE,arr_pos,arr_neg,]
  exact h _ _ (by omega) (hset _).1 (hset _).2
 ·refine D_num _ _ _ hb (by omega) (by simp) (by simp) fun x x0=>?_;simp+contextual(maxSteps:=1000000)(disch:=omega)only[↓Sd,↓So,↓Sk,↓den,↓denA,Sa,Sb,Sc,Se,O1.d,O2.d,O3.d,cmI,arI,envOf,putN,↓reduceIte,Nat.reduceLT,Nat.reduceSub,Nat.reduceAdd,Int.reduceAdd,Int.reduceEq,Int.reduceLT,Int.reduceLE,arr_pos,arr_neg,]
  exact h _ _ (by omega) (hset _).1 (hset _).2
theorem D_l4Some (b:List Int) (p:Int) (s:Sy) (hb:Rdy b) (hp:0≤p∧p≤700000000) (hs:FewSy s) {Q:List AV→Prop} (h:∀(l:List Int) (p':Int),p≤p'∧p'≤p+500→l.length≤401→Q [⟨L I,l⟩,⟨RD,(b,p')⟩]):mc.C f_spec_l4Some [⟨RD,(b,p)⟩,⟨L V3,s.1⟩,⟨L TR,s.2⟩] Q:=by
 refine mc.c_of F_spec_l4Some ?_
 simp+contextual(maxSteps:=1000000)(disch:=omega)only[↓Sd,↓So,↓Sk,↓den,↓denA,Sa,Sb,Sc,Se,O1.d,O2.d,O3.d,cmI,arI,envOf,putN,↓reduceIte,Nat.reduceLT,Nat.reduceSub,Nat.reduceAdd,Int.reduceAdd,Int.reduceEq,Int.reduceLT,Int.reduceLE,arr_pos,arr_neg,tr_spec_l4Some,C_spec_SizeOf s hs]
 obtain ⟨N,hN,hN2⟩:∃N:Nat,(if valid s then sz s.1 else 0)=N∧N≤400:=by
  by_cases g:valid s
  ·have:=szn_eq g;exact ⟨szn s.1,by rw [if_pos g];omega,by omega⟩
  ·exact ⟨0,by rw [if_neg g];rfl,by omega⟩
 rw [hN]
 refine D_num _ _ _ hb (by omega) (by simp) (by simp) fun k k0=>?_;simp+contextual(maxSteps:=1000000)(disch:=omega)only[↓Sd,↓So,↓Sk,↓den,↓denA,Sa,Sb,Sc,Se,O1.d,O2.d,O3.d,cmI,arI,envOf,putN,↓reduceIte,Nat.reduceLT,Nat.reduceSub,Nat.reduceAdd,Int.reduceAdd,Int.reduceEq,Int.reduceLT,Int.reduceLE,arr_pos,arr_neg,]
 have hk:1≤k:=by simp only [List.mem_append,List.mem_singleton] at k0;omega
 refine mc.lp_for (Int×List Int) (fun i s=>[⟨I,(N:Int)⟩,⟨I,k⟩,⟨I,(i:Int)⟩,⟨L U,b⟩,⟨I,s.1⟩,⟨L I,s.2⟩]) (fun i s=>p≤s.1∧s.1≤p+1+i∧s.2.length≤i) N 0 (p+1,[]) _ rfl (Nat.zero_le _) ⟨by dsimp only;omega,by dsimp only;omega,by simp⟩ ?_ ?_
 ·rintro i ⟨p1,l⟩ hi ⟨a1,a2,a3⟩
  simp only at a1 a2 a3
  simp+contextual(maxSteps:=1000000)(disch:=omega)only[↓Sd,↓So,↓Sk,↓den,↓denA,Sa,Sb,Sc,Se,O1.d,O2.d,O3.d,cmI,arI,envOf,putN,↓reduceIte,Nat.reduceLT,Nat.reduceSub,Nat.reduceAdd,Int.reduceAdd,Int.reduceEq,Int.reduceLT,Int.reduceLE,arr_pos,arr_neg,↓wpJoin,]
  refine D_pick1 _ _ _ hb (by omega) (by omega) fun a a0 a1=>?_;simp+contextual(maxSteps:=1000000)(disch:=omega)only[↓Sd,↓So,↓Sk,↓den,↓denA,Sa,Sb,Sc,Se,O1.d,O2.d,O3.d,cmI,arI,envOf,putN,↓reduceIte,Nat.reduceLT,Nat.reduceSub,Nat.reduceAdd,Int.reduceAdd,Int.reduceEq,Int.reduceLT,Int.reduceLE,arr_pos,arr_neg,]
  exact ⟨fun _=>⟨(_,_),⟨rfl,rfl⟩,by dsimp only;omega,by dsimp only;omega,by simp only [List.length_append,List.length_singleton];omega⟩,fun _=>⟨(_,_),⟨rfl,rfl⟩,by dsimp only;omega,by dsimp only;omega,by dsimp only;omega⟩⟩
 ·rintro ⟨p1,l⟩ ⟨a1,a2,a3⟩
  simp only at a1 a2 a3
  simp+contextual(maxSteps:=1000000)(disch:=omega)only[↓Sd,↓So,↓Sk,↓den,↓denA,Sa,Sb,Sc,Se,O1.d,O2.d,O3.d,cmI,arI,envOf,putN,↓reduceIte,Nat.reduceLT,Nat.reduceSub,Nat.reduceAdd,Int.reduceAdd,Int.reduceEq,Int.reduceLT,Int.reduceLE,arr_pos,arr_neg,↓wpJoin,]
  refine D_pick1 _ _ _ hb (by omega) (by omega) fun a a0 a1=>?_;simp+contextual(maxSteps:=1000000)(disch:=omega)only[↓Sd,↓So,↓Sk,↓den,↓denA,Sa,Sb,Sc,Se,O1.d,O2.d,O3.d,cmI,arI,envOf,putN,↓reduceIte,Nat.reduceLT,Nat.reduceSub,Nat.reduceAdd,Int.reduceAdd,Int.reduceEq,Int.reduceLT,Int.reduceLE,arr_pos,arr_neg,]
  refine ⟨fun _=>?_,fun _=>h _ _ (by omega) (by omega)⟩
  refine D_num _ _ _ hb (by omega) (by simp) (by simp) fun x x0=>?_;simp+contextual(maxSteps:=1000000)(disch:=omega)only[↓Sd,↓So,↓Sk,↓den,↓denA,Sa,Sb,Sc,Se,O1.d,O2.d,O3.d,cmI,arI,envOf,putN,↓reduceIte,Nat.reduceLT,Nat.reduceSub,Nat.reduceAdd,Int.reduceAdd,Int.reduceEq,Int.reduceLT,Int.reduceLE,arr_pos,arr_neg,]
  exact h _ _ (by omega) (by simp only [List.length_append,List.length_singleton];omega)
def clo (s:Sy) (l:List Int):Prop:=setV s l∧num s.1 (fst0 s.1)∈l∧∀x∈nextN s l,x∈l
theorem nextN_set {s:Sy} {l:List Int} (h:valid s):lset (nextN s l) 400:=lset_mono (upTo_lset (m:=szn s.1) (Nat.le_refl _)) (by have:=szn_eq h;omega)
theorem nextN_mem {s:Sy} {l:List Int} (h:setV s l) {x:Int}:x∈nextN s l↔∃k:Nat,k<szn s.1∧x=(k:Int)∧∃y∈l,(k:Int)∈(steps s).getD y.toNat []:=by
 rw [nextN,upTo_mem]
 constructor
 ·rintro ⟨k,h1,h2,h3⟩
  exact ⟨k,h1,h2,(behind_mem h.mem).1 (dB_iff.1 h3)⟩
 ·rintro ⟨k,h1,h2,h3⟩
  exact ⟨k,h1,h2,dB_t ((behind_mem h.mem).2 h3)⟩
end Go.Proofs.YtlfinllnfggiiaaGreat
namespace Go.Proofs.YtlfinllnfggiiaaGreat
open Go Go.Sm Go.Sm.Q
set_option linter.unusedSimpArgs false
set_option linter.unusedVariables false
theorem C_impl_closed (s:Sy) (l:List Int) (h:setV s l) (Q:List AV→Prop):mc.C f_impl_closed [⟨L V3,s.1⟩,⟨L TR,s.2⟩,⟨L I,l⟩] Q=Q [⟨B,dB (clo s l)⟩]:=by
 have hv:=h.1
 have hz:=szn_eq hv
 have hll:=h.len
 have hfi:=fst0_in hv.2.2.1
 have hn:=num_bd hv.2.2.1 hfi
 obtain ⟨m,hm,hmn⟩:=first_n hv
 refine Mc.Ends.c (mc.ends F_impl_closed ?_)
 generalize hK:dB (clo s l)=K
 simp+contextual(maxSteps:=1000000)(disch:=omega)only[↓Sd,↓So,↓Sk,↓den,↓denA,Sa,Sb,Sc,Se,O1.d,O2.d,O3.d,cmI,arI,envOf,putN,↓reduceIte,Nat.reduceLT,Nat.reduceSub,Nat.reduceAdd,Int.reduceAdd,Int.reduceEq,Int.reduceLT,Int.reduceLE,arr_pos,arr_neg,tr_impl_closed,C_impl_size s.1 hv.1.2 hv.2.2.1,C_impl_marks_i l (sz s.1) (szn s.1) hz.1.symm (by omega) (by omega) h.mem,C_impl_first s hv.1.2,C_impl_number s _ hv.1.2 hv.2.2.1 hfi,hm,tab_len,tab_get hmn]
 refine ⟨fun g=>?_,fun g=>?_⟩
 ·have e:upTo (ovr (steps s) l) (szn s.1)=nextN s l:=upTo_congr fun k _=>ovr_mem h.mem
  have hX:∀x∈nextN s l,0≤x∧x<(szn s.1:Int):=fun x hx=>by obtain ⟨k,h1,rfl,_⟩:=upTo_mem.1 hx;omega
  have hc:clo s l↔∀x∈nextN s l,x∈l:=⟨fun h=>h.2.2,fun h2=>⟨h,by rw [hm];exact dB_iff.1 g,h2⟩⟩
  have hXl:(nextN s l).length≤szn s.1:=upTo_len
  simp+contextual(maxSteps:=1000000)(disch:=omega)only[↓Sd,↓So,↓Sk,↓den,↓denA,Sa,Sb,Sc,Se,O1.d,O2.d,O3.d,cmI,arI,envOf,putN,↓reduceIte,Nat.reduceLT,Nat.reduceSub,Nat.reduceAdd,Int.reduceAdd,Int.reduceEq,Int.reduceLT,Int.reduceLE,arr_pos,arr_neg,C_impl_nexts s hv,C_impl_over (steps s) l (szn s.1) (by omega) (steps_tbl hv) (by omega) h.mem,e]
  refine lp_all (fun i=>[⟨I,((nextN s l).length:Int)⟩,⟨I,(i:Int)⟩,⟨L I,nextN s l⟩,⟨L B,tab (fun k=>dB ((k:Int)∈l)) (szn s.1)⟩]) (fun i=>(nextN s l).getD i 0∈l) (nextN s l).length _ rfl ?_ ?_
  ·intro i hi
   have h3:=hX _ (getD_mem (d:=0) hi)
   obtain ⟨x,hx⟩:∃x:Nat,(nextN s l).getD i 0=x:=⟨((nextN s l).getD i 0).toNat,by omega⟩
   have hxn:x<szn s.1:=by omega
   simp+contextual(maxSteps:=1000000)(disch:=omega)only[↓Sd,↓So,↓Sk,↓den,↓denA,Sa,Sb,Sc,Se,O1.d,O2.d,O3.d,cmI,arI,envOf,putN,↓reduceIte,Nat.reduceLT,Nat.reduceSub,Nat.reduceAdd,Int.reduceAdd,Int.reduceEq,Int.reduceLT,Int.reduceLE,arr_pos,arr_neg,hx,Int.toNat_natCast,tab_len,tab_get hxn]
   refine ⟨fun g2=>?_,fun g2=>dB_iff.1 (by simpa using g2)⟩
   have h6:¬clo s l:=by
    intro h4
    have h5:=hc.1 h4 _ (getD_mem (d:=0) hi)
    rw [hx] at h5
    rw [dB_t h5] at g2
    cases g2
   rw [←hK,dB_f h6]
   simp
  ·intro h4
   simp+contextual(maxSteps:=1000000)(disch:=omega)only[↓Sd,↓So,↓Sk,↓den,↓denA,Sa,Sb,Sc,Se,O1.d,O2.d,O3.d,cmI,arI,envOf,putN,↓reduceIte,Nat.reduceLT,Nat.reduceSub,Nat.reduceAdd,Int.reduceAdd,Int.reduceEq,Int.reduceLT,Int.reduceLE,arr_pos,arr_neg,]
   rw [←hK,dB_t (hc.2 (all_get (d:=0) h4))]
   rfl
 ·rw [←hK,dB_f]
  intro h2
  have:=h2.2.1
  rw [hm] at this
  exact g (dB_t this)
theorem C_impl_Closed (s:Sy) (l:List Int) (hs:FewSy s) (hl:l.length≤1048576) (Q:List AV→Prop):mc.C f_impl_Closed [⟨L V3,s.1⟩,⟨L TR,s.2⟩,⟨L I,l⟩] Q=Q [⟨B,dB (clo s l)⟩]:=by
 refine Mc.Ends.c (mc.ends F_impl_Closed ?_)
 simp+contextual(maxSteps:=1000000)(disch:=omega)only[↓Sd,↓So,↓Sk,↓den,↓denA,Sa,Sb,Sc,Se,O1.d,O2.d,O3.d,cmI,arI,envOf,putN,↓reduceIte,Nat.reduceLT,Nat.reduceSub,Nat.reduceAdd,Int.reduceAdd,Int.reduceEq,Int.reduceLT,Int.reduceLE,arr_pos,arr_neg,tr_impl_Closed,C_impl_SetValid s l hs hl]
 refine ⟨fun h=>?_,fun h=>?_⟩
 ·simp+contextual(maxSteps:=1000000)(disch:=omega)only[↓Sd,↓So,↓Sk,↓den,↓denA,Sa,Sb,Sc,Se,O1.d,O2.d,O3.d,cmI,arI,envOf,putN,↓reduceIte,Nat.reduceLT,Nat.reduceSub,Nat.reduceAdd,Int.reduceAdd,Int.reduceEq,Int.reduceLT,Int.reduceLE,arr_pos,arr_neg,C_impl_closed s l h]
 ·rw [dB_f fun g=>h g.1]
theorem C_laws_wcHas (l:List Int) (x:Int) (hl:l.length≤1048576) (Q:List AV→Prop):mc.C f_laws_wcHas [⟨L I,l⟩,⟨I,x⟩] Q=Q [⟨B,dB (x∈l)⟩]:=by
 refine Mc.Ends.c (mc.ends F_laws_wcHas ?_)
 generalize hK:dB (x∈l)=K
 simp+contextual(maxSteps:=1000000)(disch:=omega)only[↓Sd,↓So,↓Sk,↓den,↓denA,Sa,Sb,Sc,Se,O1.d,O2.d,O3.d,cmI,arI,envOf,putN,↓reduceIte,Nat.reduceLT,Nat.reduceSub,Nat.reduceAdd,Int.reduceAdd,Int.reduceEq,Int.reduceLT,Int.reduceLE,arr_pos,arr_neg,tr_laws_wcHas]
 refine lp_all (fun i=>[⟨I,x⟩,⟨L I,l⟩,⟨I,(l.length:Int)⟩,⟨I,(i:Int)⟩]) (fun i=>¬l.getD i 0=x) l.length _ rfl ?_ ?_
 ·intro i hi
  simp+contextual(maxSteps:=1000000)(disch:=omega)only[↓Sd,↓So,↓Sk,↓den,↓denA,Sa,Sb,Sc,Se,O1.d,O2.d,O3.d,cmI,arI,envOf,putN,↓reduceIte,Nat.reduceLT,Nat.reduceSub,Nat.reduceAdd,Int.reduceAdd,Int.reduceEq,Int.reduceLT,Int.reduceLE,arr_pos,arr_neg,]
  intro g
  rw [←hK,dB_t]
  rw [←g];exact getD_mem hi
 ·intro h
  simp+contextual(maxSteps:=1000000)(disch:=omega)only[↓Sd,↓So,↓Sk,↓den,↓denA,Sa,Sb,Sc,Se,O1.d,O2.d,O3.d,cmI,arI,envOf,putN,↓reduceIte,Nat.reduceLT,Nat.reduceSub,Nat.reduceAdd,Int.reduceAdd,Int.reduceEq,Int.reduceLT,Int.reduceLE,arr_pos,arr_neg,]
  rw [←hK,dB_f]
  intro hx
  exact all_get (d:=0) (p:=fun y=>¬y=x) h x hx rfl
def hw1 (s:Sy) (l:List Tm) (X:List Int) (x:Int):Prop:=holdsN s l x.toNat=true→∀y∈(steps s).getD x.toNat [],y∈X→holdsN s l y.toNat=true
def hw (s:Sy) (l:List Tm) (X:List Int):Prop:=∀x∈X,hw1 s l X x
theorem D_l15Ask (b:List Int) (hb:Byt b) (hl:Lt63 b) {Q:List AV→Prop} (h:∀(s:Sy) (l:List Tm) (k:Int),SmSy s→l.length≤16→0≤k∧k≤7→Q [⟨L V3,s.1⟩,⟨L TR,s.2⟩,⟨L T4,l⟩,⟨I,k⟩]):mc.C f_spec_l15Ask [⟨L U,b⟩] Q:=by
 refine mc.c_of F_spec_l15Ask ?_
 simp+contextual(maxSteps:=1000000)(disch:=omega)only[↓Sd,↓So,↓Sk,↓den,↓denA,Sa,Sb,Sc,Se,O1.d,O2.d,O3.d,cmI,arI,envOf,putN,↓reduceIte,Nat.reduceLT,Nat.reduceSub,Nat.reduceAdd,Int.reduceAdd,Int.reduceEq,Int.reduceLT,Int.reduceLE,arr_pos,arr_neg,tr_spec_l15Ask]
 refine D_open b hb hl fun b hb=>?_
 simp+contextual(maxSteps:=1000000)(disch:=omega)only[↓Sd,↓So,↓Sk,↓den,↓denA,Sa,Sb,Sc,Se,O1.d,O2.d,O3.d,cmI,arI,envOf,putN,↓reduceIte,Nat.reduceLT,Nat.reduceSub,Nat.reduceAdd,Int.reduceAdd,Int.reduceEq,Int.reduceLT,Int.reduceLE,arr_pos,arr_neg,]
 refine D_l2Any _ _ _ hb (by omega) fun s p' _ hs=>?_
 have h3:=hs.1
 simp+contextual(maxSteps:=1000000)(disch:=omega)only[↓Sd,↓So,↓Sk,↓den,↓denA,Sa,Sb,Sc,Se,O1.d,O2.d,O3.d,cmI,arI,envOf,putN,↓reduceIte,Nat.reduceLT,Nat.reduceSub,Nat.reduceAdd,Int.reduceAdd,Int.reduceEq,Int.reduceLT,Int.reduceLE,arr_pos,arr_neg,]
 refine D_num _ _ _ hb (by omega) (by simp) (by simp) fun k k0=>?_;simp+contextual(maxSteps:=1000000)(disch:=omega)only[↓Sd,↓So,↓Sk,↓den,↓denA,Sa,Sb,Sc,Se,O1.d,O2.d,O3.d,cmI,arI,envOf,putN,↓reduceIte,Nat.reduceLT,Nat.reduceSub,Nat.reduceAdd,Int.reduceAdd,Int.reduceEq,Int.reduceLT,Int.reduceLE,arr_pos,arr_neg,]
 have hk:0≤k∧k≤7:=by simp only [List.mem_append,List.mem_singleton] at k0;omega
 simp+contextual(maxSteps:=1000000)(disch:=omega)only[↓Sd,↓So,↓Sk,↓den,↓denA,Sa,Sb,Sc,Se,O1.d,O2.d,O3.d,cmI,arI,envOf,putN,↓reduceIte,Nat.reduceLT,Nat.reduceSub,Nat.reduceAdd,Int.reduceAdd,Int.reduceEq,Int.reduceLT,Int.reduceLE,arr_pos,arr_neg,C_spec_l2Var (s.1.getD 0 (0,0,0))]
 refine ⟨fun g=>?_,fun g=>⟨fun _=>?_,fun _=>?_⟩⟩
 ·refine D_l1Any _ _ _ hb (by omega) (by omega) fun l p2 h1 h2 h4=>?_
  simp+contextual(maxSteps:=1000000)(disch:=omega)only[↓Sd,↓So,↓Sk,↓den,↓denA,Sa,Sb,Sc,Se,O1.d,O2.d,O3.d,cmI,arI,envOf,putN,↓reduceIte,Nat.reduceLT,Nat.reduceSub,Nat.reduceAdd,Int.reduceAdd,Int.reduceEq,Int.reduceLT,Int.reduceLE,arr_pos,arr_neg,↓wpJoin,]
  exact h s l k hs h4 hk
 ·refine D_l1Any _ _ _ hb (by omega) (by omega) fun l p2 h1 h2 h4=>?_
  simp+contextual(maxSteps:=1000000)(disch:=omega)only[↓Sd,↓So,↓Sk,↓den,↓denA,Sa,Sb,Sc,Se,O1.d,O2.d,O3.d,cmI,arI,envOf,putN,↓reduceIte,Nat.reduceLT,Nat.reduceSub,Nat.reduceAdd,Int.reduceAdd,Int.reduceEq,Int.reduceLT,Int.reduceLE,arr_pos,arr_neg,↓wpJoin,]
  exact h s l k hs h4 hk
 ·refine D_pick1 _ _ _ hb (by omega) (by omega) fun a a0 a1=>?_;simp+contextual(maxSteps:=1000000)(disch:=omega)only[↓Sd,↓So,↓Sk,↓den,↓denA,Sa,Sb,Sc,Se,O1.d,O2.d,O3.d,cmI,arI,envOf,putN,↓reduceIte,Nat.reduceLT,Nat.reduceSub,Nat.reduceAdd,Int.reduceAdd,Int.reduceEq,Int.reduceLT,Int.reduceLE,arr_pos,arr_neg,]
  refine ⟨fun _=>?_,fun _=>?_⟩
  ·refine D_l1Any _ _ _ hb (by omega) (by omega) fun l p2 h1 h2 h4=>?_
   simp+contextual(maxSteps:=1000000)(disch:=omega)only[↓Sd,↓So,↓Sk,↓den,↓denA,Sa,Sb,Sc,Se,O1.d,O2.d,O3.d,cmI,arI,envOf,putN,↓reduceIte,Nat.reduceLT,Nat.reduceSub,Nat.reduceAdd,Int.reduceAdd,Int.reduceEq,Int.reduceLT,Int.reduceLE,arr_pos,arr_neg,↓wpJoin,]
   exact h s l k hs h4 hk
  ·refine D_l2When _ _ _ hb (by omega) (by rw [List.length_take];omega) (by rw [List.length_take];omega) fun l p2 h1 h2=>?_
   simp+contextual(maxSteps:=1000000)(disch:=omega)only[↓Sd,↓So,↓Sk,↓den,↓denA,Sa,Sb,Sc,Se,O1.d,O2.d,O3.d,cmI,arI,envOf,putN,↓reduceIte,Nat.reduceLT,Nat.reduceSub,Nat.reduceAdd,Int.reduceAdd,Int.reduceEq,Int.reduceLT,Int.reduceLE,arr_pos,arr_neg,↓wpJoin,]
   exact h s l k hs (by omega) hk
theorem dg_num {l:List Vr} {st:List Int} (hv:∀v∈l,vOk v) (hst:inR l st):∀{j:Nat},j≤l.length→dg (l.drop (l.length - j)) (num l st)=(numN l st (l.length - j),st.drop (l.length - j))
 | 0,_=>by
  have h1:l.drop (l.length - 0)=[]:=by simp
  have h2:st.drop (l.length - 0)=[]:=by rw [←hst.1];simp
  rw [h1,h2];rfl
 | j+1,hj=>by
  have ih:=dg_num hv hst (j:=j) (by omega)
  obtain ⟨k,hk⟩:∃k,l.length - (j+1)=k:=⟨_,rfl⟩
  have hk1:l.length - j=k+1:=by omega
  have hkl:k<l.length:=by omega
  rw [hk1] at ih
  rw [hk,dg_next hkl,ih]
  have h1:=hst.2 k hkl
  have h3:=wd_ok (hv _ (getD_mem (d:=(0,0,0)) hkl))
  have h6:wd (l.getD k (0,0,0))=(l.getD k (0,0,0)).2.1 - (l.getD k (0,0,0)).1+1:=rfl
  have hst1:=hst.1
  rw [drop_cons (l:=st) (d:=0) (show k<st.length by omega)]
  simp only [numN]
  generalize wd (l.getD k (0,0,0))=w at *
  generalize (l.getD k (0,0,0))=v at *
  generalize st.getD k 0=x at *
  generalize numN l st k=a at *
  have e:a * w+x - v.1=(x - v.1)+a * w:=by omega
  have e1:(x - v.1+a * w) / w=a:=by rw [Int.add_mul_ediv_right _ _ (by omega),Int.ediv_eq_zero_of_lt (by omega) (by omega)];omega
  have e2:(x - v.1+a * w) % w=x - v.1:=by rw [Int.add_mul_emod_self_right,Int.emod_eq_of_lt (by omega) (by omega)]
  rw [e,e1,e2]
  congr 2
  omega
theorem stAt_num {l:List Vr} {st:List Int} (hv:∀v∈l,vOk v) (hst:inR l st):stAt l (num l st)=st:=by
 have:=dg_num hv hst (Nat.le_refl _)
 rw [Nat.sub_self,List.drop_zero,List.drop_zero] at this
 rw [stAt,this]
theorem nxtN_rule {s:Sy} {st x:List Int}:∀{k:Nat},x∈nxtN s st k→∃r,r<k∧useM s.1 (s.2.getD r ([],[],[])) st=x∧x≠[]
 | 0,h=>by simp [nxtN] at h
 | k+1,h=>by
  simp only [nxtN] at h
  split at h
  ·obtain ⟨r,h1,h2⟩:=nxtN_rule h;exact ⟨r,by omega,h2⟩
  ·rename_i h1
   rcases putM_mem h with rfl | h
   ·exact ⟨k,by omega,rfl,h1⟩
   ·obtain ⟨r,h1,h2⟩:=nxtN_rule h;exact ⟨r,by omega,h2⟩
theorem step_rule {s:Sy} (h:valid s) {a k:Nat} (ha:a<szn s.1) (hk:(k:Int)∈(steps s).getD a []):∃r,r<s.2.length∧useM s.1 (s.2.getD r ([],[],[])) (stN s a)=stN s k∧stN s k≠[]:=by
 rw [steps,tab_get ha,stepR] at hk
 obtain ⟨x,h1,h2⟩:=List.mem_map.1 hk
 obtain ⟨r,h3,h4,h5⟩:=nxtN_rule h1
 have h6:stN s k=x:=by rw [stN,←h2];exact stAt_num h.2.2.1 (nxt_in x h1)
 exact ⟨r,h3,by rw [h6];exact h4,by rw [h6];exact h5⟩
theorem stN_first {s:Sy} (h:valid s) {m:Nat} (hm:num s.1 (fst0 s.1)=m):stN s m=fst0 s.1:=by rw [stN,←hm];exact stAt_num h.2.2.1 (fst0_in h.2.2.1)
def fst1 (p:Nat→Bool):Nat→Int
 | 0 => -1
 | n+1=>if 0≤fst1 p n then fst1 p n else if p n=true then (n:Int) else -1
theorem fst1_none {p:Nat→Bool}:∀{n:Nat},(∀j,j<n→¬p j=true)→fst1 p n = -1
 | 0,_=>rfl
 | n+1,h=>by rw [fst1,fst1_none fun j hj=>h j (by omega),if_neg (by omega),if_neg (h n (by omega))]
theorem fst1_hit {p:Nat→Bool} {i:Nat} (hp:p i=true) (h:∀j,j<i→¬p j=true):∀{n:Nat},i<n→fst1 p n=i
 | 0,hi=>absurd hi (Nat.not_lt_zero _)
 | n+1,hi=>by
  rw [fst1]
  by_cases g:i<n
  ·rw [fst1_hit hp h g,if_pos (by omega)]
  ·have:i=n:=by omega
   subst this
   rw [fst1_none h,if_neg (by omega),if_pos hp]
theorem fst1_ge {p:Nat→Bool} {i n:Nat} (hi:i<n) (hp:p i=true):0≤fst1 p n:=by
 obtain ⟨d,h1,h2⟩:=least (P:=fun i=>p i=true) ⟨i,hp⟩
 have:¬i<d:=fun g=>h2 i g hp
 rw [fst1_hit h1 h2 (show d<n by omega)];omega
def rbt (s:Sy) (a b:List Int):Int:=fst1 (fun r=>decide (useM s.1 (s.2.getD r ([],[],[])) a≠[]∧useM s.1 (s.2.getD r ([],[],[])) a=b)) s.2.length
theorem rbt_step {s:Sy} (h:valid s) {a k:Nat} (ha:a<szn s.1) (hk:(k:Int)∈(steps s).getD a []):0≤rbt s (stN s a) (stN s k):=by
 obtain ⟨r,h1,h2,h3⟩:=step_rule h ha hk
 exact fst1_ge h1 (decide_eq_true ⟨by rw [h2];exact h3,h2⟩)
def IsPrd (T:List (List Int)) (f:Nat→Int) (n k a:Nat):Prop:=a<n∧f a+1=f k∧(k:Int)∈T.getD a []∧∀b,b<a→¬(f b+1=f k∧(k:Int)∈T.getD b [])
def Chain (T:List (List Int)) (f:Nat→Int) (n k D:Nat) (ch:Nat→Nat):Prop:=ch D=k∧(∀e,e<D→IsPrd T f n (ch (e+1)) (ch e))∧∀e,e≤D→ch e<n∧f (ch e)=e
theorem Chain.few {T:List (List Int)} {f:Nat→Int} {n k D:Nat} {ch:Nat→Nat} (h:Chain T f n k D ch):D<n:=by
 have key:∀e,e≤D→e<(upTo (fun k=>decide (0≤f k∧f k≤(e:Int))) n).length:=by
  intro e
  induction e with
  | zero =>
   intro _
   have h1:=h.2.2 0 (by omega)
   exact upTo_pos.2 ⟨ch 0,h1.1,decide_eq_true (by omega)⟩
  | succ e ih =>
   intro he
   have h1:=ih (by omega)
   have h2:=h.2.2 (e+1) he
   have h3:=upTo_mono (p:=fun k=>decide (0≤f k∧f k≤(e:Int))) (q:=fun k=>decide (0≤f k∧f k≤((e+1:Nat):Int))) (n:=n) fun k _ hk=>decide_eq_true (by have:=of_decide_eq_true hk;omega)
   by_cases g:(upTo (fun k=>decide (0≤f k∧f k≤((e+1:Nat):Int))) n).length≤(upTo (fun k=>decide (0≤f k∧f k≤(e:Int))) n).length
   ·have h4:=h3.2 g (ch (e+1)) h2.1 (decide_eq_true (by omega))
    have h5:=of_decide_eq_true h4
    omega
   ·omega
 have h1:=key D (Nat.le_refl _)
 have h2:=@upTo_len (fun k=>decide (0≤f k∧f k≤(D:Int))) n
 omega
theorem useM_few {s:Sy} (h:valid s) {r:Ru} {a:List Int}:(useM s.1 r a).length≤1048576:=by
 by_cases h0:useM s.1 r a=[]
 ·rw [h0];simp
 ·have h1:=(useM_in h0).1;have h2:=h.1.2;omega
theorem rbt_next {s:Sy} {a b:List Int} {i:Nat} (hp:∀j,j<i→¬(¬useM s.1 (s.2.getD j ([],[],[])) a=[]∧useM s.1 (s.2.getD j ([],[],[])) a=b)):¬(¬useM s.1 (s.2.getD i ([],[],[])) a=[]∧useM s.1 (s.2.getD i ([],[],[])) a=b) →
  ∀j,j<i+1→¬(¬useM s.1 (s.2.getD j ([],[],[])) a=[]∧useM s.1 (s.2.getD j ([],[],[])) a=b):=by
 intro hn j hj
 rcases Nat.lt_succ_iff_lt_or_eq.1 hj with hj | rfl
 ·exact hp j hj
 ·exact hn
theorem C_spec_l3Between (s:Sy) (a b:List Int) (h:valid s) (ha:inR s.1 a) (hb:b.length≤1048576) (Q:List AV→Prop):mc.C f_spec_l3Between [⟨L V3,s.1⟩,⟨L TR,s.2⟩,⟨L I,a⟩,⟨L I,b⟩] Q=Q [⟨I,rbt s a b⟩]:=by
 refine Mc.Ends.c (mc.ends F_spec_l3Between ?_)
 generalize hK:rbt s a b=K
 simp+contextual(maxSteps:=1000000)(disch:=omega)only[↓Sd,↓So,↓Sk,↓den,↓denA,Sa,Sb,Sc,Se,O1.d,O2.d,O3.d,cmI,arI,envOf,putN,↓reduceIte,Nat.reduceLT,Nat.reduceSub,Nat.reduceAdd,Int.reduceAdd,Int.reduceEq,Int.reduceLT,Int.reduceLE,arr_pos,arr_neg,tr_spec_l3Between]
 refine mc.lp_for Unit (fun i _=>[⟨L I,a⟩,⟨L I,b⟩,⟨I,(i:Int)⟩,⟨L V3,s.1⟩,⟨L TR,s.2⟩]) (fun i _=>∀j,j<i→¬(¬useM s.1 (s.2.getD j ([],[],[])) a=[]∧useM s.1 (s.2.getD j ([],[],[])) a=b)) s.2.length 0 () _ rfl (Nat.zero_le _) (fun j hj=>absurd hj (Nat.not_lt_zero _)) ?_ ?_
 ·rintro i - hi hp
  have hu:(useM s.1 (s.2.getD i ([],[],[])) a).length≤1048576:=useM_few h
  have next:=rbt_next (s:=s) (a:=a) (b:=b) hp
  have h8:=h.2.1
  have hit:(¬useM s.1 (s.2.getD i ([],[],[])) a=[]∧useM s.1 (s.2.getD i ([],[],[])) a=b)→(i:Int)=K:=fun hh=>by
   rw [←hK,rbt,fst1_hit (i:=i) (decide_eq_true hh) (fun j hj h=>hp j hj (of_decide_eq_true h)) hi]
  simp+contextual(maxSteps:=1000000)(disch:=omega)only[↓Sd,↓So,↓Sk,↓den,↓denA,Sa,Sb,Sc,Se,O1.d,O2.d,O3.d,cmI,arI,envOf,putN,↓reduceIte,Nat.reduceLT,Nat.reduceSub,Nat.reduceAdd,Int.reduceAdd,Int.reduceEq,Int.reduceLT,Int.reduceLE,arr_pos,arr_neg,↓wpJoin,C_spec_l2Use s a i h ha hi,C_spec_l2Same (useM s.1 (s.2.getD i ([],[],[])) a) b hu hb]
  have hpos:¬useM s.1 (s.2.getD i ([],[],[])) a=[]↔((useM s.1 (s.2.getD i ([],[],[])) a).length:Int) > 0:=by
   rw [←ne_eq,←List.length_pos_iff];omega
  exact ⟨fun g1=>⟨fun g2=>hit ⟨hpos.2 g1,g2⟩,fun g2=>next fun h=>g2 h.2⟩,fun g1=>next fun h=>g1 (hpos.1 h.1)⟩
 ·rintro - hp
  simp+contextual(maxSteps:=1000000)(disch:=omega)only[↓Sd,↓So,↓Sk,↓den,↓denA,Sa,Sb,Sc,Se,O1.d,O2.d,O3.d,cmI,arI,envOf,putN,↓reduceIte,Nat.reduceLT,Nat.reduceSub,Nat.reduceAdd,Int.reduceAdd,Int.reduceEq,Int.reduceLT,Int.reduceLE,arr_pos,arr_neg,]
  rw [←hK,rbt,fst1_none fun j hj h=>hp j hj (of_decide_eq_true h)]
theorem C_slices_Equal (a b:List Int) (ha:a.length≤1048576) (hb:b.length≤1048576) (Q:List AV→Prop):mc.C f_slices_Equal_Sint_int [⟨L I,a⟩,⟨L I,b⟩] Q=Q [⟨B,decide (a=b)⟩]:=by
 refine Mc.Ends.c (mc.ends F_slices_Equal_Sint_int ?_)
 generalize hK:decide (a=b)=K
 simp+contextual(maxSteps:=1000000)(disch:=omega)only[↓Sd,↓So,↓Sk,↓den,↓denA,Sa,Sb,Sc,Se,O1.d,O2.d,O3.d,cmI,arI,envOf,putN,↓reduceIte,Nat.reduceLT,Nat.reduceSub,Nat.reduceAdd,Int.reduceAdd,Int.reduceEq,Int.reduceLT,Int.reduceLE,arr_pos,arr_neg,tr_slices_Equal_Sint_int]
 refine ⟨fun g=>?_,fun g=>?_⟩
 ·rw [←hK,decide_eq_false];intro h;rw [h] at g;exact g rfl
 ·have hl:a.length=b.length:=by omega
  refine lp_all (fun i=>[⟨L I,a⟩,⟨L I,b⟩,⟨I,(a.length:Int)⟩,⟨I,(i:Int)⟩]) (fun i=>a.getD i 0=b.getD i 0) a.length _ ?_ ?_ ?_
  ·rw [hl];rfl
  ·intro i hi
   simp+contextual(maxSteps:=1000000)(disch:=omega)only[↓Sd,↓So,↓Sk,↓den,↓denA,Sa,Sb,Sc,Se,O1.d,O2.d,O3.d,cmI,arI,envOf,putN,↓reduceIte,Nat.reduceLT,Nat.reduceSub,Nat.reduceAdd,Int.reduceAdd,Int.reduceEq,Int.reduceLT,Int.reduceLE,arr_pos,arr_neg,]
   intro h
   rw [←hK,decide_eq_false]
   intro h2;rw [h2] at h;exact h rfl
  ·intro h
   simp+contextual(maxSteps:=1000000)(disch:=omega)only[↓Sd,↓So,↓Sk,↓den,↓denA,Sa,Sb,Sc,Se,O1.d,O2.d,O3.d,cmI,arI,envOf,putN,↓reduceIte,Nat.reduceLT,Nat.reduceSub,Nat.reduceAdd,Int.reduceAdd,Int.reduceEq,Int.reduceLT,Int.reduceLE,arr_pos,arr_neg,]
   rw [←hK,decide_eq_true]
   refine List.ext_getElem hl fun i h1 h2=>?_
   have:=h i h1
   rwa [getD_lt h1,getD_lt h2] at this
structure IsRun (s:Sy) (D:Nat) (f:Nat→List Int):Prop where
 few:D<500
 first:f 0=fst0 s.1
 inr:∀e,e≤D→inR s.1 (f e)
 rule:∀e,e<D→0≤rbt s (f e) (f (e+1))
def rules (s:Sy) (f:Nat→List Int) (D:Nat):List Int:=tab (fun e=>rbt s (f e) (f (e+1))) D
theorem IsRun.len {s:Sy} {D:Nat} {f:Nat→List Int} (hv:valid s) (h:IsRun s D f) {e:Nat} (he:e≤D):(f e).length≤1048576:=by
 have:=(h.inr e he).1
 have:=hv.1.2
 omega
theorem C_spec_TraceOf (s:Sy) (D:Nat) (f:Nat→List Int) (hs:FewSy s) (h:valid s) (hr:IsRun s D f) (Q:List AV→Prop):mc.C f_spec_TraceOf [⟨L V3,s.1⟩,⟨L TR,s.2⟩,⟨L (L I),tab f (D+1)⟩] Q=Q [⟨L (L I),tab f (D+1)⟩,⟨L I,rules s f D⟩,⟨B,true⟩]:=by
 have hl:(tab f (D+1)).length=D+1:=tab_len
 have hd:=hr.few
 have h0:(tab f (D+1)).getD 0 []=fst0 s.1:=by rw [tab_get (by omega)];exact hr.first
 have hfl:(fst0 s.1).length≤1048576:=by rw [←hr.first];exact hr.len h (by omega)
 refine Mc.Ends.c (mc.ends F_spec_TraceOf ?_)
 simp+contextual(maxSteps:=1000000)(disch:=omega)only[↓Sd,↓So,↓Sk,↓den,↓denA,Sa,Sb,Sc,Se,O1.d,O2.d,O3.d,cmI,arI,envOf,putN,↓reduceIte,Nat.reduceLT,Nat.reduceSub,Nat.reduceAdd,Int.reduceAdd,Int.reduceEq,Int.reduceLT,Int.reduceLE,arr_pos,arr_neg,tr_spec_TraceOf,C_spec_SystemValid s hs,h,hl,C_spec_l1In,h0,C_spec_FirstState s hs h,C_spec_l2Same _ _ hfl hfl,C_spec_l3Copy _ hfl]
 refine mc.lp_for (List (List Int)×List Int) (fun i o=>[⟨L (L I),tab f (D+1)⟩,⟨I,(i:Int)⟩,⟨L V3,s.1⟩,⟨L TR,s.2⟩,⟨L (L I),o.1⟩,⟨L I,o.2⟩]) (fun i o=>1≤i∧o.1=tab f i∧o.2=rules s f (i - 1)) (D+1) 1 ([fst0 s.1],[]) _ rfl (by omega) ⟨Nat.le_refl _,by rw [←hr.first];rfl,rfl⟩ ?_ ?_
 ·rintro i ⟨o1,o2⟩ hi ⟨h1,h4,h5⟩
  simp only at h4 h5
  subst h4 h5
  obtain ⟨e,rfl⟩:∃e,i=e+1:=⟨i - 1,by omega⟩
  have e1:(((e+1:Nat):Int) - 1).toNat=e:=by omega
  have e2:((e:Int)+1).toNat=e+1:=by omega
  have h2:=hr.rule e (by omega)
  have h3:(rules s f e).length=e:=tab_len
  have h6:=hr.len h (show e+1≤D by omega)
  have h7:=hr.inr (e+1) (by omega)
  have h8:(tab f (e+1)).length=e+1:=tab_len
  simp+contextual(maxSteps:=1000000)(disch:=omega)only[↓Sd,↓So,↓Sk,↓den,↓denA,Sa,Sb,Sc,Se,O1.d,O2.d,O3.d,cmI,arI,envOf,putN,↓reduceIte,Nat.reduceLT,Nat.reduceSub,Nat.reduceAdd,Int.reduceAdd,Int.reduceEq,Int.reduceLT,Int.reduceLE,arr_pos,arr_neg,hl,e1,e2,tab_get (show e<D+1 by omega),tab_get (show e+1<D+1 by omega),C_spec_l2In s _ h.1.2 h6,h7,C_spec_l3Between s (f e) (f (e+1)) h (hr.inr e (by omega)) h6,C_spec_l3Copy _ h6,Nat.add_sub_cancel]
  exact ⟨(_,_),⟨rfl,rfl⟩,by omega,tab_next,tab_next⟩
 ·rintro ⟨o1,o2⟩ ⟨-,h4,h5⟩
  simp only at h4 h5
  subst h4 h5
  simp+contextual(maxSteps:=1000000)(disch:=omega)only[↓Sd,↓So,↓Sk,↓den,↓denA,Sa,Sb,Sc,Se,O1.d,O2.d,O3.d,cmI,arI,envOf,putN,↓reduceIte,Nat.reduceLT,Nat.reduceSub,Nat.reduceAdd,Int.reduceAdd,Int.reduceEq,Int.reduceLT,Int.reduceLE,arr_pos,arr_neg,hl,Nat.add_sub_cancel]
def SmSS (l:List (List Int)):Prop:=l.length≤4000∧∀x∈l,x.length≤4000
theorem SmSS.row {l:List (List Int)} (h:SmSS l) (i:Nat):(l.getD i []).length≤4000:=by
 by_cases hi:i<l.length
 ·exact h.2 _ (getD_mem hi)
 ·rw [List.getD_eq_getElem?_getD,List.getElem?_eq_none (by omega)];simp
theorem dg_drop {l:List Vr} {n:Int}:∀{k:Nat},k≤l.length→(dg l n).2.drop k=(dg (l.drop k) n).2
 | 0,_=>rfl
 | k+1,hk=>by
  have ih:=dg_drop (l:=l) (n:=n) (k:=k) (by omega)
  rw [dg_next (n:=n) (show k<l.length by omega)] at ih
  rw [←List.drop_drop,ih]
  rfl
theorem stAt_get {l:List Vr} {n:Int} {k:Nat} (hk:k<l.length):(stAt l n).getD k 0=(l.getD k (0,0,0)).1+(dg (l.drop (k+1)) n).1 % wd (l.getD k (0,0,0)):=by
 have h:=dg_drop (l:=l) (n:=n) (k:=k) (by omega)
 rw [dg_next (n:=n) hk] at h
 have hl:k<(stAt l n).length:=by rw [stAt,dg_len];exact hk
 rw [←stAt,drop_cons (d:=0) hl] at h
 exact (List.cons.inj h).1
theorem num_dg {l:List Vr} {n:Int}:∀{k:Nat},k≤l.length→(dg (l.drop k) n).1=(dg l n).1 * sz (l.take k)+numN l (stAt l n) k
 | 0,_=>by simp [numN,sz]
 | k+1,hk=>by
  have ih:=num_dg (l:=l) (n:=n) (k:=k) (by omega)
  rw [dg_next (n:=n) (show k<l.length by omega)] at ih
  simp only at ih
  have h2:=stAt_get (l:=l) (n:=n) (k:=k) (by omega)
  have h3:=Int.mul_ediv_add_emod (dg (l.drop (k+1)) n).1 (wd (l.getD k (0,0,0)))
  rw [sz_next (d:=(0,0,0)) (show k<l.length by omega)]
  simp only [numN]
  rw [h2]
  rw [ih,Int.mul_add,Int.mul_comm _ ((dg l n).1 * sz (l.take k)),Int.mul_comm _ (numN l (stAt l n) k),Int.mul_assoc] at h3
  omega
theorem num_stAt {l:List Vr} {n:Int} (hv:∀v∈l,vOk v) (hn:0≤n∧n<sz l) (hs:sz l≤400):num l (stAt l n)=n:=by
 have h1:=num_dg (l:=l) (n:=n) (Nat.le_refl _)
 rw [List.take_length,List.drop_length] at h1
 have h2:=num_bd hv (stAt_in (n:=n) hv (by omega))
 have h3:=(dg_bd (n:=n) hv (by omega)).1
 have h4:n=(dg l n).1 * sz l+num l (stAt l n):=h1
 have h5:(dg l n).1=0:=by
  refine Classical.byContradiction fun g=>?_
  have h6:1 * sz l≤(dg l n).1 * sz l:=Int.mul_le_mul_of_nonneg_right (by omega) (by omega)
  omega
 rw [h5] at h4
 omega
theorem num_stN {s:Sy} (h:valid s) {k:Nat} (hk:k<szn s.1):num s.1 (stN s k)=k:=by
 have:=szn_eq h
 exact num_stAt h.2.2.1 (by omega) h.2.2.2.2
def FewSS (F:List (List Tm)):Prop:=Few F∧∀x∈F,Few x
theorem FewSS.row {F:List (List Tm)} (h:FewSS F) (i:Nat):Few (F.getD i []):=by
 by_cases hi:i<F.length
 ·exact h.2 _ (getD_mem hi)
 ·rw [List.getD_eq_getElem?_getD,List.getElem?_eq_none (by omega)];simp [Few]
theorem SmSS.few {l:List (List Int)} (h:SmSS l):l.length≤1048576∧∀x∈l,x.length≤1048576:=⟨by have:=h.1;omega,fun x hx=>by have:=h.2 x hx;omega⟩
def hnP (s:Sy) (q:Nat→Bool) (c:List Int):Prop:=∀k,k<szn s.1→q k=true→inC s c k=false
noncomputable def cub (s:Sy) (q:Nat→Bool) (k:Nat):List Int:=wdn (hnP s q) (sb s (stN s k)) (sb s (stN s k)).length
theorem vb_inj {a b w:Nat} (ha:a<2 ^ w) (hb:b<2 ^ w) (h:vb a w=vb b w):a=b:=by
 refine Nat.eq_of_testBit_eq fun j=>?_
 by_cases hj:j<w
 ·have h1 := congrArg (fun l => l.getD (w - 1 - j) 0) h
  simp only [vb, tab_get (show w - 1 - j < w by omega), show w - 1 - (w - 1 - j) = j by omega] at h1
  rw [Nat.testBit_eq_decide_div_mod_eq,Nat.testBit_eq_decide_div_mod_eq]
  have:a / 2 ^ j % 2=b / 2 ^ j % 2:=by omega
  rw [this]
 ·have hp:2 ^ w≤2 ^ j:=Nat.pow_le_pow_right (by omega) (by omega)
  rw [Nat.testBit_lt_two_pow (by omega),Nat.testBit_lt_two_pow (by omega)]
theorem bn_lt {w:Int} (h:1≤w∧w≤20):w.toNat≤2 ^ (bn w).toNat:=by
 unfold bn
 split
 ·simp;omega
 split
 ·simp;omega
 split
 ·simp;omega
 split
 ·simp;omega
 split
 ·simp;omega
 ·simp;omega
theorem sbN_inj {s:Sy} (h:valid s) {a b:List Int} (ha:inR s.1 a) (hb:inR s.1 b):∀{i:Nat},i≤s.1.length→sbN s.1 a i=sbN s.1 b i→∀j,j<i→a.getD j 0=b.getD j 0
 | 0,_,_,j,hj=>absurd hj (Nat.not_lt_zero _)
 | i+1,hi,he,j,hj=>by
  simp only [sbN] at he
  have hl:(sbN s.1 a i).length=(sbN s.1 b i).length:=by
   have h1:=@sbN_len s.1 a i
   have h2:=@sbN_len s.1 b i
   omega
  obtain ⟨h1,h2⟩:=List.append_inj he hl
  rcases Nat.lt_succ_iff_lt_or_eq.1 hj with hj | rfl
  ·exact sbN_inj h ha hb (by omega) h1 j hj
  ·have hv:=h.2.2.1 _ (getD_mem (d:=(0,0,0)) hi)
   have a1:=ha.2 j hi
   have b1:=hb.2 j hi
   unfold bw at h2
   generalize s.1.getD j (0,0,0)=v at hv a1 b1 h2
   unfold vOk at hv
   have hw:1≤wd v∧wd v≤20:=by unfold wd;omega
   have hw2:=bn_lt hw
   have hwe:wd v=v.2.1 - v.1+1:=rfl
   have:=vb_inj (by omega) (by omega) h2
   omega
theorem sb_inj {s:Sy} (h:valid s) {a b:List Int} (ha:inR s.1 a) (hb:inR s.1 b) (he:sb s a=sb s b):a=b:=by
 have h1:=sbN_inj h ha hb (Nat.le_refl _) he
 have la:=ha.1
 have lb:=hb.1
 refine List.ext_getElem (by omega) fun i h2 h3=>?_
 have:=h1 i (by omega)
 rwa [getD_lt h2,getD_lt h3] at this
theorem sb_has {s:Sy} {a b:List Int} (hh:cHas (sb s a) (sb s b)):sb s a=sb s b:=by
 have la:=@sb_len s a
 have lb:=@sb_len s b
 refine List.ext_getElem (by omega) fun i h2 h3=>?_
 have h4:=hh i h2
 have h5:=sbN_bit (l:=s.1) (st:=a) (i:=s.1.length) _ (show (sb s a).getD i 0∈sb s a from getD_mem h2)
 rw [getD_lt h2] at h5 h4
 rw [getD_lt h3] at h4
 rcases h4 with h4 | h4
 ·omega
 ·exact h4
theorem inC_sb {s:Sy} (h:valid s) {k x:Nat} (hk:k<szn s.1) (hx:x<szn s.1) (hi:inC s (sb s (stN s x)) k=true):k=x:=by
 have h1:=sb_inj h (stN_in h hx) (stN_in h hk) (sb_has (dB_iff.1 hi))
 have h2:=num_stN h hk
 have h3:=num_stN h hx
 rw [h1] at h3
 omega
theorem C_spec_l14Range (n:Nat) (hn:n≤1048576) (Q:List AV→Prop):mc.C f_spec_l14Range [⟨I,0⟩,⟨I,(n:Int)⟩] Q=Q [⟨L I,upTo (fun _=>true) n⟩]:=by
 refine Mc.Ends.c (mc.ends F_spec_l14Range ?_)
 simp+contextual(maxSteps:=1000000)(disch:=omega)only[↓Sd,↓So,↓Sk,↓den,↓denA,Sa,Sb,Sc,Se,O1.d,O2.d,O3.d,cmI,arI,envOf,putN,↓reduceIte,Nat.reduceLT,Nat.reduceSub,Nat.reduceAdd,Int.reduceAdd,Int.reduceEq,Int.reduceLT,Int.reduceLE,arr_pos,arr_neg,tr_spec_l14Range]
 refine mc.lp_for (List Int) (fun i o=>[⟨I,0⟩,⟨I,(n:Int)⟩,⟨I,(i:Int)⟩,⟨L I,o⟩]) (fun i o=>o=upTo (fun _=>true) i) n 0 [] _ rfl (Nat.zero_le _) rfl ?_ ?_
 ·rintro i o hi rfl
  have h1:=@upTo_len (fun _=>true) i
  simp+contextual(maxSteps:=1000000)(disch:=omega)only[↓Sd,↓So,↓Sk,↓den,↓denA,Sa,Sb,Sc,Se,O1.d,O2.d,O3.d,cmI,arI,envOf,putN,↓reduceIte,Nat.reduceLT,Nat.reduceSub,Nat.reduceAdd,Int.reduceAdd,Int.reduceEq,Int.reduceLT,Int.reduceLE,arr_pos,arr_neg,]
  rw [Int.zero_add]
  exact (upTo_s (p:=fun _=>true) rfl).symm
 ·rintro o rfl
  simp+contextual(maxSteps:=1000000)(disch:=omega)only[↓Sd,↓So,↓Sk,↓den,↓denA,Sa,Sb,Sc,Se,O1.d,O2.d,O3.d,cmI,arI,envOf,putN,↓reduceIte,Nat.reduceLT,Nat.reduceSub,Nat.reduceAdd,Int.reduceAdd,Int.reduceEq,Int.reduceLT,Int.reduceLE,arr_pos,arr_neg,]
theorem C_spec_l15Good (s:Sy) (l:List Tm) (hs:FewSy s) (hf:Few l) (h:valid s∧kf l s.1.length=2) (Q:List AV→Prop):mc.C f_spec_l15Good [⟨L V3,s.1⟩,⟨L TR,s.2⟩,⟨L T4,l⟩] Q=Q [⟨L B,tab (holdsN s l) (szn s.1)⟩]:=by
 refine Mc.Ends.c (mc.ends F_spec_l15Good ?_)
 have hz:=szn_eq h.1
 simp+contextual(maxSteps:=1000000)(disch:=omega)only[↓Sd,↓So,↓Sk,↓den,↓denA,Sa,Sb,Sc,Se,O1.d,O2.d,O3.d,cmI,arI,envOf,putN,↓reduceIte,Nat.reduceLT,Nat.reduceSub,Nat.reduceAdd,Int.reduceAdd,Int.reduceEq,Int.reduceLT,Int.reduceLE,arr_pos,arr_neg,tr_spec_l15Good,C_spec_StatesWhere s l hs hf h.1 h.2,C_spec_SizeOf s hs,if_pos h.1,C_spec_l4Marks_i (upTo (holdsN s l) (szn s.1)) (sz s.1) (szn s.1) hz.1.symm (by omega) (Nat.le_trans upTo_len (by omega)) (fun x hx=>by obtain ⟨a,h1,rfl,_⟩:=upTo_mem.1 hx;omega)]
 exact tab_congr fun k hk=>by rw [dB_upTo];simp [hk]
structure Tj where
 c:Nat
 o:Nat→Nat
 lw:Nat→Nat
 st:List Nat
 out:Nat→Int
structure TInv (U:List (List Int)) (n:Nat) (p:Nat→Bool) (s:Tj) (G:List Nat):Prop where
 lt:∀k,s.o k≠0→k<n∧p k=true
 cnt:∀k,s.o k≤s.c
 stv:∀k,k∈s.st↔s.o k≠0∧s.out k<0
 ord:s.st.Pairwise (fun a b=>s.o a<s.o b)
 outs:∀k,s.out k<0→s.out k = -1
 outv:∀k,0≤s.out k→s.o k≠0
 clsd:∀k y:Nat,0≤s.out k→(y:Int)∈U.getD k []→0≤s.out y
 outc:∀k,0≤s.out k→s.out k=cmp U n k
 blk:∀k y:Nat,s.o k≠0→k∉G→(y:Int)∈U.getD k []→s.o y≠0
 gst:∀g∈G,g∈s.st
 low:∀y∈s.st,∃g∈G,s.o g≤s.o y∧Rch U [(y:Int)] g
 acc:∀g∈G,∀y∈s.st,s.o g≤s.o y→Rch U [(g:Int)] y
 cc:s.c+cntF (fun k=>decide (s.o k≠0)) n≤n
 len:s.st.length≤s.c
theorem TInv.few {U:List (List Int)} {n:Nat} {p:Nat→Bool} {s:Tj} {G:List Nat} (h:TInv U n p s G):s.c≤n∧s.st.length≤n:=by
 have h1:=h.cc
 have h2:=h.len
 omega
def fn0 (s:Sy):Nat:=(num s.1 (fst0 s.1)).toNat
theorem fn0_eq {s:Sy} (h:valid s):num s.1 (fst0 s.1)=(fn0 s:Int)∧fn0 s<szn s.1:=by
 obtain ⟨m,hm,hmn⟩:=first_n h
 have:fn0 s=m:=by unfold fn0;rw [hm];rfl
 rw [this];exact ⟨hm,hmn⟩
def muP (n:Nat) (F:Nat→Nat→Bool):Nat→Nat
 | 0=>0
 | m+1=>muP n F m+(upTo (F m) n).length
theorem muP_le {n:Nat} {F G:Nat→Nat→Bool}:∀{m:Nat},(∀i k,i<m→k<n→F i k=true→G i k=true)→muP n F m≤muP n G m
 | 0,_=>Nat.le_refl _
 | m+1,h=>by
  have h1:=muP_le (n:=n) (F:=F) (G:=G) (m:=m) fun i k hi=>h i k (by omega)
  have h2:=(upTo_mono (p:=F m) (q:=G m) (n:=n) fun k hk=>h m k (Nat.lt_succ_self _) hk).1
  simp only [muP];omega
theorem muP_lt {n:Nat} {F G:Nat→Nat→Bool} {l k0:Nat} (hk0:k0<n) (h2:G l k0=true) (h3:¬F l k0=true):∀{m:Nat},l<m→(∀i k,i<m→k<n→F i k=true→G i k=true)→muP n F m<muP n G m
 | 0,hl,_=>absurd hl (Nat.not_lt_zero _)
 | m+1,hl,h=>by
  have hm:=upTo_mono (p:=F m) (q:=G m) (n:=n) fun k hk=>h m k (Nat.lt_succ_self _) hk
  simp only [muP]
  by_cases he:l=m
  ·subst he
   have h1:=muP_le (n:=n) (F:=F) (G:=G) (m:=l) fun i k hi=>h i k (by omega)
   have h4:(upTo (F l) n).length<(upTo (G l) n).length:=by
    rcases Nat.lt_or_ge (upTo (F l) n).length (upTo (G l) n).length with g | g
    ·exact g
    ·exact absurd (hm.2 g k0 hk0 h2) h3
   omega
  ·have h1:=muP_lt (n:=n) (F:=F) (G:=G) (m:=m) hk0 h2 h3 (by omega) fun i k hi=>h i k (by omega)
   have h4:=hm.1
   omega
def frT (n:Nat) (F:Nat→Nat→Bool) (m:Nat):List (List Int):=tab (fun i=>upTo (F i) n) m
structure FI (s:Sy) (m:Nat) (F:Nat→Nat→Bool) (cb:List (List Int)) (lv:List Int):Prop where
 one:∀k,k<szn s.1→(F 0 k=true↔k=fn0 s)
 len:cb.length=lv.length
 cub:∀c∈cb,(c.length:Int)=bc s.1
 lev:∀x∈lv,1≤x∧x<(m:Int)
 bnd:cb.length+muP (szn s.1) F m≤400 * m
 m1:1≤m
 m2:m≤30
def IsW (s:Sy) (D st:Nat) (way:List Int):Prop:=∃ch:Nat→Nat,way=tab (fun i=>((ch i:Nat):Int)) (D+1)∧ch 0=fn0 s∧ch D=st∧(∀e,e≤D→ch e<szn s.1)∧∀e,e<D→((ch (e+1):Nat):Int)∈(steps s).getD (ch e) []
theorem IsW.ne {s:Sy} {D st:Nat} {way:List Int} (h:IsW s D st way):way≠[]∧way.length=D+1:=by
 obtain ⟨ch,rfl,-⟩:=h
 have:(tab (fun i=>((ch i:Nat):Int)) (D+1)).length=D+1:=tab_len
 exact ⟨fun g=>by rw [g] at this;simp at this,this⟩
theorem IsW.snoc {s:Sy} {D a st:Nat} {way:List Int} (h:IsW s D a way) (hst:st<szn s.1) (he:(st:Int)∈(steps s).getD a []):IsW s (D+1) st (way++[(st:Int)]):=by
 obtain ⟨ch,rfl,h1,h2,h3,h4⟩:=h
 refine ⟨fun i=>if i≤D then ch i else st,?_,by simpa using h1,if_neg (by omega),fun e hle=>?_,fun e hlt=>?_⟩
 ·rw [←tab_next (n:=D+1)]
  congr 1
  ·exact tab_congr fun k hk=>by dsimp only;rw [if_pos (by omega)]
  ·dsimp only;rw [if_neg (by omega)]
 ·dsimp only
  split
  ·exact h3 e (by omega)
  ·exact hst
 ·dsimp only
  rw [if_pos (show e≤D by omega)]
  by_cases g:e+1≤D
  ·rw [if_pos g];exact h4 e (by omega)
  ·have:e=D:=by omega
   subst this
   rw [if_neg g,h2];exact he
theorem inC_gen {s:Sy} {F:List Int} {n:Nat}:inC s (gen s F n) n=true:=by
 refine dB_t ?_
 have key:∀i,cHas (wdn (blk s F) (sb s (stN s n)) i) (sb s (stN s n)):=by
  intro i
  induction i with
  | zero=>intro j _;exact .inr rfl
  | succ i ih =>
   simp only [wdn]
   split
   ·intro j hj
    by_cases he:j=i
    ·subst he
     left
     rw [List.length_set] at hj
     rw [List.getD_eq_getElem?_getD,List.getElem?_set_self hj];rfl
    ·rw [List.getD_eq_getElem?_getD,List.getElem?_set_ne (fun g=>he g.symm),←List.getD_eq_getElem?_getD]
     exact ih j (by simpa using hj)
   ·exact ih
 exact key _
noncomputable def drp (s:Sy) (c:List Int) (l:Nat) (F:Nat→Nat→Bool) (i k:Nat):Bool:=if 1≤i∧i<l then F i k&&!inC s c k else F i k
theorem drp_sub {s:Sy} {c:List Int} {l:Nat} {F:Nat→Nat→Bool} {i k:Nat} (h:drp s c l F i k=true):F i k=true:=by
 unfold drp at h
 split at h
 ·simp only [Bool.and_eq_true] at h;exact h.1
 ·exact h
theorem C_spec_l17From (s:Sy) (h:valid s) (fr cb:List (List Int)) (lv way:List Int) (q:Nat→Bool) (st:Nat) {Q:List AV→Prop}
  (hQ:∀x:Int,(x<0∧∀a,a<szn s.1→q a=true→(st:Int)∉(steps s).getD a [])∨(∃a:Nat,a<szn s.1∧x=(a:Int)∧q a=true∧(st:Int)∈(steps s).getD a [])→Q [⟨I,x⟩]) :
  mc.C f_spec_l17From [⟨L (L I),steps s⟩,⟨L (L I),fr⟩,⟨L (L I),cb⟩,⟨L I,lv⟩,⟨L I,way⟩,⟨L I,upTo q (szn s.1)⟩,⟨I,(st:Int)⟩] Q:=by
 have hz:=szn_eq h
 have ht:=steps_tb8 h
 have hTl:=ht.1.1
 have hl:(upTo q (szn s.1)).length≤szn s.1:=upTo_len
 have hmem:∀x:Int,x∈upTo q (szn s.1)↔∃a,a<szn s.1∧x=(a:Int)∧q a=true:=fun x=>upTo_mem
 refine mc.c_of F_spec_l17From ?_
 simp+contextual(maxSteps:=1000000)(disch:=omega)only[↓Sd,↓So,↓Sk,↓den,↓denA,Sa,Sb,Sc,Se,O1.d,O2.d,O3.d,cmI,arI,envOf,putN,↓reduceIte,Nat.reduceLT,Nat.reduceSub,Nat.reduceAdd,Int.reduceAdd,Int.reduceEq,Int.reduceLT,Int.reduceLE,arr_pos,arr_neg,tr_spec_l17From]
 generalize upTo q (szn s.1)=l at hl hmem
 refine mc.lp_for Unit (fun i _=>[⟨L I,l⟩,⟨I,(st:Int)⟩,⟨I,(i:Int)⟩,⟨L (L I),steps s⟩,⟨L (L I),fr⟩,⟨L (L I),cb⟩,⟨L I,lv⟩,⟨L I,way⟩]) (fun i _=>∀x∈l.take i,(st:Int)∉(steps s).getD x.toNat []) l.length 0 () _ rfl (Nat.zero_le _) (fun x hx=>by simp at hx) ?_ ?_
 ·rintro i _ hi hI
  obtain ⟨a,h1,h2,h3⟩:=(hmem _).1 (getD_mem (d:=0) hi)
  have hr:((steps s).getD a []).length≤8:=ht.2.2 _ (getD_mem (by omega))
  by_cases hh:(st:Int)∈(steps s).getD a []
  ·simp+contextual(maxSteps:=1000000)(disch:=omega)only[↓Sd,↓So,↓Sk,↓den,↓denA,Sa,Sb,Sc,Se,O1.d,O2.d,O3.d,cmI,arI,envOf,putN,↓reduceIte,Nat.reduceLT,Nat.reduceSub,Nat.reduceAdd,Int.reduceAdd,Int.reduceEq,Int.reduceLT,Int.reduceLE,arr_pos,arr_neg,h2,hTl,C_spec_l2Has _ _ (show ((steps s).getD a []).length≤1048576 by omega),dB_t hh]
   exact hQ _ (.inr ⟨a,h1,rfl,h3,hh⟩)
  ·simp+contextual(maxSteps:=1000000)(disch:=omega)only[↓Sd,↓So,↓Sk,↓den,↓denA,Sa,Sb,Sc,Se,O1.d,O2.d,O3.d,cmI,arI,envOf,putN,↓reduceIte,Nat.reduceLT,Nat.reduceSub,Nat.reduceAdd,Int.reduceAdd,Int.reduceEq,Int.reduceLT,Int.reduceLE,arr_pos,arr_neg,h2,hTl,C_spec_l2Has _ _ (show ((steps s).getD a []).length≤1048576 by omega),dB_f hh]
   intro x hx
   rcases (mem_take_next hi).1 hx with h4 | h4
   ·exact hI x h4
   ·rw [h4,h2];exact hh
 ·rintro _ hI
  rw [List.take_length] at hI
  simp+contextual(maxSteps:=1000000)(disch:=omega)only[↓Sd,↓So,↓Sk,↓den,↓denA,Sa,Sb,Sc,Se,O1.d,O2.d,O3.d,cmI,arI,envOf,putN,↓reduceIte,Nat.reduceLT,Nat.reduceSub,Nat.reduceAdd,Int.reduceAdd,Int.reduceEq,Int.reduceLT,Int.reduceLE,arr_pos,arr_neg,]
  exact hQ _ (.inl ⟨by omega,fun a ha hqa=>hI (a:Int) ((hmem _).2 ⟨a,ha,rfl,hqa⟩)⟩)
theorem C_spec_l17Drop (s:Sy) (hs:FewSy s) (h:valid s) (m:Nat) (F:Nat→Nat→Bool) (T cb:List (List Int)) (lv way c:List Int) (l:Nat) (hc:(c.length:Int)=bc s.1) (hl1:1≤l) (hl2:l<m) (hm:m≤30) (hcb:cb.length≤100000) (hlv:lv.length≤100000) (Q:List AV→Prop) :
  mc.C f_spec_l17Drop [⟨L V3,s.1⟩,⟨L TR,s.2⟩,⟨L (L I),T⟩,⟨L (L I),frT (szn s.1) F m⟩,⟨L (L I),cb⟩,⟨L I,lv⟩,⟨L I,way⟩,⟨L I,c⟩,⟨I,(l:Int)⟩] Q=Q [⟨L (L I),T⟩,⟨L (L I),frT (szn s.1) (drp s c (l+1) F) m⟩,⟨L (L I),cb++[c]⟩,⟨L I,lv++[(l:Int)]⟩,⟨L I,way⟩]:=by
 have hz:=szn_eq h
 refine Mc.Ends.c (mc.ends F_spec_l17Drop ?_)
 simp+contextual(maxSteps:=1000000)(disch:=omega)only[↓Sd,↓So,↓Sk,↓den,↓denA,Sa,Sb,Sc,Se,O1.d,O2.d,O3.d,cmI,arI,envOf,putN,↓reduceIte,Nat.reduceLT,Nat.reduceSub,Nat.reduceAdd,Int.reduceAdd,Int.reduceEq,Int.reduceLT,Int.reduceLE,arr_pos,arr_neg,tr_spec_l17Drop,C_spec_l16States s c hs h hc]
 refine mc.lp_for (List (List Int)) (fun i o=>[⟨I,(l:Int)⟩,⟨I,(i:Int)⟩,⟨L I,c⟩,⟨L (L I),T⟩,⟨L (L I),o⟩,⟨L (L I),cb⟩,⟨L I,lv⟩,⟨L I,way⟩,⟨L I,upTo (inC s c) (szn s.1)⟩])
  (fun i o=>1≤i∧o=frT (szn s.1) (drp s c i F) m) (l+1) 1 (frT (szn s.1) F m) _ (by simp) (by omega) ⟨Nat.le_refl _,?_⟩ ?_ ?_
 ·refine tab_congr fun i _=>upTo_congr fun k _=>?_
  unfold drp
  rw [if_neg (by omega)]
 ·rintro i o hi ⟨hi1,rfl⟩
  have hlen:(frT (szn s.1) (drp s c i F) m).length=m:=tab_len
  have hgi:(frT (szn s.1) (drp s c i F) m).getD i []=upTo (drp s c i F i) (szn s.1):=tab_get (by omega)
  have hsw:upTo (fun k=>dB ((k:Int)∈upTo (drp s c i F i) (szn s.1))&&!dB ((k:Int)∈upTo (inC s c) (szn s.1))) 400=upTo (drp s c (i+1) F i) (szn s.1):=by
   rw [without_upTo hz.2.2]
   refine upTo_congr fun k _=>?_
   unfold drp
   rw [if_neg (by omega),if_pos (by omega)]
  have hl1:lset (upTo (drp s c i F i) (szn s.1)) 400:=upTo_lset (m:=400) hz.2.2
  have hl2:lset (upTo (inC s c) (szn s.1)) 400:=upTo_lset (m:=400) hz.2.2
  simp+contextual(maxSteps:=1000000)(disch:=omega)only[↓Sd,↓So,↓Sk,↓den,↓denA,Sa,Sb,Sc,Se,O1.d,O2.d,O3.d,cmI,arI,envOf,putN,↓reduceIte,Nat.reduceLT,Nat.reduceSub,Nat.reduceAdd,Int.reduceAdd,Int.reduceEq,Int.reduceLT,Int.reduceLE,arr_pos,arr_neg,hlen,hgi,C_spec_SetWithout _ _ hl1 hl2,hsw]
  refine ⟨by omega,?_⟩
  unfold frT
  rw [tab_set']
  refine tab_congr fun j _=>?_
  by_cases he:j=i
  ·rw [if_pos he,he]
  ·rw [if_neg he]
   refine upTo_congr fun k _=>?_
   unfold drp
   by_cases g:1≤j∧j<i
   ·rw [if_pos g,if_pos (by omega)]
   ·rw [if_neg g,if_neg (by omega)]
 ·rintro o ⟨-,rfl⟩
  simp+contextual(maxSteps:=1000000)(disch:=omega)only[↓Sd,↓So,↓Sk,↓den,↓denA,Sa,Sb,Sc,Se,O1.d,O2.d,O3.d,cmI,arI,envOf,putN,↓reduceIte,Nat.reduceLT,Nat.reduceSub,Nat.reduceAdd,Int.reduceAdd,Int.reduceEq,Int.reduceLT,Int.reduceLE,arr_pos,arr_neg,]
theorem C_spec_l17Bad (n m:Nat) (F:Nat→Nat→Bool) (T cb:List (List Int)) (lv way:List Int) (g:Nat→Bool) (hm:1≤m) (hm2:m≤30) (hn:n≤400) {Q:List AV→Prop}
  (hQ:∀x:Int,x<0∨(∃a:Nat,a<n∧x=(a:Int)∧F (m - 1) a=true)→Q [⟨I,x⟩]) :
  mc.C f_spec_l17Bad [⟨L (L I),T⟩,⟨L (L I),frT n F m⟩,⟨L (L I),cb⟩,⟨L I,lv⟩,⟨L I,way⟩,⟨L B,tab g n⟩] Q:=by
 have hlen:(frT n F m).length=m:=tab_len
 have hgi:(frT n F m).getD (m - 1) []=upTo (F (m - 1)) n:=tab_get (by omega)
 have hl:(upTo (F (m - 1)) n).length≤n:=upTo_len
 have hmem:∀i,i<(upTo (F (m - 1)) n).length→∃a,a<n∧(upTo (F (m - 1)) n).getD i 0=(a:Int)∧F (m - 1) a=true:=fun i hi=>upTo_mem.1 (getD_mem (d:=0) hi)
 have hm3:((m:Int) - 1).toNat=m - 1:=by omega
 refine mc.c_of F_spec_l17Bad ?_
 simp+contextual(maxSteps:=1000000)(disch:=omega)only[↓Sd,↓So,↓Sk,↓den,↓denA,Sa,Sb,Sc,Se,O1.d,O2.d,O3.d,cmI,arI,envOf,putN,↓reduceIte,Nat.reduceLT,Nat.reduceSub,Nat.reduceAdd,Int.reduceAdd,Int.reduceEq,Int.reduceLT,Int.reduceLE,arr_pos,arr_neg,tr_spec_l17Bad,hlen,hgi,hm3]
 generalize upTo (F (m - 1)) n=l at hl hmem
 refine mc.lp_for Unit (fun i _=>[⟨L B,tab g n⟩,⟨L I,l⟩,⟨I,(i:Int)⟩]) (fun _ _=>True) l.length 0 () _ rfl (Nat.zero_le _) trivial ?_ ?_
 ·rintro i _ hi -
  obtain ⟨a,h1,h2,h3⟩:=hmem i hi
  by_cases hg:g a=true
  ·simp+contextual(maxSteps:=1000000)(disch:=omega)only[↓Sd,↓So,↓Sk,↓den,↓denA,Sa,Sb,Sc,Se,O1.d,O2.d,O3.d,cmI,arI,envOf,putN,↓reduceIte,Nat.reduceLT,Nat.reduceSub,Nat.reduceAdd,Int.reduceAdd,Int.reduceEq,Int.reduceLT,Int.reduceLE,arr_pos,arr_neg,h2,tab_len,tab_get h1,hg]
  ·simp+contextual(maxSteps:=1000000)(disch:=omega)only[↓Sd,↓So,↓Sk,↓den,↓denA,Sa,Sb,Sc,Se,O1.d,O2.d,O3.d,cmI,arI,envOf,putN,↓reduceIte,Nat.reduceLT,Nat.reduceSub,Nat.reduceAdd,Int.reduceAdd,Int.reduceEq,Int.reduceLT,Int.reduceLE,arr_pos,arr_neg,h2,tab_len,tab_get h1,hg]
   exact hQ _ (.inr ⟨a,h1,rfl,h3⟩)
 ·rintro _ -
  simp+contextual(maxSteps:=1000000)(disch:=omega)only[↓Sd,↓So,↓Sk,↓den,↓denA,Sa,Sb,Sc,Se,O1.d,O2.d,O3.d,cmI,arI,envOf,putN,↓reduceIte,Nat.reduceLT,Nat.reduceSub,Nat.reduceAdd,Int.reduceAdd,Int.reduceEq,Int.reduceLT,Int.reduceLE,arr_pos,arr_neg,]
  exact hQ _ (.inl (by omega))
theorem C_spec_l17Block (s:Sy) (hs:FewSy s) (h:valid s) (m:Nat):∀(l:Nat) (F:Nat→Nat→Bool) (cb:List (List Int)) (lv:List Int) (st:Nat),l<m→FI s m F cb lv→st<szn s.1→(l=0→st=fn0 s)→∀{Q:List AV→Prop},
  (∀F' cb' lv' way',FI s m F' cb' lv'→(∀i k,i<m→k<szn s.1→F' i k=true→F i k=true)→(way'=[]∧¬F' l st=true∨∃D,D≤l∧IsW s D st way')→Q [⟨L (L I),steps s⟩,⟨L (L I),frT (szn s.1) F' m⟩,⟨L (L I),cb'⟩,⟨L I,lv'⟩,⟨L I,way'⟩]) →
  mc.C f_spec_l17Block [⟨L V3,s.1⟩,⟨L TR,s.2⟩,⟨L (L I),steps s⟩,⟨L (L I),frT (szn s.1) F m⟩,⟨L (L I),cb⟩,⟨L I,lv⟩,⟨L I,[]⟩,⟨I,(st:Int)⟩,⟨I,(l:Int)⟩] Q:=by
 have hz:=szn_eq h
 obtain ⟨hfe,hfn⟩:=fn0_eq h
 intro l
 induction l with
 | zero =>
  intro F cb lv st hlm hF hst h0 Q hQ
  refine mc.c_of F_spec_l17Block ?_
  have hst0:=h0 rfl
  simp+contextual(maxSteps:=1000000)(disch:=omega)only[↓Sd,↓So,↓Sk,↓den,↓denA,Sa,Sb,Sc,Se,O1.d,O2.d,O3.d,cmI,arI,envOf,putN,↓reduceIte,Nat.reduceLT,Nat.reduceSub,Nat.reduceAdd,Int.reduceAdd,Int.reduceEq,Int.reduceLT,Int.reduceLE,arr_pos,arr_neg,tr_spec_l17Block,C_spec_FirstState s hs h,C_spec_l4Number s _ h.1.2 h.2.2.1 (fst0_in h.2.2.1),hfe,hst0]
  rw [←hst0]
  exact hQ F cb lv [(st:Int)] hF (fun _ _ _ _ g=>g) (.inr ⟨0,Nat.le_refl _,fun _=>st,rfl,hst0,rfl,fun _ _=>hst,fun e he=>absurd he (Nat.not_lt_zero _)⟩)
 | succ l ih =>
  intro F cb lv st hlm hF hst h0 Q hQ
  refine mc.c_of F_spec_l17Block ?_
  by_cases hsf:st=fn0 s
  ·simp+contextual(maxSteps:=1000000)(disch:=omega)only[↓Sd,↓So,↓Sk,↓den,↓denA,Sa,Sb,Sc,Se,O1.d,O2.d,O3.d,cmI,arI,envOf,putN,↓reduceIte,Nat.reduceLT,Nat.reduceSub,Nat.reduceAdd,Int.reduceAdd,Int.reduceEq,Int.reduceLT,Int.reduceLE,arr_pos,arr_neg,tr_spec_l17Block,C_spec_FirstState s hs h,C_spec_l4Number s _ h.1.2 h.2.2.1 (fst0_in h.2.2.1),hfe,hsf]
   rw [←hsf]
   exact hQ F cb lv [(st:Int)] hF (fun _ _ _ _ g=>g) (.inr ⟨0,Nat.zero_le _,fun _=>st,rfl,hsf,rfl,fun _ _=>hst,fun e he=>absurd he (Nat.not_lt_zero _)⟩)
  ·obtain ⟨lx,hL⟩:∃lx,l+1=lx:=⟨_,rfl⟩
   have hLi:(lx:Int) - 1=(l:Int):=by omega
   rw [hL] at hlm hQ ⊢
   simp+contextual(maxSteps:=1000000)(disch:=omega)only[↓Sd,↓So,↓Sk,↓den,↓denA,Sa,Sb,Sc,Se,O1.d,O2.d,O3.d,cmI,arI,envOf,putN,↓reduceIte,Nat.reduceLT,Nat.reduceSub,Nat.reduceAdd,Int.reduceAdd,Int.reduceEq,Int.reduceLT,Int.reduceLE,arr_pos,arr_neg,tr_spec_l17Block,C_spec_FirstState s hs h,C_spec_l4Number s _ h.1.2 h.2.2.1 (fst0_in h.2.2.1),hfe,hsf]
   refine mc.lp_inv (fun j us=>∃G cb' lv',us=[⟨I,(st:Int)⟩,⟨I,(lx:Int)⟩,⟨L V3,s.1⟩,⟨L TR,s.2⟩,⟨L (L I),steps s⟩,⟨L (L I),frT (szn s.1) G m⟩,⟨L (L I),cb'⟩,⟨L I,lv'⟩,⟨L I,[]⟩]∧FI s m G cb' lv'∧(∀i k,i<m→k<szn s.1→G i k=true→F i k=true)∧j=muP (szn s.1) G m)
    _ _ ⟨F,cb,lv,by simp,hF,fun _ _ _ _ g=>g,rfl⟩ ?_
   rintro j us ⟨G,cb',lv',rfl,hG,hsub,rfl⟩
   have hlen:(frT (szn s.1) G m).length=m:=tab_len
   have hg1:(frT (szn s.1) G m).getD lx []=upTo (G lx) (szn s.1):=tab_get (by omega)
   have hg0:(frT (szn s.1) G m).getD l []=upTo (G l) (szn s.1):=tab_get (by omega)
   have hul:(upTo (G lx) (szn s.1)).length≤szn s.1:=upTo_len
   have hdu:dB ((st:Int)∈upTo (G lx) (szn s.1))=G lx st:=by rw [dB_upTo];simp [hst]
   have hm2:=hG.m2
   have hbd:=hG.bnd
   have hle:=hG.len
   by_cases hin:G lx st=true
   ·simp+contextual(maxSteps:=1000000)(disch:=omega)only[↓Sd,↓So,↓Sk,↓den,↓denA,Sa,Sb,Sc,Se,O1.d,O2.d,O3.d,cmI,arI,envOf,putN,↓reduceIte,Nat.reduceLT,Nat.reduceSub,Nat.reduceAdd,Int.reduceAdd,Int.reduceEq,Int.reduceLT,Int.reduceLE,arr_pos,arr_neg,hlen,hg1,C_spec_l2Has _ _ (show (upTo (G lx) (szn s.1)).length≤1048576 by omega),hdu,hin,hg0,hLi]
    refine C_spec_l17From s h _ cb' lv' [] (G l) st fun x hx=>?_
    rcases hx with ⟨hx,hno⟩ | ⟨a,ha,rfl,hqa,hed⟩
    ·have hlG:lset (upTo (G l) (szn s.1)) (szn s.1):=upTo_lset (Nat.le_refl _)
     have hblk:dB (blk s (upTo (G l) (szn s.1)) (sb s (stN s st)))=true:=by
      refine dB_t ⟨?_,fun x hx _ y hy=>?_⟩
      ·rw [show (num s.1 (fst0 s.1)).toNat=fn0 s from rfl]
       cases hc:inC s (sb s (stN s st)) (fn0 s) with
       | false=>rfl
       | true=>exact absurd (inC_sb h hfn hst hc).symm hsf
      ·obtain ⟨b,hb,rfl,hqb⟩:=upTo_mem.1 hx
       have hyr:=(steps_tb8 h).1.row _ hy
       cases hc:inC s (sb s (stN s st)) y.toNat with
       | false=>rfl
       | true =>
        have:=inC_sb h (by omega) hst hc
        refine absurd ?_ (hno b hb hqb)
        rw [←this,Int.toNat_of_nonneg hyr.1];exact hy
     have hgl:((gen s (upTo (G l) (szn s.1)) st).length:Int)=bc s.1:=gen_len
     have hgi:inC s (gen s (upTo (G l) (szn s.1)) st) st=true:=inC_gen
     have hWd:=fun Q=>C_spec_l17Wide s (upTo (G l) (szn s.1)) st hs h hst hlG hblk Q
     generalize gen s (upTo (G l) (szn s.1)) st=c at hgl hgi hWd
     simp+contextual(maxSteps:=1000000)(disch:=omega)only[↓Sd,↓So,↓Sk,↓den,↓denA,Sa,Sb,Sc,Se,O1.d,O2.d,O3.d,cmI,arI,envOf,putN,↓reduceIte,Nat.reduceLT,Nat.reduceSub,Nat.reduceAdd,Int.reduceAdd,Int.reduceEq,Int.reduceLT,Int.reduceLE,arr_pos,arr_neg,hx,hlen,hg0,hLi,hWd,C_spec_l17Drop s hs h m G (steps s) cb' lv' [] c lx hgl (by omega) (by omega) (by omega) (by omega) (by omega)]
     have hnd:¬drp s c (lx+1) G lx st=true:=by
      unfold drp
      rw [if_pos (by omega),hgi];simp
     have hmu:=muP_lt (n:=szn s.1) (F:=drp s c (lx+1) G) (G:=G) (l:=lx) hst hin hnd (m:=m) (by omega) fun i k _ _ g=>drp_sub g
     refine hQ (drp s c (lx+1) G) (cb'++[c]) (lv'++[(lx:Int)]) [] ⟨fun k hk=>?_,by simp [hle],fun d hd=>?_,fun x hx=>?_,?_,hG.m1,hG.m2⟩ (fun i k hi hk g=>hsub i k hi hk (drp_sub g)) (.inl ⟨rfl,hnd⟩)
     ·unfold drp;rw [if_neg (by omega)];exact hG.one k hk
     ·rcases List.mem_append.1 hd with hd | hd
      ·exact hG.cub d hd
      ·rw [List.mem_singleton.1 hd];exact hgl
     ·rcases List.mem_append.1 hx with hx | hx
      ·exact hG.lev x hx
      ·rw [List.mem_singleton.1 hx];omega
     ·rw [List.length_append,List.length_singleton];omega
    ·simp+contextual(maxSteps:=1000000)(disch:=omega)only[↓Sd,↓So,↓Sk,↓den,↓denA,Sa,Sb,Sc,Se,O1.d,O2.d,O3.d,cmI,arI,envOf,putN,↓reduceIte,Nat.reduceLT,Nat.reduceSub,Nat.reduceAdd,Int.reduceAdd,Int.reduceEq,Int.reduceLT,Int.reduceLE,arr_pos,arr_neg,hLi]
     refine ih G cb' lv' a (by omega) hG ha (fun hl0=>?_) fun G' cb'' lv'' way' hG' hsub' hw=>?_
     ·subst hl0;exact (hG.one a ha).1 hqa
     ·rcases hw with ⟨rfl,hno⟩ | ⟨D,hD,hw⟩
      ·simp+contextual(maxSteps:=1000000)(disch:=omega)only[↓Sd,↓So,↓Sk,↓den,↓denA,Sa,Sb,Sc,Se,O1.d,O2.d,O3.d,cmI,arI,envOf,putN,↓reduceIte,Nat.reduceLT,Nat.reduceSub,Nat.reduceAdd,Int.reduceAdd,Int.reduceEq,Int.reduceLT,Int.reduceLE,arr_pos,arr_neg,List.length_nil]
       refine ⟨_,muP_lt ha hqa hno (by omega) hsub',G',cb'',lv'',⟨rfl,rfl,rfl⟩,hG',fun i k hi hk g=>hsub i k hi hk (hsub' i k hi hk g),rfl⟩
      ·obtain ⟨hne,hwl⟩:=hw.ne
       simp+contextual(maxSteps:=1000000)(disch:=omega)only[↓Sd,↓So,↓Sk,↓den,↓denA,Sa,Sb,Sc,Se,O1.d,O2.d,O3.d,cmI,arI,envOf,putN,↓reduceIte,Nat.reduceLT,Nat.reduceSub,Nat.reduceAdd,Int.reduceAdd,Int.reduceEq,Int.reduceLT,Int.reduceLE,arr_pos,arr_neg,hwl]
       exact hQ G' cb'' lv'' _ hG' (fun i k hi hk g=>hsub i k hi hk (hsub' i k hi hk g)) (.inr ⟨D+1,by omega,hw.snoc hst hed⟩)
   ·simp+contextual(maxSteps:=1000000)(disch:=omega)only[↓Sd,↓So,↓Sk,↓den,↓denA,Sa,Sb,Sc,Se,O1.d,O2.d,O3.d,cmI,arI,envOf,putN,↓reduceIte,Nat.reduceLT,Nat.reduceSub,Nat.reduceAdd,Int.reduceAdd,Int.reduceEq,Int.reduceLT,Int.reduceLE,arr_pos,arr_neg,hlen,hg1,C_spec_l2Has _ _ (show (upTo (G lx) (szn s.1)).length≤1048576 by omega),hdu,hin]
    exact hQ G cb' lv' [] hG hsub (.inl ⟨rfl,hin⟩)
theorem C_spec_l17Close (s:Sy) (hs:FewSy s) (h:valid s) (m:Nat) (F:Nat→Nat→Bool) (cb:List (List Int)) (lv:List Int) (g:Nat→Bool) (hF:FI s m F cb lv) {Q:List AV→Prop}
  (hQ:∀F' cb' lv' way',FI s m F' cb' lv'→(way'=[]∨∃D st,D≤30∧IsW s D st way')→Q [⟨L (L I),steps s⟩,⟨L (L I),frT (szn s.1) F' m⟩,⟨L (L I),cb'⟩,⟨L I,lv'⟩,⟨L I,way'⟩]) :
  mc.C f_spec_l17Close [⟨L V3,s.1⟩,⟨L TR,s.2⟩,⟨L (L I),steps s⟩,⟨L (L I),frT (szn s.1) F m⟩,⟨L (L I),cb⟩,⟨L I,lv⟩,⟨L I,[]⟩,⟨L B,tab g (szn s.1)⟩] Q:=by
 have hz:=szn_eq h
 have hm1:=hF.m1
 have hm2:=hF.m2
 refine mc.c_of F_spec_l17Close ?_
 simp+contextual(maxSteps:=1000000)(disch:=omega)only[↓Sd,↓So,↓Sk,↓den,↓denA,Sa,Sb,Sc,Se,O1.d,O2.d,O3.d,cmI,arI,envOf,putN,↓reduceIte,Nat.reduceLT,Nat.reduceSub,Nat.reduceAdd,Int.reduceAdd,Int.reduceEq,Int.reduceLT,Int.reduceLE,arr_pos,arr_neg,↓wpJoin,tr_spec_l17Close]
 refine mc.lp_inv (fun j us=>∃G cb' lv' way',us=[⟨L B,tab g (szn s.1)⟩,⟨L V3,s.1⟩,⟨L TR,s.2⟩,⟨L (L I),steps s⟩,⟨L (L I),frT (szn s.1) G m⟩,⟨L (L I),cb'⟩,⟨L I,lv'⟩,⟨L I,way'⟩]∧FI s m G cb' lv'∧(way'=[]∨∃D st,D≤30∧IsW s D st way')∧j=if way'=[] then muP (szn s.1) G m+1 else 0)
  _ _ ⟨F,cb,lv,[],rfl,hF,.inl rfl,rfl⟩ ?_
 rintro j us ⟨G,cb',lv',way',rfl,hG,hw,rfl⟩
 obtain ⟨outs,hE,x,rfl,hx⟩:=C_spec_l17Bad (szn s.1) m G (steps s) cb' lv' way' g hm1 hm2 hz.2.2 (Q:=fun o=>∃x:Int,o=[⟨I,x⟩]∧(x<0∨(∃a:Nat,a<szn s.1∧x=(a:Int)∧G (m - 1) a=true))) fun x hx=>⟨x,rfl,hx⟩
 have hBad:=fun (Q:List AV→Prop)=>Mc.Ends.c (Q:=Q) hE
 rcases hx with hx | ⟨a,ha,rfl,hGa⟩
 ·simp+contextual(maxSteps:=1000000)(disch:=omega)only[↓Sd,↓So,↓Sk,↓den,↓denA,Sa,Sb,Sc,Se,O1.d,O2.d,O3.d,cmI,arI,envOf,putN,↓reduceIte,Nat.reduceLT,Nat.reduceSub,Nat.reduceAdd,Int.reduceAdd,Int.reduceEq,Int.reduceLT,Int.reduceLE,arr_pos,arr_neg,↓wpJoin,hBad,hx]
  exact hQ G cb' lv' way' hG hw
 ·by_cases hwe:way'=[]
  ·subst hwe
   have hlen:(frT (szn s.1) G m).length=m:=tab_len
   have hmi:(m:Int) - 1=((m - 1:Nat):Int):=by omega
   obtain ⟨mx,hmx⟩:∃mx,m - 1=mx:=⟨_,rfl⟩
   rw [hmx] at hGa hmi
   simp+contextual(maxSteps:=1000000)(disch:=omega)only[↓Sd,↓So,↓Sk,↓den,↓denA,Sa,Sb,Sc,Se,O1.d,O2.d,O3.d,cmI,arI,envOf,putN,↓reduceIte,Nat.reduceLT,Nat.reduceSub,Nat.reduceAdd,Int.reduceAdd,Int.reduceEq,Int.reduceLT,Int.reduceLE,arr_pos,arr_neg,↓wpJoin,hBad,List.length_nil,hlen,hmi]
   refine C_spec_l17Block s hs h m mx G cb' lv' a (by omega) hG ha (fun h0=>?_) fun F' cb'' lv'' way'' hF' hsub hw'=>?_
   ·subst h0;exact (hG.one a ha).1 hGa
   ·simp+contextual(maxSteps:=1000000)(disch:=omega)only[↓Sd,↓So,↓Sk,↓den,↓denA,Sa,Sb,Sc,Se,O1.d,O2.d,O3.d,cmI,arI,envOf,putN,↓reduceIte,Nat.reduceLT,Nat.reduceSub,Nat.reduceAdd,Int.reduceAdd,Int.reduceEq,Int.reduceLT,Int.reduceLE,arr_pos,arr_neg,↓wpJoin,]
    refine ⟨_,?_,F',cb'',lv'',way'',⟨rfl,rfl,rfl,rfl⟩,hF',?_,rfl⟩
    ·rcases hw' with ⟨rfl,hno⟩ | ⟨D,hD,hw'⟩
     ·rw [if_pos rfl]
      have:=muP_lt ha hGa hno (show mx<m by omega) hsub
      omega
     ·rw [if_neg hw'.ne.1];omega
    ·rcases hw' with ⟨rfl,-⟩ | ⟨D,hD,hw'⟩
     ·exact .inl rfl
     ·exact .inr ⟨D,a,by omega,hw'⟩
  ·have hwl:=List.length_pos_iff.2 hwe
   simp+contextual(maxSteps:=1000000)(disch:=omega)only[↓Sd,↓So,↓Sk,↓den,↓denA,Sa,Sb,Sc,Se,O1.d,O2.d,O3.d,cmI,arI,envOf,putN,↓reduceIte,Nat.reduceLT,Nat.reduceSub,Nat.reduceAdd,Int.reduceAdd,Int.reduceEq,Int.reduceLT,Int.reduceLE,arr_pos,arr_neg,↓wpJoin,hBad]
   exact hQ G cb' lv' way' hG hw
theorem C_spec_l17Push (s:Sy) (hs:FewSy s) (h:valid s) (m:Nat) (F:Nat→Nat→Bool) (cb:List (List Int)) (lv way:List Int) (hF:FI s m F cb lv) {Q:List AV→Prop}
  (hQ:∀F' lv',FI s m F' cb lv'→Q [⟨L (L I),steps s⟩,⟨L (L I),frT (szn s.1) F' m⟩,⟨L (L I),cb⟩,⟨L I,lv'⟩,⟨L I,way⟩]) :
  mc.C f_spec_l17Push [⟨L V3,s.1⟩,⟨L TR,s.2⟩,⟨L (L I),steps s⟩,⟨L (L I),frT (szn s.1) F m⟩,⟨L (L I),cb⟩,⟨L I,lv⟩,⟨L I,way⟩] Q:=by
 have hz:=szn_eq h
 have hm1:=hF.m1
 have hm2:=hF.m2
 have hcl:cb.length≤12000:=by have:=hF.bnd;omega
 refine mc.c_of F_spec_l17Push ?_
 simp+contextual(maxSteps:=1000000)(disch:=omega)only[↓Sd,↓So,↓Sk,↓den,↓denA,Sa,Sb,Sc,Se,O1.d,O2.d,O3.d,cmI,arI,envOf,putN,↓reduceIte,Nat.reduceLT,Nat.reduceSub,Nat.reduceAdd,Int.reduceAdd,Int.reduceEq,Int.reduceLT,Int.reduceLE,arr_pos,arr_neg,tr_spec_l17Push]
 refine mc.lp_inv (fun j us=>∃(i:Nat) (G:Nat→Nat→Bool) (lv':List Int),us=[⟨I,(i:Int)⟩,⟨L V3,s.1⟩,⟨L TR,s.2⟩,⟨L (L I),steps s⟩,⟨L (L I),frT (szn s.1) G m⟩,⟨L (L I),cb⟩,⟨L I,lv'⟩,⟨L I,way⟩]∧FI s m G cb lv'∧1≤i∧j=100 - i∧i≤40) _ _ ⟨1,F,lv,by simp,hF,by omega,rfl,by omega⟩ ?_
 rintro j us ⟨i,G,lv',rfl,hG,hi1,rfl,hi2⟩
 have hlen:∀G,(frT (szn s.1) G m).length=m:=fun _=>tab_len
 by_cases hi:i+1<m
 ·simp+contextual(maxSteps:=1000000)(disch:=omega)only[↓Sd,↓So,↓Sk,↓den,↓denA,Sa,Sb,Sc,Se,O1.d,O2.d,O3.d,cmI,arI,envOf,putN,↓reduceIte,Nat.reduceLT,Nat.reduceSub,Nat.reduceAdd,Int.reduceAdd,Int.reduceEq,Int.reduceLT,Int.reduceLE,arr_pos,arr_neg,hlen]
  refine mc.lp_for ((Nat→Nat→Bool)×List Int) (fun k z=>[⟨I,(i:Int)⟩,⟨I,(k:Int)⟩,⟨L V3,s.1⟩,⟨L TR,s.2⟩,⟨L (L I),steps s⟩,⟨L (L I),frT (szn s.1) z.1 m⟩,⟨L (L I),cb⟩,⟨L I,z.2⟩,⟨L I,way⟩]) (fun _ z=>FI s m z.1 cb z.2) cb.length 0 (G,lv') _ rfl (Nat.zero_le _) hG ?_ ?_
  ·rintro k ⟨H,lw⟩ hk hH
   dsimp only at hH
   have hle:=hH.len
   have hcm:cb.getD k []∈cb:=getD_mem hk
   have hcc:=hH.cub _ hcm
   have hgi:(frT (szn s.1) H m).getD i []=upTo (H i) (szn s.1):=tab_get (by omega)
   have hgj:(frT (szn s.1) H m).getD (i+1) []=upTo (H (i+1)) (szn s.1):=tab_get (by omega)
   have hlG:lset (upTo (H i) (szn s.1)) (szn s.1):=upTo_lset (Nat.le_refl _)
   have hi3:((i:Int)+1).toNat=i+1:=by omega
   by_cases hlw:lw.getD k 0=(i:Int)
   ·by_cases hb:blk s (upTo (H i) (szn s.1)) (cb.getD k [])
    ·have hsw:upTo (fun k'=>dB ((k':Int)∈upTo (H (i+1)) (szn s.1))&&!dB ((k':Int)∈upTo (inC s (cb.getD k [])) (szn s.1))) 400=upTo (fun k'=>H (i+1) k'&&!inC s (cb.getD k []) k') (szn s.1):=without_upTo hz.2.2
     have hl1:lset (upTo (H (i+1)) (szn s.1)) 400:=upTo_lset (m:=400) hz.2.2
     have hl2:lset (upTo (inC s (cb.getD k [])) (szn s.1)) 400:=upTo_lset (m:=400) hz.2.2
     simp+contextual(maxSteps:=1000000)(disch:=omega)only[↓Sd,↓So,↓Sk,↓den,↓denA,Sa,Sb,Sc,Se,O1.d,O2.d,O3.d,cmI,arI,envOf,putN,↓reduceIte,Nat.reduceLT,Nat.reduceSub,Nat.reduceAdd,Int.reduceAdd,Int.reduceEq,Int.reduceLT,Int.reduceLE,arr_pos,arr_neg,↓wpJoin,hlen,hlw,hgi,C_spec_l17Blocked s _ _ hs h hlG hcc,dB_t hb,hi3,hgj,C_spec_l16States s _ hs h hcc,C_spec_SetWithout _ _ hl1 hl2,hsw]
     refine ⟨(fun j k'=>if j=i+1 then H (i+1) k'&&!inC s (cb.getD k []) k' else H j k',lw.set k ((i:Int)+1)),⟨?_,rfl⟩,?_⟩
     ·dsimp only
      unfold frT
      rw [tab_set']
      refine tab_congr fun j _=>?_
      by_cases he:j=i+1
      ·simp only [he,if_true]
      ·simp only [he,if_false]
     ·dsimp only
      have hsub:∀(j k':Nat),(if j=i+1 then H (i+1) k'&&!inC s (cb.getD k []) k' else H j k')=true→H j k'=true:=fun j k' hh=>by
       by_cases he:j=i+1
       ·rw [if_pos he] at hh
        simp only [Bool.and_eq_true] at hh
        rw [he];exact hh.1
       ·rw [if_neg he] at hh;exact hh
      refine ⟨fun k' hk'=>?_,by rw [List.length_set];exact hH.len,hH.cub,fun x hx=>?_,?_,hH.m1,hH.m2⟩
      ·rw [if_neg (by omega)];exact hH.one k' hk'
      ·rcases List.mem_or_eq_of_mem_set hx with hx | hx
       ·exact hH.lev x hx
       ·rw [hx];omega
      ·have:=muP_le (n:=szn s.1) (F:=fun j k'=>if j=i+1 then H (i+1) k'&&!inC s (cb.getD k []) k' else H j k') (G:=H) (m:=m) fun j k' _ _ hh=>hsub j k' hh
       have:=hH.bnd
       omega
    ·simp+contextual(maxSteps:=1000000)(disch:=omega)only[↓Sd,↓So,↓Sk,↓den,↓denA,Sa,Sb,Sc,Se,O1.d,O2.d,O3.d,cmI,arI,envOf,putN,↓reduceIte,Nat.reduceLT,Nat.reduceSub,Nat.reduceAdd,Int.reduceAdd,Int.reduceEq,Int.reduceLT,Int.reduceLE,arr_pos,arr_neg,↓wpJoin,hlen,hlw,hgi,C_spec_l17Blocked s _ _ hs h hlG hcc,dB_f hb]
     exact ⟨(H,lw),⟨rfl,rfl⟩,hH⟩
   ·simp+contextual(maxSteps:=1000000)(disch:=omega)only[↓Sd,↓So,↓Sk,↓den,↓denA,Sa,Sb,Sc,Se,O1.d,O2.d,O3.d,cmI,arI,envOf,putN,↓reduceIte,Nat.reduceLT,Nat.reduceSub,Nat.reduceAdd,Int.reduceAdd,Int.reduceEq,Int.reduceLT,Int.reduceLE,arr_pos,arr_neg,↓wpJoin,hlen,hlw]
    exact ⟨(H,lw),⟨rfl,rfl⟩,hH⟩
  ·rintro ⟨H,lw⟩ hH
   dsimp only at hH
   simp+contextual(maxSteps:=1000000)(disch:=omega)only[↓Sd,↓So,↓Sk,↓den,↓denA,Sa,Sb,Sc,Se,O1.d,O2.d,O3.d,cmI,arI,envOf,putN,↓reduceIte,Nat.reduceLT,Nat.reduceSub,Nat.reduceAdd,Int.reduceAdd,Int.reduceEq,Int.reduceLT,Int.reduceLE,arr_pos,arr_neg,]
   exact ⟨_,by omega,i+1,H,lw,⟨by simp,rfl,rfl⟩,hH,by omega,rfl,by omega⟩
 ·simp+contextual(maxSteps:=1000000)(disch:=omega)only[↓Sd,↓So,↓Sk,↓den,↓denA,Sa,Sb,Sc,Se,O1.d,O2.d,O3.d,cmI,arI,envOf,putN,↓reduceIte,Nat.reduceLT,Nat.reduceSub,Nat.reduceAdd,Int.reduceAdd,Int.reduceEq,Int.reduceLT,Int.reduceLE,arr_pos,arr_neg,hlen]
  exact hQ G lv' hG
def alike (X:List (List Int)) (i:Nat):Prop:=1≤i∧i+1<X.length∧X.getD i []=X.getD (i+1) []
open Classical in
noncomputable def fxd (X:List (List Int)):Int:=if h:∃i,alike X i then ((Classical.choose (least h):Nat):Int) else -1
theorem fxd_some {X:List (List Int)} {i:Nat} (h:alike X i) (hm:∀j,j<i→¬alike X j):fxd X=(i:Int):=by
 have hex:∃i,alike X i:=⟨i,h⟩
 unfold fxd
 rw [dif_pos hex]
 obtain ⟨h1,h2⟩:=Classical.choose_spec (least hex)
 generalize Classical.choose (least hex)=c at h1 h2
 rcases Nat.lt_trichotomy c i with g | g | g
 ·exact absurd h1 (hm c g)
 ·rw [g]
 ·exact absurd h (h2 i g)
theorem fxd_none {X:List (List Int)} (h:∀j,¬alike X j):fxd X = -1:=by
 unfold fxd
 rw [dif_neg fun ⟨j,hj⟩=>h j hj]
theorem fxd_bd {X:List (List Int)}:fxd X = -1∨∃i:Nat,fxd X=(i:Int)∧alike X i:=by
 by_cases h:∃i,alike X i
 ·obtain ⟨i,h1,h2⟩:=least h
  exact .inr ⟨i,fxd_some h1 h2,h1⟩
 ·exact .inl (fxd_none fun j hj=>h ⟨j,hj⟩)
theorem C_spec_FixedFrame (X:List (List Int)) (hX:X.length≤1000) (hr:∀i,(X.getD i []).length≤1048576) (Q:List AV→Prop):mc.C f_spec_FixedFrame [⟨L (L I),X⟩] Q=Q [⟨I,fxd X⟩]:=by
 refine Mc.Ends.c (mc.ends F_spec_FixedFrame ?_)
 simp+contextual(maxSteps:=1000000)(disch:=omega)only[↓Sd,↓So,↓Sk,↓den,↓denA,Sa,Sb,Sc,Se,O1.d,O2.d,O3.d,cmI,arI,envOf,putN,↓reduceIte,Nat.reduceLT,Nat.reduceSub,Nat.reduceAdd,Int.reduceAdd,Int.reduceEq,Int.reduceLT,Int.reduceLE,arr_pos,arr_neg,tr_spec_FixedFrame]
 refine mc.lp_inv (fun k us=>∃i:Nat,us=[⟨L (L I),X⟩,⟨I,(i:Int)⟩]∧1≤i∧i≤2000∧(∀j,j<i→¬alike X j)∧k=5000 - i) _ _ ⟨1,rfl,Nat.le_refl _,by omega,fun j hj hh=>by have:=hh.1;omega,rfl⟩ ?_
 rintro k us ⟨i,rfl,h1,h2,h3,rfl⟩
 have hi3:((i:Int)+1).toNat=i+1:=by omega
 by_cases hi:i+1<X.length
 ·by_cases he:X.getD i []=X.getD (i+1) []
  ·simp+contextual(maxSteps:=1000000)(disch:=omega)only[↓Sd,↓So,↓Sk,↓den,↓denA,Sa,Sb,Sc,Se,O1.d,O2.d,O3.d,cmI,arI,envOf,putN,↓reduceIte,Nat.reduceLT,Nat.reduceSub,Nat.reduceAdd,Int.reduceAdd,Int.reduceEq,Int.reduceLT,Int.reduceLE,arr_pos,arr_neg,hi3,C_spec_l2Same _ _ (hr i) (hr (i+1)),decide_eq_true he]
   rw [fxd_some ⟨h1,hi,he⟩ h3]
  ·simp+contextual(maxSteps:=1000000)(disch:=omega)only[↓Sd,↓So,↓Sk,↓den,↓denA,Sa,Sb,Sc,Se,O1.d,O2.d,O3.d,cmI,arI,envOf,putN,↓reduceIte,Nat.reduceLT,Nat.reduceSub,Nat.reduceAdd,Int.reduceAdd,Int.reduceEq,Int.reduceLT,Int.reduceLE,arr_pos,arr_neg,hi3,C_spec_l2Same _ _ (hr i) (hr (i+1)),decide_eq_false he]
   refine ⟨_,by omega,i+1,by simp,by omega,by omega,fun j hj hh=>?_,rfl⟩
   by_cases hji:j=i
   ·subst hji;exact he hh.2.2
   ·exact h3 j (by omega) hh
 ·simp+contextual(maxSteps:=1000000)(disch:=omega)only[↓Sd,↓So,↓Sk,↓den,↓denA,Sa,Sb,Sc,Se,O1.d,O2.d,O3.d,cmI,arI,envOf,putN,↓reduceIte,Nat.reduceLT,Nat.reduceSub,Nat.reduceAdd,Int.reduceAdd,Int.reduceEq,Int.reduceLT,Int.reduceLE,arr_pos,arr_neg,]
  rw [fxd_none fun j hh=>by
   by_cases hji:j<i
   ·exact h3 j hji hh
   ·have:=hh.2.1;omega]
theorem C_impl_FixedFrame (X:List (List Int)) (hX:X.length≤1000) (hr:∀i,(X.getD i []).length≤1048576) (Q:List AV→Prop):mc.C f_impl_FixedFrame [⟨L (L I),X⟩] Q=Q [⟨I,fxd X⟩]:=by
 refine Mc.Ends.c (mc.ends F_impl_FixedFrame ?_)
 simp+contextual(maxSteps:=1000000)(disch:=omega)only[↓Sd,↓So,↓Sk,↓den,↓denA,Sa,Sb,Sc,Se,O1.d,O2.d,O3.d,cmI,arI,envOf,putN,↓reduceIte,Nat.reduceLT,Nat.reduceSub,Nat.reduceAdd,Int.reduceAdd,Int.reduceEq,Int.reduceLT,Int.reduceLE,arr_pos,arr_neg,tr_impl_FixedFrame]
 refine mc.lp_inv (fun k us=>∃i:Nat,us=[⟨L (L I),X⟩,⟨I,(i:Int)⟩]∧1≤i∧i≤2000∧(∀j,j<i→¬alike X j)∧k=5000 - i) _ _ ⟨1,rfl,Nat.le_refl _,by omega,fun j hj hh=>by have:=hh.1;omega,rfl⟩ ?_
 rintro k us ⟨i,rfl,h1,h2,h3,rfl⟩
 have hi3:((i:Int)+1).toNat=i+1:=by omega
 by_cases hi:i+1<X.length
 ·by_cases he:X.getD i []=X.getD (i+1) []
  ·simp+contextual(maxSteps:=1000000)(disch:=omega)only[↓Sd,↓So,↓Sk,↓den,↓denA,Sa,Sb,Sc,Se,O1.d,O2.d,O3.d,cmI,arI,envOf,putN,↓reduceIte,Nat.reduceLT,Nat.reduceSub,Nat.reduceAdd,Int.reduceAdd,Int.reduceEq,Int.reduceLT,Int.reduceLE,arr_pos,arr_neg,hi3,C_slices_Equal _ _ (hr i) (hr (i+1)),decide_eq_true he]
   rw [fxd_some ⟨h1,hi,he⟩ h3]
  ·simp+contextual(maxSteps:=1000000)(disch:=omega)only[↓Sd,↓So,↓Sk,↓den,↓denA,Sa,Sb,Sc,Se,O1.d,O2.d,O3.d,cmI,arI,envOf,putN,↓reduceIte,Nat.reduceLT,Nat.reduceSub,Nat.reduceAdd,Int.reduceAdd,Int.reduceEq,Int.reduceLT,Int.reduceLE,arr_pos,arr_neg,hi3,C_slices_Equal _ _ (hr i) (hr (i+1)),decide_eq_false he]
   refine ⟨_,by omega,i+1,by simp,by omega,by omega,fun j hj hh=>?_,rfl⟩
   by_cases hji:j=i
   ·subst hji;exact he hh.2.2
   ·exact h3 j (by omega) hh
 ·simp+contextual(maxSteps:=1000000)(disch:=omega)only[↓Sd,↓So,↓Sk,↓den,↓denA,Sa,Sb,Sc,Se,O1.d,O2.d,O3.d,cmI,arI,envOf,putN,↓reduceIte,Nat.reduceLT,Nat.reduceSub,Nat.reduceAdd,Int.reduceAdd,Int.reduceEq,Int.reduceLT,Int.reduceLE,arr_pos,arr_neg,]
  rw [fxd_none fun j hh=>by
   by_cases hji:j<i
   ·exact h3 j hji hh
   ·have:=hh.2.1;omega]
theorem C_spec_l17Way_w (s:Sy) (D st:Nat) (way:List Int) (hs:FewSy s) (hv:valid s) (hD:D≤30) (hw:IsW s D st way) {Q:List AV→Prop} (hQ:∀(X:List (List Int)) (R:List Int),Q [⟨L (L I),X⟩,⟨L I,R⟩]):mc.C f_spec_l17Way [⟨L V3,s.1⟩,⟨L TR,s.2⟩,⟨L I,way⟩] Q:=by
 obtain ⟨ch,rfl,c0,cD,cn,ce⟩:=hw
 have hz:=szn_eq hv
 obtain ⟨hfe,hfn⟩:=fn0_eq hv
 have hl:(tab (fun i=>((ch i:Nat):Int)) (D+1)).length=D+1:=tab_len
 have hrun:IsRun s D (fun i=>stN s (ch i)):=⟨by omega,stN_first hv (by rw [hfe];exact congrArg Int.ofNat c0.symm),fun e he=>stN_in hv (cn e he),fun e he=>rbt_step hv (cn e (by omega)) (ce e he)⟩
 refine mc.c_of F_spec_l17Way ?_
 simp+contextual(maxSteps:=1000000)(disch:=omega)only[↓Sd,↓So,↓Sk,↓den,↓denA,Sa,Sb,Sc,Se,O1.d,O2.d,O3.d,cmI,arI,envOf,putN,↓reduceIte,Nat.reduceLT,Nat.reduceSub,Nat.reduceAdd,Int.reduceAdd,Int.reduceEq,Int.reduceLT,Int.reduceLE,arr_pos,arr_neg,tr_spec_l17Way]
 refine mc.lp_for (List (List Int)) (fun i o=>[⟨L I,tab (fun i=>((ch i:Nat):Int)) (D+1)⟩,⟨I,(i:Int)⟩,⟨L V3,s.1⟩,⟨L TR,s.2⟩,⟨L (L I),o⟩]) (fun i o=>o=tab (fun i=>stN s (ch i)) i) (D+1) 0 [] _ rfl (Nat.zero_le _) rfl ?_ ?_
 ·rintro i o hi rfl
  have h3:=cn i (by omega)
  have h4:(tab (fun i=>stN s (ch i)) i).length=i:=tab_len
  simp+contextual(maxSteps:=1000000)(disch:=omega)only[↓Sd,↓So,↓Sk,↓den,↓denA,Sa,Sb,Sc,Se,O1.d,O2.d,O3.d,cmI,arI,envOf,putN,↓reduceIte,Nat.reduceLT,Nat.reduceSub,Nat.reduceAdd,Int.reduceAdd,Int.reduceEq,Int.reduceLT,Int.reduceLE,arr_pos,arr_neg,hl,tab_get hi,C_spec_l4State s _ hs hv (by omega:(0:Int)≤((ch i:Nat):Int)∧((ch i:Nat):Int)≤3200000)]
  exact tab_next
 ·rintro o rfl
  simp+contextual(maxSteps:=1000000)(disch:=omega)only[↓Sd,↓So,↓Sk,↓den,↓denA,Sa,Sb,Sc,Se,O1.d,O2.d,O3.d,cmI,arI,envOf,putN,↓reduceIte,Nat.reduceLT,Nat.reduceSub,Nat.reduceAdd,Int.reduceAdd,Int.reduceEq,Int.reduceLT,Int.reduceLE,arr_pos,arr_neg,hl,C_spec_TraceOf s D (fun i=>stN s (ch i)) hs hv hrun]
  exact hQ _ _
theorem D_CloseIn (s:Sy) (l:List Tm) (hs:FewSy s) (hf:Few l) {Q:List AV→Prop} (hQ:∀(b1:Bool) (X:List (List Int)) (sh:List Int) (Y:List (List Int)) (R:List Int) (b2:Bool),X.length≤30→(∀r∈X,r.length≤401)→Q [⟨B,b1⟩,⟨L (L I),X⟩,⟨L I,sh⟩,⟨L (L I),Y⟩,⟨L I,R⟩,⟨B,b2⟩]) :
  mc.C f_spec_CloseIn [⟨L V3,s.1⟩,⟨L TR,s.2⟩,⟨L T4,l⟩] Q:=by
 refine mc.c_of F_spec_CloseIn ?_
 have hnone:Q [⟨B,false⟩,⟨L (L I),[]⟩,⟨L I,[]⟩,⟨L (L I),[]⟩,⟨L I,[]⟩,⟨B,false⟩]:=hQ _ _ _ _ _ _ (by simp) (fun r hr=>by simp at hr)
 by_cases h0:valid s
 ·by_cases h1:kf l s.1.length=2
  ·have hz:=szn_eq h0
   obtain ⟨hfe,hfn⟩:=fn0_eq h0
   have hfrX:∀(G:Nat→Nat→Bool) (m:Nat),m≤30→(frT (szn s.1) G m).length≤30∧∀r∈frT (szn s.1) G m,r.length≤401:=fun G m hm=>by
    have:(frT (szn s.1) G m).length=m:=tab_len
    refine ⟨by omega,fun r hr=>?_⟩
    simp only [frT,tab,List.mem_map,List.mem_range] at hr
    obtain ⟨i,-,rfl⟩:=hr
    exact Nat.le_trans upTo_len (by omega)
   simp+contextual(maxSteps:=1000000)(disch:=omega)only[↓Sd,↓So,↓Sk,↓den,↓denA,Sa,Sb,Sc,Se,O1.d,O2.d,O3.d,cmI,arI,envOf,putN,↓reduceIte,Nat.reduceLT,Nat.reduceSub,Nat.reduceAdd,Int.reduceAdd,Int.reduceEq,Int.reduceLT,Int.reduceLE,arr_pos,arr_neg,tr_spec_CloseIn,C_spec_SystemValid s hs,h0,decide_true,Bool.not_true,C_spec_l2Is l s.1.length 2 hf (by omega),decide_eq_true h1,C_spec_l15Good s l hs hf ⟨h0,h1⟩,C_spec_FirstState s hs h0,C_spec_l4Number s _ h0.1.2 h0.2.2.1 (fst0_in h0.2.2.1),hfe,C_spec_l4Steps s hs h0,tab_len,tab_get hfn]
   by_cases hg:holdsN s l (fn0 s)=true
   ·simp+contextual(maxSteps:=1000000)(disch:=omega)only[↓Sd,↓So,↓Sk,↓den,↓denA,Sa,Sb,Sc,Se,O1.d,O2.d,O3.d,cmI,arI,envOf,putN,↓reduceIte,Nat.reduceLT,Nat.reduceSub,Nat.reduceAdd,Int.reduceAdd,Int.reduceEq,Int.reduceLT,Int.reduceLE,arr_pos,arr_neg,hg]
    have hF1:FI s 1 (fun _ k=>decide (k=fn0 s)) [] []:=by
     refine ⟨fun k _=>by simp,rfl,fun c hc=>by simp at hc,fun x hx=>by simp at hx,?_,Nat.le_refl _,by omega⟩
     have:=@upTo_len (fun k=>decide (k=fn0 s)) (szn s.1)
     simp only [muP,List.length_nil];omega
    have hfr1:frT (szn s.1) (fun _ k=>decide (k=fn0 s)) 1=[[(fn0 s:Int)]]:=by
     have h2:upTo (fun k=>decide (k=fn0 s)) (szn s.1)=[(fn0 s:Int)]:=by
      rw [upTo_congr (q:=fun k=>k==fn0 s) fun k _=>by rfl,upTo_one,if_pos hfn]
     simp only [frT,tab,List.range_succ,List.range_zero,List.nil_append,List.map_cons,List.map_nil,h2]
    refine mc.lp_inv (fun j us=>∃(m:Nat) (G:Nat→Nat→Bool) (cb:List (List Int)) (lv:List Int),us=[⟨L V3,s.1⟩,⟨L TR,s.2⟩,⟨B,false⟩,⟨L B,tab (holdsN s l) (szn s.1)⟩,⟨L (L I),steps s⟩,⟨L (L I),frT (szn s.1) G m⟩,⟨L (L I),cb⟩,⟨L I,lv⟩,⟨L I,[]⟩]∧FI s m G cb lv∧j=100 - m)
     _ _ ⟨1,_,[],[],by rw [hfr1],hF1,rfl⟩ ?_
    rintro j us ⟨m,G,cb,lv,rfl,hG,rfl⟩
    have hm1:=hG.m1
    have hm2:=hG.m2
    have hlen:∀(G:Nat→Nat→Bool) (m:Nat),(frT (szn s.1) G m).length=m:=fun _ _=>tab_len
    by_cases hm:m<30
    ·have hul:(upTo (fun _=>true) (szn s.1)).length≤szn s.1:=upTo_len
     have hnew:frT (szn s.1) G m++[upTo (fun _=>true) (szn s.1)]=frT (szn s.1) (fun j k=>if j=m then true else G j k) (m+1):=by
      unfold frT
      rw [←tab_next]
      congr 1
      ·exact tab_congr fun j hj=>upTo_congr fun k _=>by dsimp only;rw [if_neg (by omega)]
      ·simp only [if_true]
     have hF2:FI s (m+1) (fun j k=>if j=m then true else G j k) cb lv:=by
      refine ⟨fun k hk=>by rw [if_neg (by omega)];exact hG.one k hk,hG.len,hG.cub,fun x hx=>by have:=hG.lev x hx;omega,?_,by omega,by omega⟩
      have h3:=hG.bnd
      have h4:=muP_le (n:=szn s.1) (F:=fun j k=>if j=m then true else G j k) (G:=G) (m:=m) fun j k hj _ hh=>by rw [if_neg (by omega)] at hh;exact hh
      have h5:=hul
      have h6:muP (szn s.1) (fun j k=>if j=m then true else G j k) (m+1)=muP (szn s.1) (fun j k=>if j=m then true else G j k) m+(upTo (fun _=>true) (szn s.1)).length:=by simp only [muP,if_true]
      rw [h6];omega
     simp+contextual(maxSteps:=1000000)(disch:=omega)only[↓Sd,↓So,↓Sk,↓den,↓denA,Sa,Sb,Sc,Se,O1.d,O2.d,O3.d,cmI,arI,envOf,putN,↓reduceIte,Nat.reduceLT,Nat.reduceSub,Nat.reduceAdd,Int.reduceAdd,Int.reduceEq,Int.reduceLT,Int.reduceLE,arr_pos,arr_neg,hlen,C_spec_SizeOf s hs,if_pos h0,←hz.1,C_spec_l14Range (szn s.1) (by omega),hnew]
     refine C_spec_l17Close s hs h0 (m+1) _ cb lv (holdsN s l) hF2 fun F' cb' lv' way' hF' hw=>?_
     rcases hw with rfl | ⟨D,st,hD,hw⟩
     ·simp+contextual(maxSteps:=1000000)(disch:=omega)only[↓Sd,↓So,↓Sk,↓den,↓denA,Sa,Sb,Sc,Se,O1.d,O2.d,O3.d,cmI,arI,envOf,putN,↓reduceIte,Nat.reduceLT,Nat.reduceSub,Nat.reduceAdd,Int.reduceAdd,Int.reduceEq,Int.reduceLT,Int.reduceLE,arr_pos,arr_neg,List.length_nil]
      refine C_spec_l17Push s hs h0 (m+1) F' cb' lv' [] hF' fun F2 lv2 hF2=>?_
      obtain ⟨hX1,hX2⟩:=hfrX F2 (m+1) (by omega)
      have hrow:∀i,((frT (szn s.1) F2 (m+1)).getD i []).length≤1048576:=fun i=>by
       by_cases hi:i<(frT (szn s.1) F2 (m+1)).length
       ·have:=hX2 _ (getD_mem (d:=[]) hi);omega
       ·rw [List.getD_eq_getElem?_getD,List.getElem?_eq_none (by omega)];simp
      simp+contextual(maxSteps:=1000000)(disch:=omega)only[↓Sd,↓So,↓Sk,↓den,↓denA,Sa,Sb,Sc,Se,O1.d,O2.d,O3.d,cmI,arI,envOf,putN,↓reduceIte,Nat.reduceLT,Nat.reduceSub,Nat.reduceAdd,Int.reduceAdd,Int.reduceEq,Int.reduceLT,Int.reduceLE,arr_pos,arr_neg,C_spec_FixedFrame _ (by omega) hrow]
      rcases fxd_bd (X:=frT (szn s.1) F2 (m+1)) with hx | ⟨i,hx,ha⟩
      ·simp+contextual(maxSteps:=1000000)(disch:=omega)only[↓Sd,↓So,↓Sk,↓den,↓denA,Sa,Sb,Sc,Se,O1.d,O2.d,O3.d,cmI,arI,envOf,putN,↓reduceIte,Nat.reduceLT,Nat.reduceSub,Nat.reduceAdd,Int.reduceAdd,Int.reduceEq,Int.reduceLT,Int.reduceLE,arr_pos,arr_neg,hx]
       exact ⟨_,by omega,m+1,F2,cb',lv2,⟨rfl,rfl,rfl⟩,hF2,rfl⟩
      ·have hi1:=ha.1
       have hi2:=ha.2.1
       rw [hlen] at hi2
       simp+contextual(maxSteps:=1000000)(disch:=omega)only[↓Sd,↓So,↓Sk,↓den,↓denA,Sa,Sb,Sc,Se,O1.d,O2.d,O3.d,cmI,arI,envOf,putN,↓reduceIte,Nat.reduceLT,Nat.reduceSub,Nat.reduceAdd,Int.reduceAdd,Int.reduceEq,Int.reduceLT,Int.reduceLE,arr_pos,arr_neg,hx,hlen,C_spec_l3Copy _ (hrow i)]
       exact hQ _ _ _ _ _ _ hX1 hX2
     ·obtain ⟨hne,hwl⟩:=hw.ne
      simp+contextual(maxSteps:=1000000)(disch:=omega)only[↓Sd,↓So,↓Sk,↓den,↓denA,Sa,Sb,Sc,Se,O1.d,O2.d,O3.d,cmI,arI,envOf,putN,↓reduceIte,Nat.reduceLT,Nat.reduceSub,Nat.reduceAdd,Int.reduceAdd,Int.reduceEq,Int.reduceLT,Int.reduceLE,arr_pos,arr_neg,hwl]
      refine C_spec_l17Way_w s D st way' hs h0 hD hw fun X R=>?_
      simp+contextual(maxSteps:=1000000)(disch:=omega)only[↓Sd,↓So,↓Sk,↓den,↓denA,Sa,Sb,Sc,Se,O1.d,O2.d,O3.d,cmI,arI,envOf,putN,↓reduceIte,Nat.reduceLT,Nat.reduceSub,Nat.reduceAdd,Int.reduceAdd,Int.reduceEq,Int.reduceLT,Int.reduceLE,arr_pos,arr_neg,]
      obtain ⟨hX1,hX2⟩:=hfrX F' (m+1) (by omega)
      exact hQ _ _ _ _ _ _ hX1 hX2
    ·simp+contextual(maxSteps:=1000000)(disch:=omega)only[↓Sd,↓So,↓Sk,↓den,↓denA,Sa,Sb,Sc,Se,O1.d,O2.d,O3.d,cmI,arI,envOf,putN,↓reduceIte,Nat.reduceLT,Nat.reduceSub,Nat.reduceAdd,Int.reduceAdd,Int.reduceEq,Int.reduceLT,Int.reduceLE,arr_pos,arr_neg,hlen]
     exact hnone
   ·have hg':holdsN s l (fn0 s)=false:=by simpa using hg
    simp+contextual(maxSteps:=1000000)(disch:=omega)only[↓Sd,↓So,↓Sk,↓den,↓denA,Sa,Sb,Sc,Se,O1.d,O2.d,O3.d,cmI,arI,envOf,putN,↓reduceIte,Nat.reduceLT,Nat.reduceSub,Nat.reduceAdd,Int.reduceAdd,Int.reduceEq,Int.reduceLT,Int.reduceLE,arr_pos,arr_neg,hg']
    refine C_spec_l17Way_w s 0 (fn0 s) [(fn0 s:Int)] hs h0 (by omega) ⟨fun _=>fn0 s,rfl,rfl,rfl,fun _ _=>hfn,fun e he=>absurd he (Nat.not_lt_zero _)⟩ fun X R=>?_
    simp+contextual(maxSteps:=1000000)(disch:=omega)only[↓Sd,↓So,↓Sk,↓den,↓denA,Sa,Sb,Sc,Se,O1.d,O2.d,O3.d,cmI,arI,envOf,putN,↓reduceIte,Nat.reduceLT,Nat.reduceSub,Nat.reduceAdd,Int.reduceAdd,Int.reduceEq,Int.reduceLT,Int.reduceLE,arr_pos,arr_neg,]
    exact hQ _ _ _ _ _ _ (by simp) (fun r hr=>by rw [List.mem_singleton.1 hr];simp)
  ·simp+contextual(maxSteps:=1000000)(disch:=omega)only[↓Sd,↓So,↓Sk,↓den,↓denA,Sa,Sb,Sc,Se,O1.d,O2.d,O3.d,cmI,arI,envOf,putN,↓reduceIte,Nat.reduceLT,Nat.reduceSub,Nat.reduceAdd,Int.reduceAdd,Int.reduceEq,Int.reduceLT,Int.reduceLE,arr_pos,arr_neg,tr_spec_CloseIn,C_spec_SystemValid s hs,h0,decide_true,Bool.not_true,C_spec_l2Is l s.1.length 2 hf (by omega),decide_eq_false h1,Bool.not_false]
   exact hnone
 ·simp+contextual(maxSteps:=1000000)(disch:=omega)only[↓Sd,↓So,↓Sk,↓den,↓denA,Sa,Sb,Sc,Se,O1.d,O2.d,O3.d,cmI,arI,envOf,putN,↓reduceIte,Nat.reduceLT,Nat.reduceSub,Nat.reduceAdd,Int.reduceAdd,Int.reduceEq,Int.reduceLT,Int.reduceLE,arr_pos,arr_neg,tr_spec_CloseIn,C_spec_SystemValid s hs,h0,decide_false,Bool.not_false]
  exact hnone
end Go.Proofs.YtlfinllnfggiiaaGreat
