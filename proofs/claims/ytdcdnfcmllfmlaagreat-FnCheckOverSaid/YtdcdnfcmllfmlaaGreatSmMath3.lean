/- What the trees come to: plain mathematics; no condition. -/
import Derived.Test.YtdcdnfcmllfmlaaGreatSmMath2
namespace Go.Proofs.YtdcdnfcmllfmlaaGreat
open Go Go.Sm Go.Sm.Q
set_option linter.unusedSimpArgs false
set_option linter.unusedVariables false
theorem C_spec_l19Way (s:Sy) (l:List Tm) (b D:Nat) (ch:Nat→Nat) (hs:FewSy s) (hv:valid s) (hw:IsWay s l b D ch) (Q:List AV→Prop):mc.C f_spec_l19Way [⟨L V3,s.1⟩,⟨L TR,s.2⟩,⟨L (L I),steps s⟩,⟨L I,upTo (holdsN s l) (szn s.1)⟩] Q=Q [⟨L (L I),tab (wst s ch) (D+1)⟩,⟨L I,rules s (wst s ch) D⟩]:=by
 have hz:=szn_eq hv
 have hfi:=fst0_in hv.2.2.1
 have hbd:=num_bd hv.2.2.1 hfi
 have hul:(upTo (holdsN s l) (szn s.1)).length≤400:=upTo_few hv
 have hc:=hw.chain
 have hfew:=hc.few
 have hTl:=(steps_tbl hv).1
 refine Mc.Ends.c (mc.ends F_spec_l19Way ?_)
 simp+contextual(maxSteps:=1000000)(disch:=omega)only[↓Sd,↓So,↓Sk,↓den,↓denA,Sa,Sb,Sc,Se,O1.d,O2.d,O3.d,cmI,arI,envOf,putN,↓reduceIte,Nat.reduceLT,Nat.reduceSub,Nat.reduceAdd,Int.reduceAdd,Int.reduceEq,Int.reduceLT,Int.reduceLE,arr_pos,arr_neg,tr_spec_l19Way,hTl,C_spec_l5First s hs hv,C_spec_l5Steps (steps s) _ [num s.1 (fst0 s.1)] (szn s.1) (by omega) (steps_tbl hv) (by intro x hx;simp only [List.mem_singleton] at hx;omega) (fun k _=>dB_iff),C_spec_l4Marks (upTo (holdsN s l) (szn s.1)) (szn s.1) (by omega) (by omega) (lset_mem (upTo_lset (Nat.le_refl _))),upTo_marks,C_spec_l5Nearest _ (holdsN s l) (szn s.1) (by omega:szn s.1≤1048576)]
 have e:near (holdsN s l) (dst (steps s) [num s.1 (fst0 s.1)]) (szn s.1)=b:=hw.near
 have e2:tab (dst (steps s) [num s.1 (fst0 s.1)]) (szn s.1)=tab (dS s) (szn s.1):=rfl
 simp+contextual(maxSteps:=1000000)(disch:=omega)only[↓Sd,↓So,↓Sk,↓den,↓denA,Sa,Sb,Sc,Se,O1.d,O2.d,O3.d,cmI,arI,envOf,putN,↓reduceIte,Nat.reduceLT,Nat.reduceSub,Nat.reduceAdd,Int.reduceAdd,Int.reduceEq,Int.reduceLT,Int.reduceLE,arr_pos,arr_neg,e,e2]
 refine mc.lp_down (List Int) (fun e o=>[⟨L (L I),steps s⟩,⟨L V3,s.1⟩,⟨L TR,s.2⟩,⟨L I,tab (dS s) (szn s.1)⟩,⟨L I,o⟩]) (fun e o=>e≤D∧o=tab (fun i=>((ch (D - i):Nat):Int)) (D+1 - e)) D [(b:Int)] _ rfl ⟨Nat.le_refl _,by rw [show D+1 - D=1 by omega,←hc.1];rfl⟩ ?_ ?_
 ·rintro e o ⟨he,rfl⟩
  have hlen:(tab (fun i=>((ch (D - i):Nat):Int)) (D+1 - (e+1))).length=D - e:=by rw [tab_len];omega
  have hlast : (tab (fun i => ((ch (D - i) : Nat) : Int)) (D + 1 - (e + 1))).getD (D - e - 1) 0 = (ch (e + 1) : Nat) := by rw [tab_get (by omega), show D - (D - e - 1) = e + 1 by omega]
  have hi1 : (((D - e : Nat) : Int) - 1).toNat = D - e - 1 := by omega
  have h1:=hc.2.2 (e+1) he
  have h2:=hc.2.1 e (by omega)
  simp+contextual(maxSteps:=1000000)(disch:=omega)only[↓Sd,↓So,↓Sk,↓den,↓denA,Sa,Sb,Sc,Se,O1.d,O2.d,O3.d,cmI,arI,envOf,putN,↓reduceIte,Nat.reduceLT,Nat.reduceSub,Nat.reduceAdd,Int.reduceAdd,Int.reduceEq,Int.reduceLT,Int.reduceLE,arr_pos,arr_neg,hlen,hi1,hlast,tab_len,Int.toNat_natCast,tab_get h1.1,h1.2,C_spec_l5Back (steps s) (dS s) (szn s.1) (ch (e+1)) (ch e) (steps_tb8 hv) h1.1 (fun k hk=>dS_bd hv hk) h2]
  exact ⟨by omega,by rw [show D+1 - (e+1)=D - e by omega,show D+1 - e=(D - e)+1 by omega,←tab_next,show D - (D - e)=e by omega]⟩
 ·rintro o ⟨he,rfl⟩
  have hlen:(tab (fun i=>((ch (D - i):Nat):Int)) (D+1 - 0)).length=D+1:=by rw [tab_len];omega
  have hlast:(tab (fun i=>((ch (D - i):Nat):Int)) (D+1 - 0)).getD D 0=(ch 0:Nat):=by rw [tab_get (by omega),show D - D=0 by omega]
  have h1:=hc.2.2 0 (by omega)
  simp+contextual(maxSteps:=1000000)(disch:=omega)only[↓Sd,↓So,↓Sk,↓den,↓denA,Sa,Sb,Sc,Se,O1.d,O2.d,O3.d,cmI,arI,envOf,putN,↓reduceIte,Nat.reduceLT,Nat.reduceSub,Nat.reduceAdd,Int.reduceAdd,Int.reduceEq,Int.reduceLT,Int.reduceLE,arr_pos,arr_neg,hlen,hlast,tab_len,Int.toNat_natCast,tab_get h1.1,h1.2]
  refine mc.lp_down (List Int) (fun e o=>[⟨I,(e:Int) - 1⟩,⟨L V3,s.1⟩,⟨L TR,s.2⟩,⟨L I,tab (fun i=>((ch (D - i):Nat):Int)) (D+1 - 0)⟩,⟨L I,o⟩]) (fun e o=>e≤D+1∧o=tab (fun i=>((ch i:Nat):Int)) (D+1 - e)) (D+1) [] _ (by rw [show ((D+1:Nat):Int) - 1=D by omega]) ⟨Nat.le_refl _,by rw [Nat.sub_self];rfl⟩ ?_ ?_
  ·rintro e o ⟨he,rfl⟩
   have e1:((e+1:Nat):Int) - 1=e:=by omega
   have hg:(tab (fun i=>((ch (D - i):Nat):Int)) (D+1 - 0)).getD e 0=(ch (D - e):Nat):=tab_get (by omega)
   have h4:(tab (fun i=>((ch i:Nat):Int)) (D+1 - (e+1))).length≤1000:=by rw [tab_len];omega
   simp+contextual(maxSteps:=1000000)(disch:=omega)only[↓Sd,↓So,↓Sk,↓den,↓denA,Sa,Sb,Sc,Se,O1.d,O2.d,O3.d,cmI,arI,envOf,putN,↓reduceIte,Nat.reduceLT,Nat.reduceSub,Nat.reduceAdd,Int.reduceAdd,Int.reduceEq,Int.reduceLT,Int.reduceLE,arr_pos,arr_neg,e1,hlen,hg]
   exact ⟨by omega,by rw [show D+1 - (e+1)=D - e by omega,show D+1 - e=(D - e)+1 by omega,←tab_next]⟩
  ·rintro o ⟨he,rfl⟩
   rw [Nat.sub_zero]
   simp+contextual(maxSteps:=1000000)(disch:=omega)only[↓Sd,↓So,↓Sk,↓den,↓denA,Sa,Sb,Sc,Se,O1.d,O2.d,O3.d,cmI,arI,envOf,putN,↓reduceIte,Nat.reduceLT,Nat.reduceSub,Nat.reduceAdd,Int.reduceAdd,Int.reduceEq,Int.reduceLT,Int.reduceLE,arr_pos,arr_neg,C_spec_l17Way s b D ch hs hv hc]
def badL (s:Sy) (l:List Tm):List Int:=upTo (holdsN s (neg l)) (szn s.1)
noncomputable def pk (s:Sy) (l:List Tm) (k:Nat):Nat→Bool:=wI (Eb (steps s)) (szn s.1) (fun k=>dB ((k:Int)∈badL s l)) k
theorem badL_in {s:Sy} {l:List Tm}:∀x∈badL s l,0≤x∧x<(szn s.1:Int):=fun x hx=>by obtain ⟨k,h1,rfl,_⟩:=upTo_mem.1 hx;omega
theorem badL_len {s:Sy} {l:List Tm}:(badL s l).length≤szn s.1:=upTo_len
theorem badL_mem {s:Sy} {l:List Tm} {k:Nat} (hk:k<szn s.1):dB ((k:Int)∈badL s l)=holdsN s (neg l) k:=by
 rw [badL,dB_upTo,decide_eq_true hk,Bool.true_and]
theorem shn_has {s:Sy} {q:Nat→Bool} {m:Nat} (hm:m<szn s.1):(m:Int)∈shn s q m:=upTo_mem.2 ⟨m,hm,rfl,dB_t ⟨0,by simp [rnd]⟩⟩
theorem shn_len {s:Sy} {q:Nat→Bool} {m:Nat}:(shn s q m).length≤szn s.1:=upTo_len
theorem C_spec_CheckOver_no (s:Sy) (l:List Tm) (hs:FewSy s) (hf:Few l) (h:¬(valid s∧kf l s.1.length=2)) (Q:List AV→Prop):mc.C f_spec_CheckOver [⟨L V3,s.1⟩,⟨L TR,s.2⟩,⟨L T4,l⟩] Q=Q [⟨B,false⟩,⟨I,0⟩,⟨L I,[]⟩,⟨L (L I),[]⟩,⟨L I,[]⟩,⟨B,false⟩]:=by
 refine Mc.Ends.c (mc.ends F_spec_CheckOver ?_)
 by_cases hv:valid s
 ·have hk:¬kf l s.1.length=2:=fun g=>h ⟨hv,g⟩
  simp+contextual(maxSteps:=1000000)(disch:=omega)only[↓Sd,↓So,↓Sk,↓den,↓denA,Sa,Sb,Sc,Se,O1.d,O2.d,O3.d,cmI,arI,envOf,putN,↓reduceIte,Nat.reduceLT,Nat.reduceSub,Nat.reduceAdd,Int.reduceAdd,Int.reduceEq,Int.reduceLT,Int.reduceLE,arr_pos,arr_neg,tr_spec_CheckOver,C_spec_SystemValid s hs,hv,C_spec_l2Is l s.1.length 2 hf (by omega),hk]
 ·simp+contextual(maxSteps:=1000000)(disch:=omega)only[↓Sd,↓So,↓Sk,↓den,↓denA,Sa,Sb,Sc,Se,O1.d,O2.d,O3.d,cmI,arI,envOf,putN,↓reduceIte,Nat.reduceLT,Nat.reduceSub,Nat.reduceAdd,Int.reduceAdd,Int.reduceEq,Int.reduceLT,Int.reduceLE,arr_pos,arr_neg,tr_spec_CheckOver,C_spec_SystemValid s hs,hv]
theorem C_spec_CheckOver_ok (s:Sy) (l:List Tm) (m k:Nat) (hs:FewSy s) (hf:Few l) (h:valid s∧kf l s.1.length=2) (hm:num s.1 (fst0 s.1)=m) (hmn:m<szn s.1) (hk:k≤szn s.1) (hno:∀i,i<k→pk s l i m=false∧¬okR s (pk s l i) m) (out:List AV)
  (ho:(∃b D ch,pk s l k m=true∧IsWay s (neg l) b D ch∧out=[⟨B,false⟩,⟨I,(k:Int)⟩,⟨L I,[]⟩,⟨L (L I),tab (wst s ch) (D+1)⟩,⟨L I,rules s (wst s ch) D⟩,⟨B,true⟩])∨(pk s l k m=false∧okR s (pk s l k) m∧out=[⟨B,true⟩,⟨I,(k:Int)⟩,⟨L I,shn s (pk s l k) m⟩,⟨L (L I),[]⟩,⟨L I,[]⟩,⟨B,true⟩])) (Q:List AV→Prop):mc.C f_spec_CheckOver [⟨L V3,s.1⟩,⟨L TR,s.2⟩,⟨L T4,l⟩] Q=Q out:=by
 have hv:=h.1
 have hz:=szn_eq hv
 have hfi:=fst0_in hv.2.2.1
 have ht:=steps_tbl hv
 have hTl:=ht.1
 have hbl:=@badL_len s l
 have hsw:∀Q:List AV→Prop,mc.C f_spec_SetWithout [⟨L I,upTo (fun _=>true) (szn s.1)⟩,⟨L I,upTo (holdsN s l) (szn s.1)⟩] Q=Q [⟨L I,badL s l⟩]:=fun Q=>by
  rw [C_spec_SetWithout _ _ (upTo_lset (p:=fun _=>true) (m:=400) (n:=szn s.1) (by omega)) (upTo_lset (p:=holdsN s l) (m:=400) (n:=szn s.1) (by omega)),without_upTo (by omega:szn s.1≤400)]
  have:upTo (fun k=>true&&!holdsN s l k) (szn s.1)=badL s l:=upTo_congr fun k hk=>by rw [neg_holds hv h.2 hk,Bool.true_and]
  rw [this]
 have hbk:∀i,i≤szn s.1→∀Q:List AV→Prop,mc.C f_spec_l19Back [⟨L (L I),steps s⟩,⟨L I,badL s l⟩,⟨I,(i:Int)⟩] Q=Q [⟨L I,upTo (pk s l i) (szn s.1)⟩]:=fun i hi Q=>C_spec_l19Back (steps s) (badL s l) (szn s.1) i (by omega) (by omega) ht (by omega) badL_in Q
 have hhas:∀i,dB ((m:Int)∈upTo (pk s l i) (szn s.1))=pk s l i m:=fun i=>by rw [dB_upTo,decide_eq_true hmn,Bool.true_and]
 refine Mc.Ends.c (mc.ends F_spec_CheckOver ?_)
 simp+contextual(maxSteps:=1000000)(disch:=omega)only[↓Sd,↓So,↓Sk,↓den,↓denA,Sa,Sb,Sc,Se,O1.d,O2.d,O3.d,cmI,arI,envOf,putN,↓reduceIte,Nat.reduceLT,Nat.reduceSub,Nat.reduceAdd,Int.reduceAdd,Int.reduceEq,Int.reduceLT,Int.reduceLE,arr_pos,arr_neg,tr_spec_CheckOver,C_spec_SystemValid s hs,hv,C_spec_l2Is l s.1.length 2 hf (by omega),h.2,C_spec_l4Steps s hs hv,hTl,C_spec_FirstState s hs hv,C_spec_l4Number s _ hv.1.2 hv.2.2.1 hfi,hm,C_spec_l14Range (szn s.1) (by omega),C_spec_StatesWhere s l hs hf hv h.2,hsw]
 refine mc.lp_for Unit (fun i _=>[⟨I,(m:Int)⟩,⟨I,(i:Int)⟩,⟨L V3,s.1⟩,⟨L TR,s.2⟩,⟨B,false⟩,⟨I,0⟩,⟨L (L I),steps s⟩,⟨L I,badL s l⟩]) (fun _ _=>True) k 0 () _ rfl (Nat.zero_le _) trivial ?_ ?_
 ·rintro i - hi -
  have hul:=@upTo_len (pk s l i) (szn s.1)
  have h1:=hno i hi
  simp+contextual(maxSteps:=1000000)(disch:=omega)only[↓Sd,↓So,↓Sk,↓den,↓denA,Sa,Sb,Sc,Se,O1.d,O2.d,O3.d,cmI,arI,envOf,putN,↓reduceIte,Nat.reduceLT,Nat.reduceSub,Nat.reduceAdd,Int.reduceAdd,Int.reduceEq,Int.reduceLT,Int.reduceLE,arr_pos,arr_neg,hTl,hbk i (by omega),C_spec_l2Has (upTo (pk s l i) (szn s.1)) (m:Int) (by omega),hhas,h1.1,C_spec_l19Round s (pk s l i) m hs hv hm hmn,dB_f h1.2]
  done
 ·rintro - -
  have hul:=@upTo_len (pk s l k) (szn s.1)
  rcases ho with ⟨b,D,ch,h1,h2,rfl⟩ | ⟨h1,h2,rfl⟩
  ·simp+contextual(maxSteps:=1000000)(disch:=omega)only[↓Sd,↓So,↓Sk,↓den,↓denA,Sa,Sb,Sc,Se,O1.d,O2.d,O3.d,cmI,arI,envOf,putN,↓reduceIte,Nat.reduceLT,Nat.reduceSub,Nat.reduceAdd,Int.reduceAdd,Int.reduceEq,Int.reduceLT,Int.reduceLE,arr_pos,arr_neg,hTl,hbk k hk,C_spec_l2Has (upTo (pk s l k) (szn s.1)) (m:Int) (by omega),hhas,h1]
   have hwy:=C_spec_l19Way s (neg l) b D ch hs hv h2
   unfold badL
   simp+contextual(maxSteps:=1000000)(disch:=omega)only[↓Sd,↓So,↓Sk,↓den,↓denA,Sa,Sb,Sc,Se,O1.d,O2.d,O3.d,cmI,arI,envOf,putN,↓reduceIte,Nat.reduceLT,Nat.reduceSub,Nat.reduceAdd,Int.reduceAdd,Int.reduceEq,Int.reduceLT,Int.reduceLE,arr_pos,arr_neg,hwy]
   done
  ·have hsl:0<(shn s (pk s l k) m).length:=List.length_pos_of_mem (shn_has hmn)
   simp+contextual(maxSteps:=1000000)(disch:=omega)only[↓Sd,↓So,↓Sk,↓den,↓denA,Sa,Sb,Sc,Se,O1.d,O2.d,O3.d,cmI,arI,envOf,putN,↓reduceIte,Nat.reduceLT,Nat.reduceSub,Nat.reduceAdd,Int.reduceAdd,Int.reduceEq,Int.reduceLT,Int.reduceLE,arr_pos,arr_neg,hTl,hbk k hk,C_spec_l2Has (upTo (pk s l k) (szn s.1)) (m:Int) (by omega),hhas,h1,C_spec_l19Round s (pk s l k) m hs hv hm hmn,dB_t h2]
   done
theorem C_impl_CheckOver_no (s:Sy) (l:List Tm) (hs:FewSy s) (hf:Few l) (h:¬(valid s∧kf l s.1.length=2)) (Q:List AV→Prop):mc.C f_impl_CheckOver [⟨L V3,s.1⟩,⟨L TR,s.2⟩,⟨L T4,l⟩] Q=Q [⟨B,false⟩,⟨I,0⟩,⟨L I,[]⟩,⟨L (L I),[]⟩,⟨L I,[]⟩,⟨B,false⟩]:=by
 refine Mc.Ends.c (mc.ends F_impl_CheckOver ?_)
 simp+contextual(maxSteps:=1000000)(disch:=omega)only[↓Sd,↓So,↓Sk,↓den,↓denA,Sa,Sb,Sc,Se,O1.d,O2.d,O3.d,cmI,arI,envOf,putN,↓reduceIte,Nat.reduceLT,Nat.reduceSub,Nat.reduceAdd,Int.reduceAdd,Int.reduceEq,Int.reduceLT,Int.reduceLE,arr_pos,arr_neg,tr_impl_CheckOver,C_impl_goodIn_no s l hs hf h]
theorem C_impl_CheckOver_ok (s:Sy) (l:List Tm) (m k:Nat) (hs:FewSy s) (hf:Few l) (h:valid s∧kf l s.1.length=2) (hm:num s.1 (fst0 s.1)=m) (hmn:m<szn s.1) (hk:k≤szn s.1) (hno:∀i,i<k→pk s l i m=false∧¬okR s (pk s l i) m) (out:List AV)
  (ho:(∃b D ch,pk s l k m=true∧IsWay s (neg l) b D ch∧out=[⟨B,false⟩,⟨I,(k:Int)⟩,⟨L I,[]⟩,⟨L (L I),tab (wst s ch) (D+1)⟩,⟨L I,rules s (wst s ch) D⟩,⟨B,true⟩])∨(pk s l k m=false∧okR s (pk s l k) m∧out=[⟨B,true⟩,⟨I,(k:Int)⟩,⟨L I,shn s (pk s l k) m⟩,⟨L (L I),[]⟩,⟨L I,[]⟩,⟨B,true⟩])) (Q:List AV→Prop):mc.C f_impl_CheckOver [⟨L V3,s.1⟩,⟨L TR,s.2⟩,⟨L T4,l⟩] Q=Q out:=by
 have hv:=h.1
 have hz:=szn_eq hv
 have hfi:=fst0_in hv.2.2.1
 have htb:=steps_tb8 hv
 have ht:=steps_tbl hv
 have hbl:=@badL_len s l
 have hbin:=@badL_in s l
 have hpt:=pasts_tbl htb
 have hwi:∀i,i≤szn s.1→∀Q:List AV→Prop,mc.C f_impl_within [⟨L (L I),pasts (steps s) (szn s.1)⟩,⟨L I,badL s l⟩,⟨I,(i:Int)⟩] Q=Q [⟨L B,tab (pk s l i) (szn s.1)⟩]:=fun i hi Q=>by
  rw [C_impl_within (pasts (steps s) (szn s.1)) (badL s l) (szn s.1) i (by omega) (by omega) hpt (by omega) badL_in]
  have:tab (wI (Ed (pasts (steps s) (szn s.1))) (szn s.1) (fun k=>dB ((k:Int)∈badL s l)) i) (szn s.1)=tab (pk s l i) (szn s.1):=tab_congr fun k hk=>wI_congr (fun a k ha hk=>Ed_pasts ha hk) (fun _ _=>rfl) i hk
  rw [this]
 have hW:upTo (fun k=>!holdsN s l k) (szn s.1)=badL s l:=upTo_congr fun k hk=>(neg_holds hv h.2 hk).symm
 have hone:tab (fun k:Nat=>dB ((k:Int)∈[(m:Int)])) (szn s.1)=tab (rnd s (pk s l 0) m 0) (szn s.1):=tab_congr fun k _=>by
  show _=(k==m)
  by_cases e:k=m
  ·subst e;rw [dB_t (by simp)];simp
  ·rw [dB_f (by simp only [List.mem_singleton];omega)];simp [e]
 have e2:tab (dst (steps s) [(m:Int)]) (szn s.1)=tab (dS s) (szn s.1):=by rw [←hm];rfl
 have hdb:=fun k hk=>@dS_bd s hv k hk
 obtain ⟨n,hn⟩:∃n,szn s.1=n:=⟨_,rfl⟩
 refine Mc.Ends.c (mc.ends F_impl_CheckOver ?_)
 simp+contextual(maxSteps:=1000000)(disch:=omega)only[↓Sd,↓So,↓Sk,↓den,↓denA,Sa,Sb,Sc,Se,O1.d,O2.d,O3.d,cmI,arI,envOf,putN,↓reduceIte,Nat.reduceLT,Nat.reduceSub,Nat.reduceAdd,Int.reduceAdd,Int.reduceEq,Int.reduceLT,Int.reduceLE,arr_pos,arr_neg,tr_impl_CheckOver,C_impl_goodIn s l hs hf h]
 refine mc.lp_for (List Int) (fun i o=>[⟨I,(szn s.1:Int)⟩,⟨I,(i:Int)⟩,⟨L V3,s.1⟩,⟨L TR,s.2⟩,⟨B,false⟩,⟨I,0⟩,⟨L B,tab (holdsN s l) (szn s.1)⟩,⟨L I,o⟩]) (fun i o=>o=upTo (fun k=>!holdsN s l k) i) (szn s.1) 0 [] _ (by rw [tab_len];rfl) (Nat.zero_le _) rfl ?_ ?_
 ·rintro i o hi rfl
  have h1:=@upTo_len (fun k=>!holdsN s l k) i
  simp+contextual(maxSteps:=1000000)(disch:=omega)only[↓Sd,↓So,↓Sk,↓den,↓denA,Sa,Sb,Sc,Se,O1.d,O2.d,O3.d,cmI,arI,envOf,putN,↓reduceIte,Nat.reduceLT,Nat.reduceSub,Nat.reduceAdd,Int.reduceAdd,Int.reduceEq,Int.reduceLT,Int.reduceLE,arr_pos,arr_neg,↓wpJoin,tab_len,tab_get hi]
  refine ⟨fun g=>(upTo_s (p:=fun k=>!holdsN s l k) (by simpa using g)).symm,fun g=>(upTo_n (p:=fun k=>!holdsN s l k) (by simpa using g)).symm⟩
 rintro o rfl
 simp+contextual(maxSteps:=1000000)(disch:=omega)only[↓Sd,↓So,↓Sk,↓den,↓denA,Sa,Sb,Sc,Se,O1.d,O2.d,O3.d,cmI,arI,envOf,putN,↓reduceIte,Nat.reduceLT,Nat.reduceSub,Nat.reduceAdd,Int.reduceAdd,Int.reduceEq,Int.reduceLT,Int.reduceLE,arr_pos,arr_neg,hW,C_impl_nexts s hv,C_impl_pasts (steps s) (szn s.1) htb,C_impl_first s hv.1.2,C_impl_number s _ hv.1.2 hv.2.2.1 hfi,hm]
 rw [hn] at hwi hbl hbin hpt hz hmn hk e2 hdb htb hone ⊢
 refine mc.lp_inv (fun K us=>∃i,i≤k∧K=k - i∧us=[⟨I,(m:Int)⟩,⟨I,(i:Int)⟩,⟨L V3,s.1⟩,⟨L TR,s.2⟩,⟨B,false⟩,⟨I,0⟩,⟨L B,tab (holdsN s l) n⟩,⟨L I,badL s l⟩,⟨L (L I),steps s⟩,⟨L (L I),pasts (steps s) n⟩]) _ _ ⟨0,Nat.zero_le _,rfl,rfl⟩ ?_
 rintro K us ⟨i,hik,rfl,rfl⟩
 simp+contextual(maxSteps:=1000000)(disch:=omega)only[↓Sd,↓So,↓Sk,↓den,↓denA,Sa,Sb,Sc,Se,O1.d,O2.d,O3.d,cmI,arI,envOf,putN,↓reduceIte,Nat.reduceLT,Nat.reduceSub,Nat.reduceAdd,Int.reduceAdd,Int.reduceEq,Int.reduceLT,Int.reduceLE,arr_pos,arr_neg,hwi i (by omega),tab_len,tab_get hmn]
 refine ⟨fun hpm=>?_,fun hpm=>?_⟩
 ·have hik2:i=k:=by
   rcases Nat.lt_or_eq_of_le hik with h1 | h1
   ·rw [(hno i h1).1] at hpm;cases hpm
   ·exact h1
  subst hik2
  rcases ho with ⟨b,D,ch,h1,hw,rfl⟩ | ⟨h1,_⟩
  rotate_left
  ·rw [hpm] at h1;cases h1
  simp+contextual(maxSteps:=1000000)(disch:=omega)only[↓Sd,↓So,↓Sk,↓den,↓denA,Sa,Sb,Sc,Se,O1.d,O2.d,O3.d,cmI,arI,envOf,putN,↓reduceIte,Nat.reduceLT,Nat.reduceSub,Nat.reduceAdd,Int.reduceAdd,Int.reduceEq,Int.reduceLT,Int.reduceLE,arr_pos,arr_neg,↓wpJoin,C_impl_nexts s hv,C_impl_first s hv.1.2,C_impl_number s _ hv.1.2 hv.2.2.1 hfi,hm,C_impl_steps (steps s) m n (by omega) (by omega) htb.1,e2]
  have hN:bstL (dS s) ((badL s l).take (badL s l).length)=b:=by rw [List.take_length];exact hw.near
  obtain ⟨W,hWe⟩:∃W,badL s l=W:=⟨_,rfl⟩
  rw [hWe] at hN hbl hbin ⊢
  refine mc.lp_for Int (fun t b=>[⟨I,b⟩,⟨I,(W.length:Int)⟩,⟨I,(t:Int)⟩,⟨I,(i:Int)⟩,⟨L V3,s.1⟩,⟨L TR,s.2⟩,⟨L (L I),steps s⟩,⟨L I,tab (dS s) n⟩,⟨L I,W⟩,⟨B,false⟩,⟨I,0⟩]) (fun t b=>b=bstL (dS s) (W.take t)) W.length 0 (-1) _ rfl (Nat.zero_le _) rfl ?_ ?_
  ·rintro t bst hi rfl
   have hx:=hbin _ (getD_mem (d:=0) hi)
   obtain ⟨x,hxe⟩:∃x:Nat,W.getD t 0=x:=⟨(W.getD t 0).toNat,by omega⟩
   have hxn:x<n:=by omega
   have nx:=bstL_snoc (f:=dS s) (l:=W.take t) (x:=(x:Int))
   rw [←hxe,take_next (d:=0) hi,hxe,bst1,Int.toNat_natCast] at nx
   rw [nx]
   rcases bstL_bd (f:=dS s) hbin (i:=t) (by omega) with hb | ⟨k,hb,hk⟩
   ·rw [hb]
    simp+contextual(maxSteps:=1000000)(disch:=omega)only[↓Sd,↓So,↓Sk,↓den,↓denA,Sa,Sb,Sc,Se,O1.d,O2.d,O3.d,cmI,arI,envOf,putN,↓reduceIte,Nat.reduceLT,Nat.reduceSub,Nat.reduceAdd,Int.reduceAdd,Int.reduceEq,Int.reduceLT,Int.reduceLE,arr_pos,arr_neg,↓wpJoin,hxe,Int.toNat_natCast,tab_len,tab_get hxn]
    exact fun _=>by simp
   ·rw [hb,Int.toNat_natCast]
    simp+contextual(maxSteps:=1000000)(disch:=omega)only[↓Sd,↓So,↓Sk,↓den,↓denA,Sa,Sb,Sc,Se,O1.d,O2.d,O3.d,cmI,arI,envOf,putN,↓reduceIte,Nat.reduceLT,Nat.reduceSub,Nat.reduceAdd,Int.reduceAdd,Int.reduceEq,Int.reduceLT,Int.reduceLE,arr_pos,arr_neg,↓wpJoin,hxe,Int.toNat_natCast,tab_len,tab_get hxn,tab_get hk]
    exact fun _=>⟨fun _=>by simp,fun _=>by simp⟩
  rintro bst rfl
  have hb:=hw.lt
  simp+contextual(maxSteps:=1000000)(disch:=omega)only[↓Sd,↓So,↓Sk,↓den,↓denA,Sa,Sb,Sc,Se,O1.d,O2.d,O3.d,cmI,arI,envOf,putN,↓reduceIte,Nat.reduceLT,Nat.reduceSub,Nat.reduceAdd,Int.reduceAdd,Int.reduceEq,Int.reduceLT,Int.reduceLE,arr_pos,arr_neg,↓wpJoin,hN,C_impl_pasts (steps s) n htb]
  have hc:=hw.chain
  rw [hn] at hc hb
  have hfew:=hc.few
  have hpl:(pasts (steps s) n).length=n:=pasts_len
  obtain ⟨way,hway⟩:∃way:Nat→List Int,way=fun e=>tab (fun i=>((ch (e+i):Nat):Int)) (D+1 - e):=⟨_,rfl⟩
  have wlen:∀e,e≤D→(way e).length=D+1 - e:=fun e _=>by rw [hway];exact tab_len
  have whead:∀e,e≤D→(way e).getD 0 0=(ch e:Nat):=fun e he=>by rw [hway];exact tab_get (by omega)
  have wnext:∀e,e<D→[((ch e:Nat):Int)]++way (e+1)=way e:=fun e he=>by
   rw [hway]
   simp only [tab]
   rw [show D+1 - e=(D+1 - (e+1))+1 by omega,List.range_succ_eq_map,List.map_cons,List.map_map]
   simp only [Nat.add_zero,List.singleton_append,List.cons.injEq,true_and]
   refine List.map_congr_left fun i _=>?_
   simp only [Function.comp]
   rw [show e+1+i=e+i.succ by omega]
  refine mc.lp_down Unit (fun e _=>[⟨I,(i:Int)⟩,⟨L V3,s.1⟩,⟨L TR,s.2⟩,⟨L I,tab (dS s) n⟩,⟨L I,way e⟩,⟨L (L I),pasts (steps s) n⟩,⟨B,false⟩,⟨I,0⟩]) (fun e _=>e≤D) D () _ ?_ (Nat.le_refl _) ?_ ?_
  ·rw [hway]
   simp only [show D+1 - D=1 by omega]
   rw [←hc.1]
   rfl
  ·rintro e - he
   have h1:=hc.2.2 (e+1) he
   have h0:=hc.2.2 e (by omega)
   have h2:=hc.2.1 e (by omega)
   have hl:=wlen (e+1) he
   have hh:=whead (e+1) he
   have hp:=@pastL_len (steps s) (ch (e+1)) htb.2.2 n
   obtain ⟨row,hrow⟩:∃row,pastL (steps s) (ch (e+1)) n=row:=⟨_,rfl⟩
   have hpg:(pasts (steps s) n).getD (ch (e+1)) []=row:=by rw [pasts_get h1.1,hrow]
   have hrm:∀x∈row,0≤x∧x<(n:Int):=fun x hx=>by rw [←hrow] at hx;obtain ⟨a,b1,rfl,_⟩:=pastL_mem.1 hx;omega
   rw [hrow] at hp
   simp+contextual(maxSteps:=1000000)(disch:=omega)only[↓Sd,↓So,↓Sk,↓den,↓denA,Sa,Sb,Sc,Se,O1.d,O2.d,O3.d,cmI,arI,envOf,putN,↓reduceIte,Nat.reduceLT,Nat.reduceSub,Nat.reduceAdd,Int.reduceAdd,Int.reduceEq,Int.reduceLT,Int.reduceLE,arr_pos,arr_neg,hl,hh,Int.toNat_natCast,tab_len,tab_get h1.1,h1.2]
   refine mc.wp_join (fun us=>∃j:Nat,j<row.length∧row.getD j 0=(ch e:Nat)∧us=[⟨I,(j:Int)⟩,⟨I,(i:Int)⟩,⟨L V3,s.1⟩,⟨L TR,s.2⟩,⟨L I,tab (dS s) n⟩,⟨L I,way (e+1)⟩,⟨L (L I),pasts (steps s) n⟩,⟨I,((ch (e+1):Nat):Int)⟩,⟨B,false⟩,⟨I,0⟩]) ?_ ?_
   ·simp+contextual(maxSteps:=1000000)(disch:=omega)only[↓Sd,↓So,↓Sk,↓den,↓denA,Sa,Sb,Sc,Se,O1.d,O2.d,O3.d,cmI,arI,envOf,putN,↓reduceIte,Nat.reduceLT,Nat.reduceSub,Nat.reduceAdd,Int.reduceAdd,Int.reduceEq,Int.reduceLT,Int.reduceLE,arr_pos,arr_neg,hl,hh,Int.toNat_natCast,tab_len,hpl,hpg]
    refine mc.lp_for Unit (fun t _=>[⟨I,((ch (e+1):Nat):Int)⟩,⟨I,(row.length:Int)⟩,⟨I,(t:Int)⟩,⟨I,(i:Int)⟩,⟨L (L I),pasts (steps s) n⟩,⟨L I,tab (dS s) n⟩,⟨I,((ch (e+1):Nat):Int)⟩,⟨L V3,s.1⟩,⟨L TR,s.2⟩,⟨L I,way (e+1)⟩,⟨B,false⟩,⟨I,0⟩]) (fun t _=>∀j,j<t→¬dS s (row.getD j 0).toNat=(e:Int)) row.length 0 () _ rfl (Nat.zero_le _) (fun j hj=>absurd hj (Nat.not_lt_zero _)) ?_ ?_
    ·rintro t - hi hno
     have hx:=hrm _ (getD_mem (d:=0) hi)
     obtain ⟨x,hxe⟩:∃x:Nat,row.getD t 0=x:=⟨(row.getD t 0).toNat,by omega⟩
     have hxn:x<n:=by omega
     simp+contextual(maxSteps:=1000000)(disch:=omega)only[↓Sd,↓So,↓Sk,↓den,↓denA,Sa,Sb,Sc,Se,O1.d,O2.d,O3.d,cmI,arI,envOf,putN,↓reduceIte,Nat.reduceLT,Nat.reduceSub,Nat.reduceAdd,Int.reduceAdd,Int.reduceEq,Int.reduceLT,Int.reduceLE,arr_pos,arr_neg,Int.toNat_natCast,tab_len,hpg,hxe,tab_get hxn,tab_get h1.1,h1.2]
     refine ⟨fun g=>⟨t,hi,?_,rfl⟩,fun g j hj=>?_⟩
     ·have:=prd_first h2 (i:=t) (by rw [hrow];exact hi) (by rw [hrow,hxe,Int.toNat_natCast,g,h1.2];omega) (fun j hj=>by rw [hrow,h1.2];intro h;exact hno j hj (by omega))
      rwa [hrow] at this
     ·rcases Nat.lt_succ_iff_lt_or_eq.1 hj with hj | rfl
      ·exact hno j hj
      ·rw [hxe,Int.toNat_natCast];exact g
    ·rintro - hno
     exact (prd_some h2 (fun j hj=>by rw [hrow] at hj ⊢;rw [h1.2];intro h;exact hno j hj (by omega))).elim
   ·rintro us ⟨j,hj,hje,rfl⟩
    simp+contextual(maxSteps:=1000000)(disch:=omega)only[↓Sd,↓So,↓Sk,↓den,↓denA,Sa,Sb,Sc,Se,O1.d,O2.d,O3.d,cmI,arI,envOf,putN,↓reduceIte,Nat.reduceLT,Nat.reduceSub,Nat.reduceAdd,Int.reduceAdd,Int.reduceEq,Int.reduceLT,Int.reduceLE,arr_pos,arr_neg,Int.toNat_natCast,hpl,hpg,hje,hl]
    exact ⟨wnext e he,by omega⟩
  ·rintro - -
   have h1:=hc.2.2 0 (by omega)
   have hl:=wlen 0 (by omega)
   have hh:=whead 0 (by omega)
   simp+contextual(maxSteps:=1000000)(disch:=omega)only[↓Sd,↓So,↓Sk,↓den,↓denA,Sa,Sb,Sc,Se,O1.d,O2.d,O3.d,cmI,arI,envOf,putN,↓reduceIte,Nat.reduceLT,Nat.reduceSub,Nat.reduceAdd,Int.reduceAdd,Int.reduceEq,Int.reduceLT,Int.reduceLE,arr_pos,arr_neg,hl,hh,Int.toNat_natCast,tab_len,tab_get h1.1,h1.2]
   refine mc.lp_for (List (List Int)) (fun t o=>[⟨I,((D+1 - 0:Nat):Int)⟩,⟨I,(t:Int)⟩,⟨I,(i:Int)⟩,⟨L V3,s.1⟩,⟨L TR,s.2⟩,⟨L (L I),o⟩,⟨L I,way 0⟩,⟨B,false⟩,⟨I,0⟩]) (fun i o=>o=tab (wst s ch) i) (D+1 - 0) 0 [] _ rfl (Nat.zero_le _) rfl ?_ ?_
   ·rintro i o hi rfl
    have hg:(way 0).getD i 0=(ch i:Nat):=by rw [hway];simp only [];rw [tab_get (by omega),Nat.zero_add]
    have h3:=hc.2.2 i (by omega)
    have h4:(tab (wst s ch) i).length=i:=tab_len
    simp+contextual(maxSteps:=1000000)(disch:=omega)only[↓Sd,↓So,↓Sk,↓den,↓denA,Sa,Sb,Sc,Se,O1.d,O2.d,O3.d,cmI,arI,envOf,putN,↓reduceIte,Nat.reduceLT,Nat.reduceSub,Nat.reduceAdd,Int.reduceAdd,Int.reduceEq,Int.reduceLT,Int.reduceLE,arr_pos,arr_neg,hl,hg,C_impl_stateAt s _ hv.1.2 hv.2.2.1 (by omega:(0:Int)≤((ch i:Nat):Int)∧((ch i:Nat):Int)≤3200000)]
    exact tab_next
   ·rintro o rfl
    rw [Nat.sub_zero]
    have hrun:IsRun s D (wst s ch):=hw.chain.run hv
    have hem:(tab (wst s ch) (D+1)).isEmpty=false:=by rw [List.isEmpty_eq_false_iff];intro h;have:=congrArg List.length h;rw [tab_len] at this;simp at this
    simp+contextual(maxSteps:=1000000)(disch:=omega)only[↓Sd,↓So,↓Sk,↓den,↓denA,Sa,Sb,Sc,Se,O1.d,O2.d,O3.d,cmI,arI,envOf,putN,↓reduceIte,Nat.reduceLT,Nat.reduceSub,Nat.reduceAdd,Int.reduceAdd,Int.reduceEq,Int.reduceLT,Int.reduceLE,arr_pos,arr_neg,C_impl_TraceOf s D (wst s ch) hs hv hrun]
 ·have hpm:pk s l i m=false:=by simpa using hpm
  have hone2:tab (fun k:Nat=>dB ((k:Int)∈[(m:Int)])) n=tab (rnd s (pk s l i) m 0) n:=hone
  simp+contextual(maxSteps:=1000000)(disch:=omega)only[↓Sd,↓So,↓Sk,↓den,↓denA,Sa,Sb,Sc,Se,O1.d,O2.d,O3.d,cmI,arI,envOf,putN,↓reduceIte,Nat.reduceLT,Nat.reduceSub,Nat.reduceAdd,Int.reduceAdd,Int.reduceEq,Int.reduceLT,Int.reduceLE,arr_pos,arr_neg,tab_len,C_impl_marks [(m:Int)] n (by omega) (by simp) (by intro x hx;rw [List.mem_singleton] at hx;omega),hone2]
  obtain ⟨q,hq⟩:∃q,pk s l i=q:=⟨_,rfl⟩
  rw [hq] at hpm ⊢
  have hsame:okR s q m∨i<k:=by
   rcases Nat.lt_or_eq_of_le hik with h1 | h1
   ·exact .inr h1
   ·subst h1
    rcases ho with ⟨b,D,ch,h1,hw,rfl⟩ | ⟨h1,h2,_⟩
    ·rw [hq,hpm] at h1;cases h1
    ·rw [hq] at h2;exact .inl h2
  refine mc.lp_inv (fun K us=>∃j,K=n+1 - (upTo (rnd s q m j) n).length∧us=[⟨I,(m:Int)⟩,⟨I,(i:Int)⟩,⟨L V3,s.1⟩,⟨L TR,s.2⟩,⟨B,false⟩,⟨I,0⟩,⟨L B,tab (holdsN s l) n⟩,⟨L I,badL s l⟩,⟨L (L I),steps s⟩,⟨L (L I),pasts (steps s) n⟩,⟨L B,tab q n⟩,⟨L B,tab (rnd s q m j) n⟩]∧∀i,i<j→¬hit s q (rnd s q m i)) _ _ ⟨0,rfl,rfl,fun i hi=>absurd hi (Nat.not_lt_zero _)⟩ ?_
  rintro K us ⟨j,rfl,rfl,hnh⟩
  have hl1:=@upTo_len (rnd s q m j) n
  have hl2:=@upTo_len (rnd s q m (j+1)) n
  have hbh:upTo (ovr (steps s) (upTo (rnd s q m j) n)) n=bhd s (rnd s q m j):=by
   unfold bhd;rw [hn];exact upTo_congr fun k _=>ovr_upTo
  have hbhl:(bhd s (rnd s q m j)).length≤n:=by unfold bhd;rw [←hn];exact upTo_len
  have hbhi:∀x∈bhd s (rnd s q m j),0≤x∧x<(n:Int):=by rw [←hn];exact bhd_in
  have har:=C_impl_around s (bhd s (rnd s q m j)) q hv (by omega) bhd_in
  rw [hn] at har
  have hhit:hit s q (rnd s q m j)↔∃x∈bhd s (rnd s q m j),q x.toNat=true:=by
   constructor
   ·rintro ⟨k,h1,h2,h3⟩;exact ⟨(k:Int),bhd_mem.2 ⟨h1,h2⟩,by rw [Int.toNat_natCast];exact h3⟩
   ·rintro ⟨x,h1,h2⟩
    have hx:=hbhi x h1
    obtain ⟨x,rfl⟩:∃z:Nat,x=z:=⟨x.toNat,by omega⟩
    exact ⟨x,(bhd_mem.1 h1).1,(bhd_mem.1 h1).2,by rw [Int.toNat_natCast] at h2;exact h2⟩
  have hrj:∀k,rnd s q m (j+1) k=(rnd s q m j k||arnd s q (bhd s (rnd s q m j)) k):=fun _=>rfl
  simp+contextual(maxSteps:=1000000)(disch:=omega)only[↓Sd,↓So,↓Sk,↓den,↓denA,Sa,Sb,Sc,Se,O1.d,O2.d,O3.d,cmI,arI,envOf,putN,↓reduceIte,Nat.reduceLT,Nat.reduceSub,Nat.reduceAdd,Int.reduceAdd,Int.reduceEq,Int.reduceLT,Int.reduceLE,arr_pos,arr_neg,C_impl_listOf_tab (rnd s q m j) n (by omega),C_impl_over (steps s) (upTo (rnd s q m j) n) n (by omega) htb.1 (by omega) (lset_mem (upTo_lset (Nat.le_refl n))),hbh]
  obtain ⟨Bh,hBh⟩:∃Bh,bhd s (rnd s q m j)=Bh:=⟨_,rfl⟩
  rw [hBh] at hbhl hbhi har hhit hrj ⊢
  refine mc.wp_join (fun us=>us=[⟨I,(m:Int)⟩,⟨I,(i:Int)⟩,⟨L V3,s.1⟩,⟨L TR,s.2⟩,⟨B,false⟩,⟨I,0⟩,⟨L B,tab (holdsN s l) n⟩,⟨L I,badL s l⟩,⟨L (L I),steps s⟩,⟨L (L I),pasts (steps s) n⟩,⟨L B,tab q n⟩,⟨L B,tab (rnd s q m j) n⟩,⟨L I,Bh⟩]∧¬hit s q (rnd s q m j)) ?_ ?_
  ·simp+contextual(maxSteps:=1000000)(disch:=omega)only[↓Sd,↓So,↓Sk,↓den,↓denA,Sa,Sb,Sc,Se,O1.d,O2.d,O3.d,cmI,arI,envOf,putN,↓reduceIte,Nat.reduceLT,Nat.reduceSub,Nat.reduceAdd,Int.reduceAdd,Int.reduceEq,Int.reduceLT,Int.reduceLE,arr_pos,arr_neg,]
   refine lp_all (fun t=>[⟨I,(Bh.length:Int)⟩,⟨I,(t:Int)⟩,⟨I,(m:Int)⟩,⟨I,(i:Int)⟩,⟨L I,Bh⟩,⟨L B,tab q n⟩,⟨L V3,s.1⟩,⟨L TR,s.2⟩,⟨B,false⟩,⟨I,0⟩,⟨L B,tab (holdsN s l) n⟩,⟨L I,badL s l⟩,⟨L (L I),steps s⟩,⟨L (L I),pasts (steps s) n⟩,⟨L B,tab (rnd s q m j) n⟩]) (fun t=>q (Bh.getD t 0).toNat=false) Bh.length _ rfl ?_ ?_
   ·intro t ht2
    have hx:=hbhi _ (getD_mem (d:=0) ht2)
    obtain ⟨x,hxe⟩:∃x:Nat,Bh.getD t 0=x:=⟨(Bh.getD t 0).toNat,by omega⟩
    have hxn:x<n:=by omega
    simp+contextual(maxSteps:=1000000)(disch:=omega)only[↓Sd,↓So,↓Sk,↓den,↓denA,Sa,Sb,Sc,Se,O1.d,O2.d,O3.d,cmI,arI,envOf,putN,↓reduceIte,Nat.reduceLT,Nat.reduceSub,Nat.reduceAdd,Int.reduceAdd,Int.reduceEq,Int.reduceLT,Int.reduceLE,arr_pos,arr_neg,hxe,Int.toNat_natCast,tab_len,tab_get hxn]
    intro g
    have hh:hit s q (rnd s q m j):=hhit.2 ⟨_,getD_mem (d:=0) ht2,by rw [hxe,Int.toNat_natCast];exact g⟩
    have hlt:i<k:=hsame.resolve_left fun h=>h j hh
    exact ⟨k - (i+1),by omega,i+1,by omega,rfl,iD (by omega)⟩
   ·intro hall
    simp+contextual(maxSteps:=1000000)(disch:=omega)only[↓Sd,↓So,↓Sk,↓den,↓denA,Sa,Sb,Sc,Se,O1.d,O2.d,O3.d,cmI,arI,envOf,putN,↓reduceIte,Nat.reduceLT,Nat.reduceSub,Nat.reduceAdd,Int.reduceAdd,Int.reduceEq,Int.reduceLT,Int.reduceLE,arr_pos,arr_neg,]
    rw [hhit]
    rintro ⟨x,h1,h2⟩
    obtain ⟨t,ht2,he⟩:=List.getElem_of_mem h1
    have:=hall t ht2
    rw [getD_lt ht2,he,h2] at this
    cases this
  ·rintro us ⟨rfl,hnj⟩
   simp+contextual(maxSteps:=1000000)(disch:=omega)only[↓Sd,↓So,↓Sk,↓den,↓denA,Sa,Sb,Sc,Se,O1.d,O2.d,O3.d,cmI,arI,envOf,putN,↓reduceIte,Nat.reduceLT,Nat.reduceSub,Nat.reduceAdd,Int.reduceAdd,Int.reduceEq,Int.reduceLT,Int.reduceLE,arr_pos,arr_neg,C_impl_listOf_tab q n (by omega),har,tab_len]
   obtain ⟨A,hA⟩:∃A,arnd s q Bh=A:=⟨_,rfl⟩
   rw [hA] at hrj ⊢
   refine mc.lp_for (List Bool×Bool) (fun t o=>[⟨I,(m:Int)⟩,⟨I,(i:Int)⟩,⟨B,o.2⟩,⟨I,(n:Int)⟩,⟨I,(t:Int)⟩,⟨L V3,s.1⟩,⟨L TR,s.2⟩,⟨B,false⟩,⟨I,0⟩,⟨L B,tab (holdsN s l) n⟩,⟨L I,badL s l⟩,⟨L (L I),steps s⟩,⟨L (L I),pasts (steps s) n⟩,⟨L B,tab q n⟩,⟨L B,o.1⟩,⟨L B,tab A n⟩]) (fun t o=>o.1=tab (fun k=>if k<t then rnd s q m (j+1) k else rnd s q m j k) n∧o.2=dB (∃k,k<t∧A k=true∧rnd s q m j k=false)) n 0 (tab (rnd s q m j) n,false) _ rfl (Nat.zero_le _) ⟨tab_congr fun k _=>(if_neg (by omega)).symm,(dB_f (by rintro ⟨k,h1,_⟩;omega)).symm⟩ ?_ ?_
   ·rintro t ⟨o1,o2⟩ ht2 ⟨h1,h2⟩
    simp only at h1 h2
    subst h1
    have hog:(tab (fun k=>if k<t then rnd s q m (j+1) k else rnd s q m j k) n).getD t false=rnd s q m j t:=by rw [tab_get ht2,if_neg (by omega)]
    have hset:∀b:Bool,b=rnd s q m (j+1) t→(tab (fun k=>if k<t then rnd s q m (j+1) k else rnd s q m j k) n).set t b=tab (fun k=>if k<t+1 then rnd s q m (j+1) k else rnd s q m j k) n:=fun b hb=>by
     rw [tab_set']
     refine tab_congr fun k _=>?_
     by_cases e:k=t
     ·subst e;rw [if_pos rfl,if_pos (by omega)];exact hb
     ·rw [if_neg e]
      by_cases e2:k<t
      ·rw [if_pos e2,if_pos (by omega)]
      ·rw [if_neg e2,if_neg (by omega)]
    have hgr:dB (∃k,k<t+1∧A k=true∧rnd s q m j k=false)=(o2||(A t&&!rnd s q m j t)):=by
     rw [h2]
     by_cases g:A t=true∧rnd s q m j t=false
     ·rw [dB_t ⟨t,by omega,g.1,g.2⟩,g.1,g.2];simp
     ·have:(A t&&!rnd s q m j t)=false:=by
       cases ha:A t<;>cases hr:rnd s q m j t<;>simp_all
      rw [this,Bool.or_false]
      refine dB_congr ⟨fun ⟨k,a1,a2,a3⟩=>⟨k,?_,a2,a3⟩,fun ⟨k,a1,a2,a3⟩=>⟨k,by omega,a2,a3⟩⟩
      rcases Nat.lt_succ_iff_lt_or_eq.1 a1 with a1 | rfl
      ·exact a1
      ·exact absurd ⟨a2,a3⟩ g
    obtain ⟨T1,hT1⟩:∃T1,tab (fun k=>if k<t then rnd s q m (j+1) k else rnd s q m j k) n=T1:=⟨_,rfl⟩
    have hT1l:T1.length=n:=by rw [←hT1];exact tab_len
    rw [hT1] at hog hset ⊢
    simp+contextual(maxSteps:=1000000)(disch:=omega)only[↓Sd,↓So,↓Sk,↓den,↓denA,Sa,Sb,Sc,Se,O1.d,O2.d,O3.d,cmI,arI,envOf,putN,↓reduceIte,Nat.reduceLT,Nat.reduceSub,Nat.reduceAdd,Int.reduceAdd,Int.reduceEq,Int.reduceLT,Int.reduceLE,arr_pos,arr_neg,]
    refine mc.wp_join (fun us=>us=[⟨I,(m:Int)⟩,⟨I,(i:Int)⟩,⟨B,o2||(A t&&!rnd s q m j t)⟩,⟨I,(n:Int)⟩,⟨I,(t:Int)⟩,⟨L V3,s.1⟩,⟨L TR,s.2⟩,⟨B,false⟩,⟨I,0⟩,⟨L B,tab (holdsN s l) n⟩,⟨L I,badL s l⟩,⟨L (L I),steps s⟩,⟨L (L I),pasts (steps s) n⟩,⟨L B,tab q n⟩,⟨L B,T1.set t (rnd s q m (j+1) t)⟩,⟨L B,tab A n⟩]) ?_ ?_
    ·simp+contextual(maxSteps:=1000000)(disch:=omega)only[↓Sd,↓So,↓Sk,↓den,↓denA,Sa,Sb,Sc,Se,O1.d,O2.d,O3.d,cmI,arI,envOf,putN,↓reduceIte,Nat.reduceLT,Nat.reduceSub,Nat.reduceAdd,Int.reduceAdd,Int.reduceEq,Int.reduceLT,Int.reduceLE,arr_pos,arr_neg,tab_len]
     refine mc.wp_join (fun us=>us=[⟨I,(m:Int)⟩,⟨I,(i:Int)⟩,⟨B,o2||(A t&&!rnd s q m j t)⟩,⟨I,(t:Int)⟩,⟨B,A t⟩,⟨I,(n:Int)⟩,⟨I,(t:Int)⟩,⟨L V3,s.1⟩,⟨L TR,s.2⟩,⟨B,false⟩,⟨I,0⟩,⟨L B,tab (holdsN s l) n⟩,⟨L I,badL s l⟩,⟨L (L I),steps s⟩,⟨L (L I),pasts (steps s) n⟩,⟨L B,tab q n⟩,⟨L B,T1⟩,⟨L B,tab A n⟩]) ?_ ?_
     ·simp+contextual(maxSteps:=1000000)(disch:=omega)only[↓Sd,↓So,↓Sk,↓den,↓denA,Sa,Sb,Sc,Se,O1.d,O2.d,O3.d,cmI,arI,envOf,putN,↓reduceIte,Nat.reduceLT,Nat.reduceSub,Nat.reduceAdd,Int.reduceAdd,Int.reduceEq,Int.reduceLT,Int.reduceLE,arr_pos,arr_neg,tab_get ht2,hT1l,hog]
      cases o2<;>cases ha:A t<;>simp [ha]
     ·rintro us rfl
      simp+contextual(maxSteps:=1000000)(disch:=omega)only[↓Sd,↓So,↓Sk,↓den,↓denA,Sa,Sb,Sc,Se,O1.d,O2.d,O3.d,cmI,arI,envOf,putN,↓reduceIte,Nat.reduceLT,Nat.reduceSub,Nat.reduceAdd,Int.reduceAdd,Int.reduceEq,Int.reduceLT,Int.reduceLE,arr_pos,arr_neg,hT1l,hog]
      refine ⟨fun g=>?_,fun g=>?_⟩
      ·rw [hrj,g];rfl
      ·rw [hrj,Bool.eq_false_iff.2 g];rfl
    ·rintro us rfl
     simp+contextual(maxSteps:=1000000)(disch:=omega)only[↓Sd,↓So,↓Sk,↓den,↓denA,Sa,Sb,Sc,Se,O1.d,O2.d,O3.d,cmI,arI,envOf,putN,↓reduceIte,Nat.reduceLT,Nat.reduceSub,Nat.reduceAdd,Int.reduceAdd,Int.reduceEq,Int.reduceLT,Int.reduceLE,arr_pos,arr_neg,]
     exact ⟨(_,_),⟨rfl,rfl⟩,hset _ rfl,hgr.symm⟩
   ·rintro ⟨o1,o2⟩ ⟨h1,h2⟩
    simp only at h1 h2
    have h1:o1=tab (rnd s q m (j+1)) n:=by rw [h1];exact tab_congr fun k hk=>if_pos hk
    subst h1
    simp+contextual(maxSteps:=1000000)(disch:=omega)only[↓Sd,↓So,↓Sk,↓den,↓denA,Sa,Sb,Sc,Se,O1.d,O2.d,O3.d,cmI,arI,envOf,putN,↓reduceIte,Nat.reduceLT,Nat.reduceSub,Nat.reduceAdd,Int.reduceAdd,Int.reduceEq,Int.reduceLT,Int.reduceLE,arr_pos,arr_neg,]
    have hmo:=@upTo_mono (rnd s q m j) (rnd s q m (j+1)) n fun k _ hk=>rnd_up (by omega) hk
    refine ⟨fun g=>?_,fun g=>?_⟩
    ·have hst:∀k,k<szn s.1→rnd s q m (j+1) k=rnd s q m j k:=fun k hk=>by
      rw [hrj]
      cases ha:A k with
      | false=>rw [Bool.or_false]
      | true =>
       cases hr:rnd s q m j k with
       | true=>rfl
       | false =>
        rw [h2,dB_t ⟨k,by omega,ha,hr⟩] at g
        cases g
     have hok:=okR_stay hst fun i hi=>by
      rcases Nat.lt_or_eq_of_le hi with h3 | rfl
      ·exact hnh i h3
      ·exact hnj
     have hsh:=shn_stay hst
     have hse:upTo (rnd s q m (j+1)) n=upTo (rnd s q m j) n:=by rw [←hn];exact upTo_congr hst
     rw [hn] at hsh
     have hik2:i=k:=by
      rcases Nat.lt_or_eq_of_le hik with h3 | h3
      ·have:=(hno i h3).2;rw [hq] at this;exact absurd hok this
      ·exact h3
     subst hik2
     rcases ho with ⟨b,D,ch,h3,hw,rfl⟩ | ⟨h3,h4,rfl⟩
     ·rw [hq,hpm] at h3;cases h3
     ·rw [hq]
      simp+contextual(maxSteps:=1000000)(disch:=omega)only[↓Sd,↓So,↓Sk,↓den,↓denA,Sa,Sb,Sc,Se,O1.d,O2.d,O3.d,cmI,arI,envOf,putN,↓reduceIte,Nat.reduceLT,Nat.reduceSub,Nat.reduceAdd,Int.reduceAdd,Int.reduceEq,Int.reduceLT,Int.reduceLE,arr_pos,arr_neg,C_impl_listOf_tab (rnd s q m (j+1)) n (by omega),hse,hsh]
    ·have g2:dB (∃k,k<n∧A k=true∧rnd s q m j k=false)=true:=by rw [←h2];simpa using g
     obtain ⟨x,b1,b2,b3⟩:=dB_iff.1 g2
     refine ⟨_,?_,j+1,rfl,rfl,fun i hi=>?_⟩
     ·have:¬(upTo (rnd s q m (j+1)) n).length≤(upTo (rnd s q m j) n).length:=fun hle=>by
       have:=hmo.2 hle x b1 (by rw [hrj,b2,Bool.or_true])
       rw [b3] at this;cases this
      omega
     ·rcases Nat.lt_succ_iff_lt_or_eq.1 hi with hi | rfl
      ·exact hnh i hi
      ·exact hnj
theorem over_ex {s:Sy} {l:List Tm} {m:Nat} (hv:valid s) (hmn:m<szn s.1):∃k,k≤szn s.1∧(∀i,i<k→pk s l i m=false∧¬okR s (pk s l i) m)∧(pk s l k m=true∨(pk s l k m=false∧okR s (pk s l k) m)):=by
 have hend:pk s l (szn s.1) m=true∨okR s (pk s l (szn s.1)) m:=by
  cases g:pk s l (szn s.1) m with
  | true=>exact .inl rfl
  | false=>exact .inr (okR_closed hv g fun a k ha hk he hq=>wI_closed ha hk he hq)
 obtain ⟨k,h1,h2⟩:=least (P:=fun k=>pk s l k m=true∨okR s (pk s l k) m) ⟨_,hend⟩
 have hkn:k≤szn s.1:=Nat.le_of_not_lt fun h=>h2 _ h hend
 refine ⟨k,hkn,fun i hi=>⟨Bool.eq_false_iff.2 fun g=>h2 i hi (.inl g),fun g=>h2 i hi (.inr g)⟩,?_⟩
 cases g:pk s l k m with
 | true=>exact .inl rfl
 | false=>exact .inr ⟨rfl,h1.resolve_left fun h=>by rw [g] at h;cases h⟩
theorem over_way {s:Sy} {l:List Tm} {m k:Nat} (hv:valid s) (hm:num s.1 (fst0 s.1)=m) (hmn:m<szn s.1) (h:pk s l k m=true):∃b D ch,IsWay s (neg l) b D ch∧D≤k:=by
 have h0:Lay (steps s) [num s.1 (fst0 s.1)] 0 m:=by show (m:Int)∈[num s.1 (fst0 s.1)];rw [hm];simp
 obtain ⟨b0,h1,h2,h3⟩:=wI_way hmn h0 h
 rw [Nat.zero_add] at h3
 have h4:=dst_le.1 h3
 have h5:dst (steps s) [num s.1 (fst0 s.1)] b0=dS s b0:=rfl
 rw [h5] at h4
 rw [badL_mem h1] at h2
 rcases way_ex (s:=s) (l:=neg l) hv with hn | ⟨b,D,ch,hw⟩
 ·rcases @near_spec (holdsN s (neg l)) (dS s) (szn s.1) with ⟨c1,c2⟩ | ⟨b',c1,-⟩
  ·have:=c2 b0 h1 h2;omega
  ·unfold nearS at hn;omega
 ·refine ⟨b,D,ch,hw,?_⟩
  have hn:=hw.near
  have hc:=hw.chain.2.2 D (Nat.le_refl _)
  rw [hw.chain.1] at hc
  rcases @near_spec (holdsN s (neg l)) (dS s) (szn s.1) with ⟨c1,c2⟩ | ⟨b',c1,c2,c3,c4,c5⟩
  ·unfold nearS at hn;omega
  ·unfold nearS at hn
   have:b'=b:=by omega
   subst this
   have:=c5 b0 h1 h2 h4.1
   omega
theorem over_prv {s:Sy} {l:List Tm} {m k:Nat} (h:valid s∧kf l s.1.length=2) (hm:num s.1 (fst0 s.1)=m) (hmn:m<szn s.1) (hq:pk s l k m=false) (hok:okR s (pk s l k) m):prv s l (shn s (pk s l k) m):=by
 have hv:=h.1
 have hz:=szn_eq hv
 have hset:setV s (shn s (pk s l k) m):=⟨hv,by rw [←hz.1];exact upTo_lset (Nat.le_refl _)⟩
 refine ⟨h.2,⟨hset,?_,fun x hx=>?_⟩,fun x hx=>?_⟩
 ·rw [hm];exact shn_has hmn
 ·obtain ⟨k',h1,rfl,y,h2,h3⟩:=(nextN_mem hset).1 hx
  obtain ⟨a,h4,rfl,h5⟩:=upTo_mem.1 h2
  obtain ⟨j,hj⟩:=dB_iff.1 h5
  rw [Int.toNat_natCast] at h3
  refine upTo_mem.2 ⟨k',h1,rfl,dB_t ⟨j+1,?_⟩⟩
  have hb:(k':Int)∈bhd s (rnd s (pk s l k) m j):=bhd_mem.2 ⟨h1,a,h4,hj,h3⟩
  simp only [rnd]
  rw [arnd_has hb,Bool.or_true]
 ·obtain ⟨a,h4,rfl,h5⟩:=upTo_mem.1 hx
  obtain ⟨j,hj⟩:=dB_iff.1 h5
  have h6:=rnd_no hv hq (fun i _=>hok i) a h4 hj
  rw [Int.toNat_natCast]
  cases hh:holdsN s l a with
  | true=>rfl
  | false =>
   have h7:holdsN s (neg l) a=true:=by rw [neg_holds hv h.2 h4,hh];rfl
   have h8:=wI_base (E:=Eb (steps s)) (n:=szn s.1) (p:=fun k=>dB ((k:Int)∈badL s l)) (k:=a) (by rw [badL_mem h4];exact h7) k
   have h9:pk s l k a=true:=h8
   rw [h9] at h6;cases h6
theorem prv_alw {s:Sy} {l:List Tm} {X:List Int} (hv:valid s) (h:prv s l X):alw s l:=by
 obtain ⟨h1,⟨hset,h2,h3⟩,h4⟩:=h
 obtain ⟨m,hm,hmn⟩:=first_n hv
 rw [hm] at h2
 have hX:∀k,Rch (steps s) [num s.1 (fst0 s.1)] k→k<szn s.1∧(k:Int)∈X:=by
  intro k hk
  induction hk with
  | base hb =>
   rw [hm,List.mem_singleton] at hb
   rename_i k
   have:k=m:=by omega
   subst this
   exact ⟨hmn,h2⟩
  | step ha hk ih =>
   rename_i a k
   have hkn:=(steps_tbl hv).row _ hk
   exact ⟨by omega,h3 _ ((nextN_mem hset).2 ⟨k,by omega,rfl,(a:Int),ih.2,by rw [Int.toNat_natCast];exact hk⟩)⟩
 exact ⟨hv,h1,fun k hk hr=>by have:=h4 _ (hX k (dB_iff.1 hr)).2;rwa [Int.toNat_natCast] at this⟩
theorem law_FnCheckOver (b:List Int) (hb:Byt b) (hl:Lt63 b):mc.C f_laws_FnCheckOver [⟨L U,b⟩] (·=[⟨B,true⟩]):=by
 have hdr:∀{Q:List AV→Prop},(∀(s:Sy) (l:List Tm),SmSy s→l.length≤16→Q [⟨L V3,s.1⟩,⟨L TR,s.2⟩,⟨L T4,l⟩])→mc.C f_spec_DrawCheckOver [⟨L U,b⟩] Q:=by
  intro Q h
  refine mc.c_of F_spec_DrawCheckOver ?_
  simp+contextual(maxSteps:=1000000)(disch:=omega)only[↓Sd,↓So,↓Sk,↓den,↓denA,Sa,Sb,Sc,Se,O1.d,O2.d,O3.d,cmI,arI,envOf,putN,↓reduceIte,Nat.reduceLT,Nat.reduceSub,Nat.reduceAdd,Int.reduceAdd,Int.reduceEq,Int.reduceLT,Int.reduceLE,arr_pos,arr_neg,tr_spec_DrawCheckOver]
  refine mc.c_of F_spec_DrawCloseIn ?_
  simp+contextual(maxSteps:=1000000)(disch:=omega)only[↓Sd,↓So,↓Sk,↓den,↓denA,Sa,Sb,Sc,Se,O1.d,O2.d,O3.d,cmI,arI,envOf,putN,↓reduceIte,Nat.reduceLT,Nat.reduceSub,Nat.reduceAdd,Int.reduceAdd,Int.reduceEq,Int.reduceLT,Int.reduceLE,arr_pos,arr_neg,tr_spec_DrawCloseIn]
  refine D_l15Ask b hb hl fun s l k hs h2 hk=>?_
  simp+contextual(maxSteps:=1000000)(disch:=omega)only[↓Sd,↓So,↓Sk,↓den,↓denA,Sa,Sb,Sc,Se,O1.d,O2.d,O3.d,cmI,arI,envOf,putN,↓reduceIte,Nat.reduceLT,Nat.reduceSub,Nat.reduceAdd,Int.reduceAdd,Int.reduceEq,Int.reduceLT,Int.reduceLE,arr_pos,arr_neg,]
  exact h s l hs h2
 refine mc.c_of F_laws_FnCheckOver ?_
 simp+contextual(maxSteps:=1000000)(disch:=omega)only[↓Sd,↓So,↓Sk,↓den,↓denA,Sa,Sb,Sc,Se,O1.d,O2.d,O3.d,cmI,arI,envOf,putN,↓reduceIte,Nat.reduceLT,Nat.reduceSub,Nat.reduceAdd,Int.reduceAdd,Int.reduceEq,Int.reduceLT,Int.reduceLE,arr_pos,arr_neg,tr_laws_FnCheckOver]
 intro _
 refine hdr fun s l hss hl2=>?_
 have hs:=hss.few
 have hf:Few l:=by unfold Few;omega
 obtain ⟨A,hA⟩:∃A,dB (valid s∧kf l s.1.length=2∧allIf (rchB s) (holdsN s l) (szn s.1))=A:=⟨_,rfl⟩
 by_cases h:valid s∧kf l s.1.length=2
 ·have hv:=h.1
  obtain ⟨m,hm,hmn⟩:=first_n hv
  obtain ⟨k,hk,hno,hk2⟩:=over_ex (l:=l) hv hmn
  have hz:=szn_eq hv
  rcases hk2 with h1 | ⟨h1,h2⟩
  ·obtain ⟨b,D,ch,hw,hD⟩:=over_way hv hm hmn h1
   have himpl:=C_impl_CheckOver_ok s l m k hs hf h hm hmn hk hno _ (.inl ⟨b,D,ch,h1,hw,rfl⟩)
   have hspec:=C_spec_CheckOver_ok s l m k hs hf h hm hmn hk hno _ (.inl ⟨b,D,ch,h1,hw,rfl⟩)
   have hc:=hw.chain
   have hr:=hc.run hv
   have hkn:=hw.lt
   have hh:holdsN s l b=false:=by
    have:=hw.holds
    rw [neg_holds hv h.2 hkn] at this
    simpa using this
   have hAf:¬alw s l:=fun h=>by
    have h1:=hc.2.2 D (Nat.le_refl _)
    rw [hc.1] at h1
    have:=h.2.2 b hkn (dS_rch.1 (by omega))
    rw [hh] at this
    cases this
   have hA':A=false:=by rw [←hA];exact dB_f hAf
   subst hA'
   have hst:=stN_in hv hkn
   have h5:=hv.1.2
   have hsl:=hst.1
   have hX:(tab (wst s ch) (D+1)).length=D+1:=tab_len
   have hR:(rules s (wst s ch) D).length=D:=tab_len
   have hlast:(tab (wst s ch) (D+1)).getD D []=stN s b:=by rw [tab_get (by omega),wst,hc.1]
   have hd:=hr.few
   have hkl:kf l (stN s b).length≠0:=by rw [hst.1];omega
   have hev:evl l (stN s b)=0:=by
    rcases evl_bit (l:=l) h.2 (hst.bds hv.2.2.1) (by rw [hst.1]) with h | h
    ·exact h
    ·unfold holdsN at hh;rw [h] at hh;cases hh
   simp+contextual(maxSteps:=1000000)(disch:=omega)only[↓Sd,↓So,↓Sk,↓den,↓denA,Sa,Sb,Sc,Se,O1.d,O2.d,O3.d,cmI,arI,envOf,putN,↓reduceIte,Nat.reduceLT,Nat.reduceSub,Nat.reduceAdd,Int.reduceAdd,Int.reduceEq,Int.reduceLT,Int.reduceLE,arr_pos,arr_neg,himpl,hspec,C_laws_wcInts [] [] (by simp) (by simp),C_impl_SystemValid s hs,C_spec_SystemValid s hs,C_impl_Always s l hs hf,hA,hX,hR,hlast,C_impl_Eval l (stN s b) hf (by omega) (hst.bds hv.2.2.1) hkl,hev,C_impl_TraceValid s D (wst s ch) hs hv hr]
   omega
  ·have himpl:=C_impl_CheckOver_ok s l m k hs hf h hm hmn hk hno _ (.inr ⟨h1,h2,rfl⟩)
   have hspec:=C_spec_CheckOver_ok s l m k hs hf h hm hmn hk hno _ (.inr ⟨h1,h2,rfl⟩)
   have hP:=over_prv h hm hmn h1 h2
   have hAt:=prv_alw hv hP
   have hA':A=true:=by rw [←hA];exact dB_t hAt
   subst hA'
   have hsl:=@shn_len s (pk s l k) m
   simp+contextual(maxSteps:=1000000)(disch:=omega)only[↓Sd,↓So,↓Sk,↓den,↓denA,Sa,Sb,Sc,Se,O1.d,O2.d,O3.d,cmI,arI,envOf,putN,↓reduceIte,Nat.reduceLT,Nat.reduceSub,Nat.reduceAdd,Int.reduceAdd,Int.reduceEq,Int.reduceLT,Int.reduceLE,arr_pos,arr_neg,himpl,hspec,C_laws_wcInts (shn s (pk s l k) m) (shn s (pk s l k) m) (by omega) (by omega),C_impl_SystemValid s hs,C_spec_SystemValid s hs,C_impl_Always s l hs hf,hA,C_impl_Proves s l (shn s (pk s l k) m) hs hf (by omega),dB_t hP]
   done
 ·simp+contextual(maxSteps:=1000000)(disch:=omega)only[↓Sd,↓So,↓Sk,↓den,↓denA,Sa,Sb,Sc,Se,O1.d,O2.d,O3.d,cmI,arI,envOf,putN,↓reduceIte,Nat.reduceLT,Nat.reduceSub,Nat.reduceAdd,Int.reduceAdd,Int.reduceEq,Int.reduceLT,Int.reduceLE,arr_pos,arr_neg,C_impl_CheckOver_no s l hs hf h,C_spec_CheckOver_no s l hs hf h,C_laws_wcInts [] [] (by simp) (by simp),C_impl_SystemValid s hs,C_spec_SystemValid s hs]
  done
end Go.Proofs.YtdcdnfcmllfmlaaGreat
