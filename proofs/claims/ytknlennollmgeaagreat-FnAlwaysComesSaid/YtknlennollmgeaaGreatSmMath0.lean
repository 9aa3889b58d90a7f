/- What the trees come to: plain mathematics; no condition. -/
import Derived.Test.YtknlennollmgeaaGreatSmTrees0
namespace Go.Proofs.YtknlennollmgeaaGreat
open Go Go.Sm Go.Sm.Q
set_option linter.unusedSimpArgs false
set_option linter.unusedVariables false
abbrev Tm:=Int×Int×Int×Int
abbrev Vr:=Int×Int×Int
abbrev Ru:=List Tm×List Int×List (List Tm)
abbrev Sy:=List Vr×List Ru
def Few {α:Type} (l:List α):Prop:=l.length≤1048576
theorem getD_lt {α:Type} {l:List α} {i:Nat} {d:α} (h:i<l.length):l.getD i d=l[i]:=by simp [h]
theorem ZH {α:Type} {l:List α} {i:Nat} {d:α} (h:i<l.length):l.getD i d∈l:=by rw [getD_lt h];exact List.getElem_mem h
theorem ZgT {M:Mc} {b:Tr} {Q:Out→Prop} (mk:Nat→List AV) (p:Nat→Prop) (N:Nat) (us:List AV) (hus:us=mk 0)
  (hb:∀i,i<N→M.wp b (Z1 (mk i)) (onJ (fun us=>us=mk (i+1)∧p i) Q))
  (he:(∀i,i<N→p i)→M.wp b (Z1 (mk N)) (onJ (fun _=>False) Q)):M.LP b us Q:=by
 refine M.lp_for Unit (fun i _=>mk i) (fun i _=>∀j,j<i→p j) N 0 () us hus (Nat.zero_le _) (fun j hj=>absurd hj (Nat.not_lt_zero _)) ?_ ?_
 ·rintro i - hi hp
  refine M.wp_mono _ _ _ _ (ZaW (fun us hu=>⟨(),hu.1,fun j hj=>?_⟩) fun o h=>h) (hb i hi)
  rcases Nat.lt_succ_iff_lt_or_eq.1 hj with h | rfl
  ·exact hp j h
  ·exact hu.2
 ·rintro - hp
  exact he hp
def ZgU {α:Type} (l:List α):Prop:=l.length≤9223372036854775807
def ZgV (r:Ru):Prop:=Few r.1∧Few r.2.1∧Few r.2.2∧∀x∈r.2.2,Few x
def ZI (s:Sy):Prop:=Few s.1∧Few s.2∧∀x∈s.2,ZgV x
theorem ZgW {α:Type} {l:List α} (h:Few l):(l.length:Int)≤1048576:=by unfold Few at h;omega
theorem ZgX (n a b:Int) (Q:List AV→Prop):mc.C Zb5 [⟨I,n⟩,⟨I,a⟩,⟨I,b⟩] Q=Q [⟨B,decide (a≤n∧n≤b)⟩]:=by
 refine Mc.Ends.c (mc.ends ZeY ?_)
 simp+contextual(maxSteps:=1000000)(disch:=omega)only[↓Sd,↓So,↓Sk,↓den,↓Z0,Sa,Sb,Sc,Se,O1.d,O2.d,O3.d,cmI,arI,Z1,Z2,↓reduceIte,Nat.reduceLT,Nat.reduceSub,Nat.reduceAdd,Int.reduceAdd,Int.reduceEq,Int.reduceLT,Int.reduceLE,ZD,ZE,Zd2]<;>grind
theorem ZgY (n a b:Int) (Q:List AV→Prop):mc.C ZbK [⟨I,n⟩,⟨I,a⟩,⟨I,b⟩] Q=Q [⟨B,decide (a≤n∧n≤b)⟩]:=by
 refine Mc.Ends.c (mc.ends ZfC ?_)
 simp+contextual(maxSteps:=1000000)(disch:=omega)only[↓Sd,↓So,↓Sk,↓den,↓Z0,Sa,Sb,Sc,Se,O1.d,O2.d,O3.d,cmI,arI,Z1,Z2,↓reduceIte,Nat.reduceLT,Nat.reduceSub,Nat.reduceAdd,Int.reduceAdd,Int.reduceEq,Int.reduceLT,Int.reduceLE,ZD,ZE,ZdH]<;>grind
theorem ZgZ (n:Int) (Q:List AV→Prop):mc.C Zb7 [⟨I,n⟩] Q=Q [⟨B,decide (n=7)⟩]:=by
 refine Mc.Ends.c (mc.ends Ze_ ?_)
 simp+contextual(maxSteps:=1000000)(disch:=omega)only[↓Sd,↓So,↓Sk,↓den,↓Z0,Sa,Sb,Sc,Se,O1.d,O2.d,O3.d,cmI,arI,Z1,Z2,↓reduceIte,Nat.reduceLT,Nat.reduceSub,Nat.reduceAdd,Int.reduceAdd,Int.reduceEq,Int.reduceLT,Int.reduceLE,ZD,ZE,Zd4]
 grind
theorem Zg_ (n:Int) (Q:List AV→Prop):mc.C ZbN [⟨I,n⟩] Q=Q [⟨I,if 2≤n∧n≤9 then (if n=7 then 1 else 2) else 0⟩,⟨I,if 2≤n∧n≤9 then (if 7≤n then 2 else 1) else 0⟩,⟨I,if 5≤n∧n≤9 then 2 else 1⟩]:=by
 refine Mc.Ends.c (mc.ends ZfF ?_)
 simp+contextual(maxSteps:=1000000)(disch:=omega)only[↓Sd,↓So,↓Sk,↓den,↓Z0,Sa,Sb,Sc,Se,O1.d,O2.d,O3.d,cmI,arI,Z1,Z2,↓reduceIte,Nat.reduceLT,Nat.reduceSub,Nat.reduceAdd,Int.reduceAdd,Int.reduceEq,Int.reduceLT,Int.reduceLE,ZD,ZE,ZdK]
 intro h1 h2 h3 h4 h5 h6 h7 h8
 rw [if_neg (by omega),if_neg (by omega),if_neg (by omega)];exact ⟨rfl,rfl,rfl⟩
def kd (t:Tm) (ks:List Int) (vars:Int):Int :=
 if t.1=0 then (if -9999≤t.2.1∧t.2.1≤9999∧t.2.2.1=0∧t.2.2.2=0 then 1 else 0)
 else if t.1=1 then (if 0≤t.2.1∧t.2.1≤vars - 1∧t.2.2.1=0∧t.2.2.2=0 then 1 else 0)
 else if 2≤t.1∧t.1≤9∧t.2.1=0∧(0≤t.2.2.1∧t.2.2.1<ks.length)∧(0≤t.2.2.2∧t.2.2.2<ks.length) ∧
   ks.getD t.2.2.1.toNat 0=(if 7≤t.1 then 2 else 1)∧ks.getD t.2.2.2.toNat 0=(if 7≤t.1 then 2 else 1)∧(t.1=7→t.2.2.2=t.2.2.1) then (if 5≤t.1 then 2 else 1)
 else 0
theorem Zh0 {t:Tm} {ks:List Int} {vars:Int} (h:kd t ks vars≠0):kd t ks vars=if 5≤t.1∧t.1≤9 then 2 else 1:=by
 unfold kd at h ⊢
 grind
def kds (vars:Int):List Tm→List Int→Option (List Int)
 | [],ks=>some ks
 | t::l,ks=>if kd t ks vars=0 then none else kds vars l (ks++[kd t ks vars])
def Zh1 (l:List Tm) (vars:Int):List Int:=if (0≤vars∧vars≤5)∧1≤l.length∧l.length≤40 then (kds vars l []).getD [] else []
def kf (l:List Tm) (vars:Int):Int:=(Zh1 l vars).getLastD 0
theorem Zh2 {vars:Int}:∀{l:List Tm} {ks o:List Int},kds vars l ks=some o→o.length=ks.length+l.length
 | [],ks,o,h=>by cases h;simp
 | t::l,ks,o,h=>by
  simp only [kds] at h
  split at h
  ·cases h
  ·have:=Zh2 h
   simp only [List.length_append,List.length_cons,List.length_nil] at this ⊢
   omega
theorem Zh3 {α:Type} {l:List α} {i:Nat} {d:α} (h:i<l.length):l.drop i=l.getD i d::l.drop (i+1):=by
 rw [getD_lt h];exact List.drop_eq_getElem_cons h
def Nt (p:Prop):Prop:=¬p
theorem Zh4 {o n a b vars w:Int} {ks:List Int} (hw:(if 7≤o then (2:Int) else 1)=w) (h3:2≤o∧o≤9) (h4:n=0) (h5:0≤a∧a<ks.length) (h6:0≤b∧b<ks.length) :
  kd (o,n,a,b) ks vars=if ks.getD a.toNat 0=w∧ks.getD b.toNat 0=w∧(o=7→b=a) then (if 5≤o then 2 else 1) else 0:=by
 simp only [kd,hw]
 rw [if_neg (by omega),if_neg (by omega)]
 simp only [h3,h4,h5,h6,true_and]
theorem Zh5 (t:Tm) (ks:List Int) (vars:Int) (hv:0≤vars∧vars≤5) (hk:ks.length≤40) (Q:List AV→Prop) :
  mc.C Zb8 [⟨I,t.1⟩,⟨I,t.2.1⟩,⟨I,t.2.2.1⟩,⟨I,t.2.2.2⟩,⟨L I,ks⟩,⟨I,vars⟩] Q=Q [⟨I,kd t ks vars⟩]:=by
 refine Mc.Ends.c (mc.ends Zf0 ?_)
 obtain ⟨o,n,a,b⟩:=t
 generalize hK:kd (o,n,a,b) ks vars=K
 simp+contextual(maxSteps:=1000000)(disch:=omega)only[↓Sd,↓So,↓Sk,↓den,↓Z0,Sa,Sb,Sc,Se,O1.d,O2.d,O3.d,cmI,arI,Z1,Z2,↓reduceIte,Nat.reduceLT,Nat.reduceSub,Nat.reduceAdd,Int.reduceAdd,Int.reduceEq,Int.reduceLT,Int.reduceLE,ZD,ZE,Zd5,ZgX,ZgZ]
 refine mc.wp_join (fun us=>us=[⟨L I,ks⟩,⟨I,vars⟩,⟨I,o⟩,⟨I,n⟩,⟨I,a⟩,⟨I,b⟩]∧Nt (o=0 ∧ -9999≤n∧n≤9999∧a=0∧b=0)) ?_ ?_
 ·simp+contextual(maxSteps:=1000000)(disch:=omega)only[↓Sd,↓So,↓Sk,↓den,↓Z0,Sa,Sb,Sc,Se,O1.d,O2.d,O3.d,cmI,arI,Z1,Z2,↓reduceIte,Nat.reduceLT,Nat.reduceSub,Nat.reduceAdd,Int.reduceAdd,Int.reduceEq,Int.reduceLT,Int.reduceLE,ZD,ZE,ZgX,ZgZ]
  simp only [kd,Nt] at hK ⊢
  grind
 rintro _ ⟨rfl,h1⟩
 refine mc.wp_join (fun us=>us=[⟨L I,ks⟩,⟨I,o⟩,⟨I,n⟩,⟨I,a⟩,⟨I,b⟩]∧Nt (o=1∧0≤n∧n≤vars - 1∧a=0∧b=0)) ?_ ?_
 ·simp+contextual(maxSteps:=1000000)(disch:=omega)only[↓Sd,↓So,↓Sk,↓den,↓Z0,Sa,Sb,Sc,Se,O1.d,O2.d,O3.d,cmI,arI,Z1,Z2,↓reduceIte,Nat.reduceLT,Nat.reduceSub,Nat.reduceAdd,Int.reduceAdd,Int.reduceEq,Int.reduceLT,Int.reduceLE,ZD,ZE,ZgX,ZgZ]
  simp only [kd,Nt] at hK ⊢
  grind
 rintro _ ⟨rfl,h2⟩
 simp+contextual(maxSteps:=1000000)(disch:=omega)only[↓Sd,↓So,↓Sk,↓den,↓Z0,Sa,Sb,Sc,Se,O1.d,O2.d,O3.d,cmI,arI,Z1,Z2,↓reduceIte,Nat.reduceLT,Nat.reduceSub,Nat.reduceAdd,Int.reduceAdd,Int.reduceEq,Int.reduceLT,Int.reduceLE,ZD,ZE,ZgX,ZgZ]
 refine ⟨fun h3=>?_,fun h3=>⟨fun h4=>?_,fun h4=>⟨fun h5=>?_,fun h5=>⟨fun h6=>?_,fun h6=>?_⟩⟩⟩⟩
 ·unfold Nt at h1 h2;simp only [kd] at hK;grind
 ·unfold Nt at h1 h2;simp only [kd] at hK;grind
 ·unfold Nt at h1 h2;simp only [kd] at hK;grind
 ·unfold Nt at h1 h2;simp only [kd] at hK;grind
 clear h1 h2
 generalize hw:(if 7≤o then (2:Int) else 1)=w
 rw [Zh4 hw (by omega) (by omega) (by omega) (by omega)] at hK
 refine mc.wp_join (fun us=>us=[⟨L I,ks⟩,⟨I,w⟩,⟨I,o⟩,⟨I,n⟩,⟨I,a⟩,⟨I,b⟩]) ?_ ?_
 ·simp+contextual(maxSteps:=1000000)(disch:=omega)only[↓Sd,↓So,↓Sk,↓den,↓Z0,Sa,Sb,Sc,Se,O1.d,O2.d,O3.d,cmI,arI,Z1,Z2,↓reduceIte,Nat.reduceLT,Nat.reduceSub,Nat.reduceAdd,Int.reduceAdd,Int.reduceEq,Int.reduceLT,Int.reduceLE,ZD,ZE,]
  exact ⟨fun h=>⟨by rw [←hw,if_pos h],h4.symm⟩,fun h=>⟨by rw [←hw,if_neg h],h4.symm⟩⟩
 rintro _ rfl
 refine mc.wp_join (fun us=>us=[⟨I,o⟩,⟨I,n⟩,⟨I,a⟩,⟨I,b⟩]∧ks.getD a.toNat 0=w∧ks.getD b.toNat 0=w∧(o=7→b=a)) ?_ ?_
 ·simp+contextual(maxSteps:=1000000)(disch:=omega)only[↓Sd,↓So,↓Sk,↓den,↓Z0,Sa,Sb,Sc,Se,O1.d,O2.d,O3.d,cmI,arI,Z1,Z2,↓reduceIte,Nat.reduceLT,Nat.reduceSub,Nat.reduceAdd,Int.reduceAdd,Int.reduceEq,Int.reduceLT,Int.reduceLE,ZD,ZE,ZgZ]
  grind
 ·rintro _ ⟨rfl,h7,h8,h9⟩
  simp+contextual(maxSteps:=1000000)(disch:=omega)only[↓Sd,↓So,↓Sk,↓den,↓Z0,Sa,Sb,Sc,Se,O1.d,O2.d,O3.d,cmI,arI,Z1,Z2,↓reduceIte,Nat.reduceLT,Nat.reduceSub,Nat.reduceAdd,Int.reduceAdd,Int.reduceEq,Int.reduceLT,Int.reduceLE,ZD,ZE,]
  rw [if_pos ⟨h7,h8,h9⟩] at hK
  grind
theorem Zh6 (l:List Tm) (vars:Int) (hl:Few l) (Q:List AV→Prop):mc.C Zb9 [⟨L T4,l⟩,⟨I,vars⟩] Q=Q [⟨L I,Zh1 l vars⟩]:=by
 have:=ZgW hl
 refine Mc.Ends.c (mc.ends Zf1 ?_)
 simp+contextual(maxSteps:=1000000)(disch:=omega)only[↓Sd,↓So,↓Sk,↓den,↓Z0,Sa,Sb,Sc,Se,O1.d,O2.d,O3.d,cmI,arI,Z1,Z2,↓reduceIte,Nat.reduceLT,Nat.reduceSub,Nat.reduceAdd,Int.reduceAdd,Int.reduceEq,Int.reduceLT,Int.reduceLE,ZD,ZE,Zd6,ZgX]
 unfold Zh1
 refine ⟨fun h=>by rw [if_neg (by omega)],fun h1=>⟨fun h=>by rw [if_neg (by omega)],fun h2=>?_⟩⟩
 rw [if_pos (by omega)]
 refine mc.lp_for (List Int) (fun i s=>[⟨L T4,l⟩,⟨I,vars⟩,⟨I,(i:Int)⟩,⟨L I,s⟩]) (fun i s=>s.length=i∧kds vars (l.drop i) s=kds vars l []) l.length 0 [] _ rfl (Nat.zero_le _) ⟨rfl,rfl⟩ ?_ ?_
 ·rintro i s hi ⟨hs,hk⟩
  simp+contextual(maxSteps:=1000000)(disch:=omega)only[↓Sd,↓So,↓Sk,↓den,↓Z0,Sa,Sb,Sc,Se,O1.d,O2.d,O3.d,cmI,arI,Z1,Z2,↓reduceIte,Nat.reduceLT,Nat.reduceSub,Nat.reduceAdd,Int.reduceAdd,Int.reduceEq,Int.reduceLT,Int.reduceLE,ZD,ZE,Zh5 (l.getD i (0,0,0,0)) s vars (by omega) (by omega)]
  rw [Zh3 (d:=(0,0,0,0)) hi] at hk
  simp only [kds] at hk
  refine ⟨fun h=>by rw [←hk,if_pos h];rfl,fun h=>⟨by simp [hs],?_⟩⟩
  rw [←hk,if_neg h]
 ·rintro s ⟨hs,hk⟩
  simp+contextual(maxSteps:=1000000)(disch:=omega)only[↓Sd,↓So,↓Sk,↓den,↓Z0,Sa,Sb,Sc,Se,O1.d,O2.d,O3.d,cmI,arI,Z1,Z2,↓reduceIte,Nat.reduceLT,Nat.reduceSub,Nat.reduceAdd,Int.reduceAdd,Int.reduceEq,Int.reduceLT,Int.reduceLE,ZD,ZE,]
  rw [←hk,List.drop_length]
  rfl
theorem Zh7 (l:List Tm) (vars:Int):(Zh1 l vars).length≤40:=by
 unfold Zh1
 split
 ·cases h:kds vars l [] with
  | none=>simp
  | some o=>have:=Zh2 h;simp at this ⊢;omega
 ·simp
theorem Zh8 {l:List Tm} {vars:Int} (h:0<(Zh1 l vars).length):(Zh1 l vars).getD ((Zh1 l vars).length - 1) 0=kf l vars:=by
 rw [kf,List.getLastD_eq_getLast?,List.getLast?_eq_getElem?]
 rfl
theorem Zh9 {l:List Tm} {vars:Int} (h:¬0<(Zh1 l vars).length):kf l vars=0:=by
 have:Zh1 l vars=[]:=List.eq_nil_of_length_eq_zero (by omega)
 rw [kf,this];rfl
theorem Zha (l:List Tm) (vars k:Int) (hl:Few l) (hk:k≠0) (Q:List AV→Prop):mc.C Zba [⟨L T4,l⟩,⟨I,vars⟩,⟨I,k⟩] Q=Q [⟨B,decide (kf l vars=k)⟩]:=by
 refine Mc.Ends.c (mc.ends Zf2 ?_)
 have hlen:=Zh7 l vars
 simp+contextual(maxSteps:=1000000)(disch:=omega)only[↓Sd,↓So,↓Sk,↓den,↓Z0,Sa,Sb,Sc,Se,O1.d,O2.d,O3.d,cmI,arI,Z1,Z2,↓reduceIte,Nat.reduceLT,Nat.reduceSub,Nat.reduceAdd,Int.reduceAdd,Int.reduceEq,Int.reduceLT,Int.reduceLE,ZD,ZE,Zd7,Zh6 l vars hl]
 refine ⟨fun h=>?_,fun h=>?_⟩
 ·rw [Zh8 (by omega)];rfl
 ·rw [Zh9 (by omega)];exact (decide_eq_false (Ne.symm hk)).symm
theorem Zhb (l:List Tm) (vars:Int) (hl:Few l) (Q:List AV→Prop):mc.C ZbO [⟨L T4,l⟩,⟨I,vars⟩] Q=Q [⟨N I,Zh1 l vars⟩]:=by
 have:=ZgW hl
 refine Mc.Ends.c (mc.ends ZfG ?_)
 simp+contextual(maxSteps:=1000000)(disch:=omega)only[↓Sd,↓So,↓Sk,↓den,↓Z0,Sa,Sb,Sc,Se,O1.d,O2.d,O3.d,cmI,arI,Z1,Z2,↓reduceIte,Nat.reduceLT,Nat.reduceSub,Nat.reduceAdd,Int.reduceAdd,Int.reduceEq,Int.reduceLT,Int.reduceLE,ZD,ZE,ZdL,ZgY]
 unfold Zh1
 refine ⟨fun h=>by rw [if_neg (by omega)],fun h1=>⟨fun h=>by rw [if_neg (by omega)],fun h2=>?_⟩⟩
 rw [if_pos (by omega)]
 have h1:0≤vars∧vars≤5:=by omega
 have h2:1≤l.length∧l.length≤40:=by omega
 refine mc.lp_for (List Int) (fun i s=>[⟨I,vars⟩,⟨L T4,l⟩,⟨I,(l.length:Int)⟩,⟨I,(i:Int)⟩,⟨L I,s⟩]) (fun i s=>s.length=i∧kds vars (l.drop i) s=kds vars l []) l.length 0 [] _ rfl (Nat.zero_le _) ⟨rfl,rfl⟩ ?_ ?_
 ·rintro i s hi ⟨hs,hk⟩
  simp+contextual(maxSteps:=1000000)(disch:=omega)only[↓Sd,↓So,↓Sk,↓den,↓Z0,Sa,Sb,Sc,Se,O1.d,O2.d,O3.d,cmI,arI,Z1,Z2,↓reduceIte,Nat.reduceLT,Nat.reduceSub,Nat.reduceAdd,Int.reduceAdd,Int.reduceEq,Int.reduceLT,Int.reduceLE,ZD,ZE,ZgY,Zg_]
  refine mc.wp_join (fun us=>us=[⟨I,vars⟩,⟨I,if 5≤(l.getD i (0,0,0,0)).1∧(l.getD i (0,0,0,0)).1≤9 then 2 else 1⟩,⟨B,decide (kd (l.getD i (0,0,0,0)) s vars≠0)⟩,⟨L T4,l⟩,⟨I,(l.length:Int)⟩,⟨I,(i:Int)⟩,⟨L I,s⟩]) ?_ ?_
  ·obtain ⟨o,n,a,b,ht⟩:∃o n a b,l.getD i (0,0,0,0)=(o,n,a,b):=⟨_,_,_,_,rfl⟩
   subst hs
   rw [ht]
   generalize hK:decide (kd (o,n,a,b) s vars≠0)=K
   simp+contextual(maxSteps:=1000000)(disch:=omega)only[↓Sd,↓So,↓Sk,↓den,↓Z0,Sa,Sb,Sc,Se,O1.d,O2.d,O3.d,cmI,arI,Z1,Z2,↓reduceIte,Nat.reduceLT,Nat.reduceSub,Nat.reduceAdd,Int.reduceAdd,Int.reduceEq,Int.reduceLT,Int.reduceLE,ZD,ZE,ZgY,Zg_,ht]
   refine ⟨fun h0=>?_,fun h0=>⟨fun h1=>?_,fun h1=>?_⟩⟩
   ·subst h0;simp only [kd,if_pos] at hK;grind
   ·subst h1;simp only [kd,if_pos] at hK;grind
   ·rw [←hK];simp only [kd,if_neg h0,if_neg h1];clear hK hk;grind
  ·rintro _ rfl
   rw [Zh3 (d:=(0,0,0,0)) hi] at hk
   simp only [kds] at hk
   simp+contextual(maxSteps:=1000000)(disch:=omega)only[↓Sd,↓So,↓Sk,↓den,↓Z0,Sa,Sb,Sc,Se,O1.d,O2.d,O3.d,cmI,arI,Z1,Z2,↓reduceIte,Nat.reduceLT,Nat.reduceSub,Nat.reduceAdd,Int.reduceAdd,Int.reduceEq,Int.reduceLT,Int.reduceLE,ZD,ZE,]
   refine ⟨fun h=>?_,fun h=>⟨by simp [hs],?_⟩⟩
   ·rw [←hk,if_pos (by simpa using h)];rfl
   ·have h:kd (l.getD i (0,0,0,0)) s vars≠0:=by simpa using h
    rw [←hk,if_neg h,Zh0 h]
 ·rintro s ⟨hs,hk⟩
  simp+contextual(maxSteps:=1000000)(disch:=omega)only[↓Sd,↓So,↓Sk,↓den,↓Z0,Sa,Sb,Sc,Se,O1.d,O2.d,O3.d,cmI,arI,Z1,Z2,↓reduceIte,Nat.reduceLT,Nat.reduceSub,Nat.reduceAdd,Int.reduceAdd,Int.reduceEq,Int.reduceLT,Int.reduceLE,ZD,ZE,]
  rw [←hk,List.drop_length]
  refine ⟨?_,rfl⟩
  cases s with
  | nil=>simp at hs;omega
  | cons a s=>rfl
theorem Zhc (l:List Tm) (vars:Int) (hl:Few l) (Q:List AV→Prop):mc.C ZbP [⟨L T4,l⟩,⟨I,vars⟩] Q=Q [⟨I,kf l vars⟩]:=by
 refine Mc.Ends.c (mc.ends ZfH ?_)
 have hlen:=Zh7 l vars
 simp+contextual(maxSteps:=1000000)(disch:=omega)only[↓Sd,↓So,↓Sk,↓den,↓Z0,Sa,Sb,Sc,Se,O1.d,O2.d,O3.d,cmI,arI,Z1,Z2,↓reduceIte,Nat.reduceLT,Nat.reduceSub,Nat.reduceAdd,Int.reduceAdd,Int.reduceEq,Int.reduceLT,Int.reduceLE,ZD,ZE,ZdM,Zhb l vars hl,List.isEmpty_iff]
 refine ⟨fun h=>?_,fun h=>?_⟩
 ·rw [Zh9 (by rw [h];simp)]
 ·have h0:0<(Zh1 l vars).length:=List.length_pos_iff.2 h
  simp+contextual(maxSteps:=1000000)(disch:=omega)only[↓Sd,↓So,↓Sk,↓den,↓Z0,Sa,Sb,Sc,Se,O1.d,O2.d,O3.d,cmI,arI,Z1,Z2,↓reduceIte,Nat.reduceLT,Nat.reduceSub,Nat.reduceAdd,Int.reduceAdd,Int.reduceEq,Int.reduceLT,Int.reduceLE,ZD,ZE,]
  exact Zh8 h0
def vOk (v:Vr):Prop := -9999≤v.1∧v.1≤v.2.1∧v.2.1≤9999∧v.2.1 - v.1<20∧v.1≤v.2.2∧v.2.2≤v.2.1
instance (v : Vr) : Decidable (vOk v) := by unfold vOk; infer_instance
theorem Zhd (v:Vr) (Q:List AV→Prop):mc.C Zb6 [⟨I,v.1⟩,⟨I,v.2.1⟩,⟨I,v.2.2⟩] Q=Q [⟨B,decide (vOk v)⟩]:=by
 refine Mc.Ends.c (mc.ends ZeZ ?_)
 generalize hK:decide (vOk v)=K
 simp+contextual(maxSteps:=1000000)(disch:=omega)only[↓Sd,↓So,↓Sk,↓den,↓Z0,Sa,Sb,Sc,Se,O1.d,O2.d,O3.d,cmI,arI,Z1,Z2,↓reduceIte,Nat.reduceLT,Nat.reduceSub,Nat.reduceAdd,Int.reduceAdd,Int.reduceEq,Int.reduceLT,Int.reduceLE,ZD,ZE,Zd3,ZgX]
 simp only [vOk] at hK
 grind
theorem Zhe (v:Vr) (Q:List AV→Prop):mc.C ZbL [⟨I,v.1⟩,⟨I,v.2.1⟩,⟨I,v.2.2⟩] Q=Q [⟨B,decide (vOk v)⟩]:=by
 refine Mc.Ends.c (mc.ends ZfD ?_)
 generalize hK:decide (vOk v)=K
 simp+contextual(maxSteps:=1000000)(disch:=omega)only[↓Sd,↓So,↓Sk,↓den,↓Z0,Sa,Sb,Sc,Se,O1.d,O2.d,O3.d,cmI,arI,Z1,Z2,↓reduceIte,Nat.reduceLT,Nat.reduceSub,Nat.reduceAdd,Int.reduceAdd,Int.reduceEq,Int.reduceLT,Int.reduceLE,ZD,ZE,ZdI,ZgY]
 simp only [vOk] at hK
 grind
def Zhf (r:Ru) (vars:Int) (i:Nat):Prop:=(0≤r.2.1.getD i 0∧r.2.1.getD i 0≤vars - 1)∧(0<i→r.2.1.getD (i - 1) 0<r.2.1.getD i 0)∧kf (r.2.2.getD i []) vars=1
def rOk (r:Ru) (vars:Int):Prop:=kf r.1 vars=2∧r.2.1.length=r.2.2.length∧∀i,i<r.2.1.length→Zhf r vars i
instance (r : Ru) (v : Int) (i : Nat) : Decidable (Zhf r v i) := by unfold Zhf; infer_instance
instance (r : Ru) (v : Int) : Decidable (rOk r v) := by unfold rOk; infer_instance
theorem Zhg {r:Ru} {vars:Int} (h:∀i,i<r.2.1.length→Zhf r vars i):∀i,i<r.2.1.length→(i:Int)≤r.2.1.getD i 0:=by
 intro i
 induction i with
 | zero=>intro hi;exact (h 0 hi).1.1
 | succ i ih =>
  intro hi
  have h1:=ih (by omega)
  have h2:=(h (i+1) hi).2.1 (by omega)
  simp only [Nat.add_sub_cancel] at h2
  omega
theorem Zhh {r:Ru} {vars:Int} (h:∀i,i<r.2.1.length→Zhf r vars i):(r.2.1.length:Int)≤max vars 0:=by
 rcases Nat.eq_zero_or_pos r.2.1.length with h0 | h0
 ·omega
 ·have h1:=Zhg h (r.2.1.length - 1) (by omega)
  have h2:=(h (r.2.1.length - 1) (by omega)).1.2
  omega
theorem Zhi (r:Ru) (vars:Int) (hv:0≤vars∧vars≤5) (hr:ZgV r) (Q:List AV→Prop):mc.C Zbb [⟨L T4,r.1⟩,⟨L I,r.2.1⟩,⟨L (L T4),r.2.2⟩,⟨I,vars⟩] Q=Q [⟨B,decide (rOk r vars)⟩]:=by
 obtain ⟨h1,h2,h3,h4⟩:=hr
 have b2:=ZgW h2
 have b3:=ZgW h3
 refine Mc.Ends.c (mc.ends Zf3 ?_)
 generalize hK:decide (rOk r vars)=K
 simp+contextual(maxSteps:=1000000)(disch:=omega)only[↓Sd,↓So,↓Sk,↓den,↓Z0,Sa,Sb,Sc,Se,O1.d,O2.d,O3.d,cmI,arI,Z1,Z2,↓reduceIte,Nat.reduceLT,Nat.reduceSub,Nat.reduceAdd,Int.reduceAdd,Int.reduceEq,Int.reduceLT,Int.reduceLE,ZD,ZE,Zd8,Zha _ _ 2 h1 (by omega)]
 refine ⟨fun g=>?_,fun g1=>⟨fun g=>?_,fun g2=>⟨fun g=>?_,fun g3=>?_⟩⟩⟩
 ·rw [←hK,decide_eq_false];exact fun h=>g h.1
 ·rw [←hK,decide_eq_false];exact fun h=>g (by rw [h.2.1])
 ·rw [←hK,decide_eq_false];exact fun h=>by have:=Zhh h.2.2;omega
 refine ZgT (fun i=>[⟨I,vars⟩,⟨I,(i:Int)⟩,⟨L T4,r.1⟩,⟨L I,r.2.1⟩,⟨L (L T4),r.2.2⟩]) (Zhf r vars) r.2.1.length _ rfl ?_ ?_
 ·intro i hi
  have hno:¬Zhf r vars i→false=K:=fun h=>by rw [←hK,decide_eq_false];exact fun h1=>h (h1.2.2 i hi)
  have h5:=h4 (r.2.2.getD i []) (ZH (by omega))
  simp+contextual(maxSteps:=1000000)(disch:=omega)only[↓Sd,↓So,↓Sk,↓den,↓Z0,Sa,Sb,Sc,Se,O1.d,O2.d,O3.d,cmI,arI,Z1,Z2,↓reduceIte,Nat.reduceLT,Nat.reduceSub,Nat.reduceAdd,Int.reduceAdd,Int.reduceEq,Int.reduceLT,Int.reduceLE,ZD,ZE,↓ZF,ZgX,Zha _ _ 1 h5 (by omega)]
  simp only [Zhf] at hno ⊢
  grind
 ·intro h
  simp+contextual(maxSteps:=1000000)(disch:=omega)only[↓Sd,↓So,↓Sk,↓den,↓Z0,Sa,Sb,Sc,Se,O1.d,O2.d,O3.d,cmI,arI,Z1,Z2,↓reduceIte,Nat.reduceLT,Nat.reduceSub,Nat.reduceAdd,Int.reduceAdd,Int.reduceEq,Int.reduceLT,Int.reduceLE,ZD,ZE,]
  rw [←hK,decide_eq_true];exact ⟨g1,by omega,h⟩
theorem Zhj (r:Ru) (vars:Int) (hv:0≤vars∧vars≤5) (hr:ZgV r) (Q:List AV→Prop):mc.C ZbQ [⟨L T4,r.1⟩,⟨L I,r.2.1⟩,⟨L (L T4),r.2.2⟩,⟨I,vars⟩] Q=Q [⟨B,decide (rOk r vars)⟩]:=by
 obtain ⟨h1,h2,h3,h4⟩:=hr
 have b2:=ZgW h2
 have b3:=ZgW h3
 refine Mc.Ends.c (mc.ends ZfI ?_)
 generalize hK:decide (rOk r vars)=K
 simp+contextual(maxSteps:=1000000)(disch:=omega)only[↓Sd,↓So,↓Sk,↓den,↓Z0,Sa,Sb,Sc,Se,O1.d,O2.d,O3.d,cmI,arI,Z1,Z2,↓reduceIte,Nat.reduceLT,Nat.reduceSub,Nat.reduceAdd,Int.reduceAdd,Int.reduceEq,Int.reduceLT,Int.reduceLE,ZD,ZE,ZdN,Zhc _ _ h1]
 refine ⟨fun g=>?_,fun g1=>⟨fun g=>?_,fun g2=>?_⟩⟩
 ·rw [←hK,decide_eq_false];exact fun h=>g h.1
 ·rw [←hK,decide_eq_false];exact fun h=>g (by rw [h.2.1])
 refine ZgT (fun i=>[⟨I,vars⟩,⟨L I,r.2.1⟩,⟨I,(r.2.2.length:Int)⟩,⟨I,(i:Int)⟩,⟨L T4,r.1⟩,⟨L I,r.2.1⟩,⟨L (L T4),r.2.2⟩]) (Zhf r vars) r.2.1.length _ rfl ?_ ?_
 ·intro i hi
  have hno:¬Zhf r vars i→false=K:=fun h=>by rw [←hK,decide_eq_false];exact fun h1=>h (h1.2.2 i hi)
  have h5:=h4 (r.2.2.getD i []) (ZH (by omega))
  simp+contextual(maxSteps:=1000000)(disch:=omega)only[↓Sd,↓So,↓Sk,↓den,↓Z0,Sa,Sb,Sc,Se,O1.d,O2.d,O3.d,cmI,arI,Z1,Z2,↓reduceIte,Nat.reduceLT,Nat.reduceSub,Nat.reduceAdd,Int.reduceAdd,Int.reduceEq,Int.reduceLT,Int.reduceLE,ZD,ZE,↓ZF,ZgY,Zhc _ _ h5]
  simp only [Zhf] at hno ⊢
  grind
 ·intro h
  simp+contextual(maxSteps:=1000000)(disch:=omega)only[↓Sd,↓So,↓Sk,↓den,↓Z0,Sa,Sb,Sc,Se,O1.d,O2.d,O3.d,cmI,arI,Z1,Z2,↓reduceIte,Nat.reduceLT,Nat.reduceSub,Nat.reduceAdd,Int.reduceAdd,Int.reduceEq,Int.reduceLT,Int.reduceLE,ZD,ZE,]
  rw [←hK,decide_eq_true];exact ⟨g1,by omega,h⟩
def wd (v:Vr):Int:=v.2.1 - v.1+1
def sz (l:List Vr):Int:=l.foldl (fun n v=>n * wd v) 1
def valid (s:Sy):Prop:=(1≤s.1.length∧s.1.length≤5)∧s.2.length≤8∧(∀v∈s.1,vOk v)∧(∀r∈s.2,rOk r s.1.length)∧sz s.1≤400
instance (s : Sy) : Decidable (valid s) := by unfold valid; infer_instance
theorem Zhk {v:Vr} (h:vOk v):1≤wd v∧wd v≤20:=by unfold vOk at h;unfold wd;omega
theorem szN (l:List Vr) (n:Nat):sz (l.take (n+1))=sz (l.take n) * (match l[n]? with | some v=>wd v | none=>1):=by
 unfold sz
 rw [List.take_add_one,List.foldl_append]
 cases l[n]?<;>simp
theorem Zhl {l:List Vr} {i:Nat} {d:Vr} (h:i<l.length):sz (l.take (i+1))=sz (l.take i) * wd (l.getD i d):=by
 rw [szN,List.getElem?_eq_getElem h,getD_lt h]
theorem Zhm {a b:Int} {p:Nat} (h1:1≤a) (h2:a≤20 ^ p) (h3:1≤b∧b≤20):1≤a * b∧a * b≤20 ^ (p+1):=by
 constructor
 ·have:=Int.mul_le_mul h1 h3.1 (by omega) (by omega);simpa using this
 ·rw [Int.pow_succ];exact Int.mul_le_mul h2 h3.2 (by omega) (by have:(0:Int)<20 ^ p:=Int.pow_pos (by omega);omega)
theorem Zhn:∀(l:List Vr),(∀v∈l,vOk v)→∀i,i≤l.length→1≤sz (l.take i)∧sz (l.take i)≤20 ^ i:=by
 intro l hl i
 induction i with
 | zero=>intro _;simp [sz]
 | succ i ih =>
  intro hi
  rw [Zhl (d:=(0,0,0)) (by omega)]
  exact Zhm (ih (by omega)).1 (ih (by omega)).2 (Zhk (hl _ (ZH (by omega))))
theorem Zho {a b:Int} (h1:1≤a∧a≤3200000) (h3:1≤b∧b≤20):1≤a * b∧a * b≤64000000:=by
 constructor
 ·have:=Int.mul_le_mul h1.1 h3.1 (by omega) (by omega);simpa using this
 ·have:=Int.mul_le_mul h1.2 h3.2 (by omega) (by omega);omega
theorem Zhp {i:Nat} (h:i≤5):(20:Int) ^ i≤3200000:=by
 have:i=0∨i=1∨i=2∨i=3∨i=4∨i=5:=by omega
 rcases this with rfl | rfl | rfl | rfl | rfl | rfl<;>decide
theorem Zhq {α:Type} {l:List α} {p:α→Prop} {d:α} (h:∀i,i<l.length→p (l.getD i d)):∀x∈l,p x:=by
 intro x hx
 obtain ⟨i,hi,rfl⟩:=List.getElem_of_mem hx
 have:=h i hi
 rwa [getD_lt hi] at this
theorem Zhr {l:List Vr} {i:Nat} (h5:l.length≤5) (hi:i≤l.length) (h:∀j,j<i→vOk (l.getD j (0,0,0))):1≤sz (l.take i)∧sz (l.take i)≤3200000:=by
 have h1:=Zhn (l.take i) (fun v hv=>by
  obtain ⟨j,hj,rfl⟩:=List.getElem_of_mem hv
  rw [List.length_take] at hj
  have:=h j (by omega)
  rw [getD_lt (by omega)] at this
  simpa using this) i (by simp;omega)
 rw [List.take_take,Nat.min_self] at h1
 have:=Zhp (i:=i) (by omega)
 omega
theorem Zhs (s:Sy) (hs:ZI s) (Q:List AV→Prop):mc.C Zbc [⟨L V3,s.1⟩,⟨L TR,s.2⟩] Q=Q [⟨B,decide (valid s)⟩]:=by
 obtain ⟨h1,h2,h3⟩:=hs
 have b1:=ZgW h1
 have b2:=ZgW h2
 refine Mc.Ends.c (mc.ends Zf4 ?_)
 generalize hK:decide (valid s)=K
 simp+contextual(maxSteps:=1000000)(disch:=omega)only[↓Sd,↓So,↓Sk,↓den,↓Z0,Sa,Sb,Sc,Se,O1.d,O2.d,O3.d,cmI,arI,Z1,Z2,↓reduceIte,Nat.reduceLT,Nat.reduceSub,Nat.reduceAdd,Int.reduceAdd,Int.reduceEq,Int.reduceLT,Int.reduceLE,ZD,ZE,Zd9,ZgX]
 refine ⟨fun g=>?_,fun g1=>⟨fun g=>?_,fun g2=>?_⟩⟩
 ·rw [←hK,decide_eq_false];exact fun h=>g (by have:=h.1;omega)
 ·rw [←hK,decide_eq_false];exact fun h=>by have:=h.2.1;omega
 refine mc.lp_for Int (fun i n=>[⟨I,n⟩,⟨I,(i:Int)⟩,⟨L V3,s.1⟩,⟨L TR,s.2⟩]) (fun i n=>n=sz (s.1.take i)∧∀j,j<i→vOk (s.1.getD j (0,0,0))) s.1.length 0 1 _ rfl (Nat.zero_le _) ⟨rfl,fun j hj=>absurd hj (Nat.not_lt_zero _)⟩ ?_ ?_
 ·rintro i n hi ⟨rfl,hv⟩
  have hn:=Zhr (by omega) (by omega) hv
  have hno:¬vOk (s.1.getD i (0,0,0))→false=K:=fun h=>by rw [←hK,decide_eq_false];exact fun h1=>h (h1.2.2.1 _ (ZH hi))
  simp+contextual(maxSteps:=1000000)(disch:=omega)only[↓Sd,↓So,↓Sk,↓den,↓Z0,Sa,Sb,Sc,Se,O1.d,O2.d,O3.d,cmI,arI,Z1,Z2,↓reduceIte,Nat.reduceLT,Nat.reduceSub,Nat.reduceAdd,Int.reduceAdd,Int.reduceEq,Int.reduceLT,Int.reduceLE,ZD,ZE,Zhd]
  refine ⟨hno,fun hy=>?_⟩
  have hw:=Zhk hy
  have hm:=Zho hn hw
  have hw2:=hy
  unfold vOk at hw2
  unfold wd at hm
  simp+contextual(maxSteps:=1000000)(disch:=omega)only[↓Sd,↓So,↓Sk,↓den,↓Z0,Sa,Sb,Sc,Se,O1.d,O2.d,O3.d,cmI,arI,Z1,Z2,↓reduceIte,Nat.reduceLT,Nat.reduceSub,Nat.reduceAdd,Int.reduceAdd,Int.reduceEq,Int.reduceLT,Int.reduceLE,ZD,ZE,]
  refine ⟨by rw [Zhl (d:=(0,0,0)) hi];rfl,fun j hj=>?_⟩
  rcases Nat.lt_succ_iff_lt_or_eq.1 hj with h | rfl
  ·exact hv j h
  ·exact hy
 ·rintro n ⟨rfl,hv⟩
  rw [List.take_length]
  have hn:=Zhr (by omega) (Nat.le_refl _) hv
  rw [List.take_length] at hn
  simp+contextual(maxSteps:=1000000)(disch:=omega)only[↓Sd,↓So,↓Sk,↓den,↓Z0,Sa,Sb,Sc,Se,O1.d,O2.d,O3.d,cmI,arI,Z1,Z2,↓reduceIte,Nat.reduceLT,Nat.reduceSub,Nat.reduceAdd,Int.reduceAdd,Int.reduceEq,Int.reduceLT,Int.reduceLE,ZD,ZE,]
  refine ZgT (fun i=>[⟨I,sz s.1⟩,⟨I,(i:Int)⟩,⟨L V3,s.1⟩,⟨L TR,s.2⟩]) (fun i=>rOk (s.2.getD i ([],[],[])) s.1.length) s.2.length _ rfl ?_ ?_
  ·intro i hi
   have hno:¬rOk (s.2.getD i ([],[],[])) s.1.length→false=K:=fun h=>by rw [←hK,decide_eq_false];exact fun h1=>h (h1.2.2.2.1 _ (ZH hi))
   have h4:=h3 _ (ZH (d:=([],[],[])) hi)
   simp+contextual(maxSteps:=1000000)(disch:=omega)only[↓Sd,↓So,↓Sk,↓den,↓Z0,Sa,Sb,Sc,Se,O1.d,O2.d,O3.d,cmI,arI,Z1,Z2,↓reduceIte,Nat.reduceLT,Nat.reduceSub,Nat.reduceAdd,Int.reduceAdd,Int.reduceEq,Int.reduceLT,Int.reduceLE,ZD,ZE,Zhi (s.2.getD i ([],[],[])) (s.1.length:Int) (by omega) h4]
   exact hno
  ·intro h
   simp+contextual(maxSteps:=1000000)(disch:=omega)only[↓Sd,↓So,↓Sk,↓den,↓Z0,Sa,Sb,Sc,Se,O1.d,O2.d,O3.d,cmI,arI,Z1,Z2,↓reduceIte,Nat.reduceLT,Nat.reduceSub,Nat.reduceAdd,Int.reduceAdd,Int.reduceEq,Int.reduceLT,Int.reduceLE,ZD,ZE,]
   rw [←hK]
   have a1:=Zhq hv
   have a2:=Zhq (p:=fun r=>rOk r s.1.length) h
   by_cases h4:sz s.1≤400
   ·rw [decide_eq_true h4,decide_eq_true];exact ⟨by omega,by omega,a1,a2,h4⟩
   ·rw [decide_eq_false h4,decide_eq_false];exact fun h=>h4 h.2.2.2.2
theorem Zht (l:List Vr) (h5:l.length≤5) (hv:∀v∈l,vOk v) (Q:List AV→Prop):mc.C ZbM [⟨L V3,l⟩] Q=Q [⟨I,sz l⟩]:=by
 refine Mc.Ends.c (mc.ends ZfE ?_)
 simp+contextual(maxSteps:=1000000)(disch:=omega)only[↓Sd,↓So,↓Sk,↓den,↓Z0,Sa,Sb,Sc,Se,O1.d,O2.d,O3.d,cmI,arI,Z1,Z2,↓reduceIte,Nat.reduceLT,Nat.reduceSub,Nat.reduceAdd,Int.reduceAdd,Int.reduceEq,Int.reduceLT,Int.reduceLE,ZD,ZE,ZdJ]
 refine mc.lp_for Int (fun i n=>[⟨I,n⟩,⟨L V3,l⟩,⟨I,(l.length:Int)⟩,⟨I,(i:Int)⟩]) (fun i n=>n=sz (l.take i)) l.length 0 1 _ rfl (Nat.zero_le _) rfl ?_ ?_
 ·rintro i n hi rfl
  have hn:=Zhr (l:=l) h5 (by omega) fun j hj=>hv _ (ZH (Nat.lt_trans hj hi))
  have hy:=hv _ (ZH (d:=(0,0,0)) hi)
  have hw:=Zhk hy
  have hm:=Zho hn hw
  unfold vOk at hy
  unfold wd at hm
  simp+contextual(maxSteps:=1000000)(disch:=omega)only[↓Sd,↓So,↓Sk,↓den,↓Z0,Sa,Sb,Sc,Se,O1.d,O2.d,O3.d,cmI,arI,Z1,Z2,↓reduceIte,Nat.reduceLT,Nat.reduceSub,Nat.reduceAdd,Int.reduceAdd,Int.reduceEq,Int.reduceLT,Int.reduceLE,ZD,ZE,]
  rw [Zhl (d:=(0,0,0)) hi];rfl
 ·rintro n rfl
  simp+contextual(maxSteps:=1000000)(disch:=omega)only[↓Sd,↓So,↓Sk,↓den,↓Z0,Sa,Sb,Sc,Se,O1.d,O2.d,O3.d,cmI,arI,Z1,Z2,↓reduceIte,Nat.reduceLT,Nat.reduceSub,Nat.reduceAdd,Int.reduceAdd,Int.reduceEq,Int.reduceLT,Int.reduceLE,ZD,ZE,]
  rw [List.take_length]
theorem Zhu (s:Sy) (hs:ZI s) (Q:List AV→Prop):mc.C ZbR [⟨L V3,s.1⟩,⟨L TR,s.2⟩] Q=Q [⟨B,decide (valid s)⟩]:=by
 obtain ⟨h1,h2,h3⟩:=hs
 have b1:=ZgW h1
 have b2:=ZgW h2
 refine Mc.Ends.c (mc.ends ZfJ ?_)
 generalize hK:decide (valid s)=K
 simp+contextual(maxSteps:=1000000)(disch:=omega)only[↓Sd,↓So,↓Sk,↓den,↓Z0,Sa,Sb,Sc,Se,O1.d,O2.d,O3.d,cmI,arI,Z1,Z2,↓reduceIte,Nat.reduceLT,Nat.reduceSub,Nat.reduceAdd,Int.reduceAdd,Int.reduceEq,Int.reduceLT,Int.reduceLE,ZD,ZE,ZdO]
 refine mc.wp_join (fun us=>us=[⟨L V3,s.1⟩,⟨L TR,s.2⟩]∧(1≤s.1.length∧s.1.length≤5)∧s.2.length≤8∧(∀v∈s.1,vOk v)∧sz s.1≤400) ?_ ?_
 ·simp+contextual(maxSteps:=1000000)(disch:=omega)only[↓Sd,↓So,↓Sk,↓den,↓Z0,Sa,Sb,Sc,Se,O1.d,O2.d,O3.d,cmI,arI,Z1,Z2,↓reduceIte,Nat.reduceLT,Nat.reduceSub,Nat.reduceAdd,Int.reduceAdd,Int.reduceEq,Int.reduceLT,Int.reduceLE,ZD,ZE,ZgY]
  refine ⟨fun g=>?_,fun g1=>⟨fun g=>?_,fun g2=>?_⟩⟩
  ·rw [←hK,decide_eq_false];exact fun h=>g (by have:=h.1;omega)
  ·rw [←hK,decide_eq_false];exact fun h=>by have:=h.2.1;omega
  refine ZgT (fun i=>[⟨L V3,s.1⟩,⟨I,(s.1.length:Int)⟩,⟨I,(i:Int)⟩,⟨L V3,s.1⟩,⟨L TR,s.2⟩]) (fun i=>vOk (s.1.getD i (0,0,0))) s.1.length _ rfl ?_ ?_
  ·intro i hi
   have hno:¬vOk (s.1.getD i (0,0,0))→false=K:=fun h=>by rw [←hK,decide_eq_false];exact fun h1=>h (h1.2.2.1 _ (ZH hi))
   simp+contextual(maxSteps:=1000000)(disch:=omega)only[↓Sd,↓So,↓Sk,↓den,↓Z0,Sa,Sb,Sc,Se,O1.d,O2.d,O3.d,cmI,arI,Z1,Z2,↓reduceIte,Nat.reduceLT,Nat.reduceSub,Nat.reduceAdd,Int.reduceAdd,Int.reduceEq,Int.reduceLT,Int.reduceLE,ZD,ZE,Zhe]
   exact hno
  ·intro hv
   have hv:=Zhq hv
   simp+contextual(maxSteps:=1000000)(disch:=omega)only[↓Sd,↓So,↓Sk,↓den,↓Z0,Sa,Sb,Sc,Se,O1.d,O2.d,O3.d,cmI,arI,Z1,Z2,↓reduceIte,Nat.reduceLT,Nat.reduceSub,Nat.reduceAdd,Int.reduceAdd,Int.reduceEq,Int.reduceLT,Int.reduceLE,ZD,ZE,Zht s.1 (by omega) hv]
   refine ⟨fun h=>?_,fun h=>⟨by omega,by omega,hv,by omega⟩⟩
   rw [←hK,decide_eq_false];exact fun h1=>by have:=h1.2.2.2.2;omega
 rintro _ ⟨rfl,g1,g2,g3,g4⟩
 simp+contextual(maxSteps:=1000000)(disch:=omega)only[↓Sd,↓So,↓Sk,↓den,↓Z0,Sa,Sb,Sc,Se,O1.d,O2.d,O3.d,cmI,arI,Z1,Z2,↓reduceIte,Nat.reduceLT,Nat.reduceSub,Nat.reduceAdd,Int.reduceAdd,Int.reduceEq,Int.reduceLT,Int.reduceLE,ZD,ZE,]
 refine ZgT (fun i=>[⟨L TR,s.2⟩,⟨I,(s.2.length:Int)⟩,⟨I,(i:Int)⟩,⟨L V3,s.1⟩,⟨L TR,s.2⟩]) (fun i=>rOk (s.2.getD i ([],[],[])) s.1.length) s.2.length _ rfl ?_ ?_
 ·intro i hi
  have hno:¬rOk (s.2.getD i ([],[],[])) s.1.length→false=K:=fun h=>by rw [←hK,decide_eq_false];exact fun h1=>h (h1.2.2.2.1 _ (ZH hi))
  have h4:=h3 _ (ZH (d:=([],[],[])) hi)
  simp+contextual(maxSteps:=1000000)(disch:=omega)only[↓Sd,↓So,↓Sk,↓den,↓Z0,Sa,Sb,Sc,Se,O1.d,O2.d,O3.d,cmI,arI,Z1,Z2,↓reduceIte,Nat.reduceLT,Nat.reduceSub,Nat.reduceAdd,Int.reduceAdd,Int.reduceEq,Int.reduceLT,Int.reduceLE,ZD,ZE,Zhj (s.2.getD i ([],[],[])) (s.1.length:Int) (by omega) h4]
  intro h
  have:=hno h
  have h0:(i:Int)≥0:=by omega
  simpa [h0] using this
 ·intro h
  simp+contextual(maxSteps:=1000000)(disch:=omega)only[↓Sd,↓So,↓Sk,↓den,↓Z0,Sa,Sb,Sc,Se,O1.d,O2.d,O3.d,cmI,arI,Z1,Z2,↓reduceIte,Nat.reduceLT,Nat.reduceSub,Nat.reduceAdd,Int.reduceAdd,Int.reduceEq,Int.reduceLT,Int.reduceLE,ZD,ZE,]
  rw [←hK]
  have a2:=Zhq (p:=fun r=>rOk r s.1.length) h
  rw [decide_eq_true (show valid s from ⟨g1,g2,g3,a2,g4⟩)]
  rfl
theorem Zhv (s:Sy) (hs:ZI s) (Q:List AV→Prop):mc.C Zbf [⟨L V3,s.1⟩,⟨L TR,s.2⟩] Q=Q [⟨I,if valid s then sz s.1 else 0⟩]:=by
 refine Mc.Ends.c (mc.ends Zf7 ?_)
 simp+contextual(maxSteps:=1000000)(disch:=omega)only[↓Sd,↓So,↓Sk,↓den,↓Z0,Sa,Sb,Sc,Se,O1.d,O2.d,O3.d,cmI,arI,Z1,Z2,↓reduceIte,Nat.reduceLT,Nat.reduceSub,Nat.reduceAdd,Int.reduceAdd,Int.reduceEq,Int.reduceLT,Int.reduceLE,ZD,ZE,Zdc,Zhs s hs]
 intro h
 obtain ⟨h5,-,hv,-⟩:=h
 refine mc.lp_for Int (fun i n=>[⟨I,n⟩,⟨I,(i:Int)⟩,⟨L V3,s.1⟩,⟨L TR,s.2⟩]) (fun i n=>n=sz (s.1.take i)) s.1.length 0 1 _ rfl (Nat.zero_le _) rfl ?_ ?_
 ·rintro i n hi rfl
  have hn:=Zhr (l:=s.1) h5.2 (by omega) fun j hj=>hv _ (ZH (Nat.lt_trans hj hi))
  have hy:=hv _ (ZH (d:=(0,0,0)) hi)
  have hw:=Zhk hy
  have hm:=Zho hn hw
  unfold vOk at hy
  unfold wd at hm
  simp+contextual(maxSteps:=1000000)(disch:=omega)only[↓Sd,↓So,↓Sk,↓den,↓Z0,Sa,Sb,Sc,Se,O1.d,O2.d,O3.d,cmI,arI,Z1,Z2,↓reduceIte,Nat.reduceLT,Nat.reduceSub,Nat.reduceAdd,Int.reduceAdd,Int.reduceEq,Int.reduceLT,Int.reduceLE,ZD,ZE,]
  rw [Zhl (d:=(0,0,0)) hi];rfl
 ·rintro n rfl
  simp+contextual(maxSteps:=1000000)(disch:=omega)only[↓Sd,↓So,↓Sk,↓den,↓Z0,Sa,Sb,Sc,Se,O1.d,O2.d,O3.d,cmI,arI,Z1,Z2,↓reduceIte,Nat.reduceLT,Nat.reduceSub,Nat.reduceAdd,Int.reduceAdd,Int.reduceEq,Int.reduceLT,Int.reduceLE,ZD,ZE,]
  rw [List.take_length]
def hd (n:Int):Int:=if n > 9999 then 9999 else if n < -9999 then -9999 else n
def doM (o a b:Int):Int :=
 if o=2 then hd (a+b) else if o=3 then hd (a - b) else if o=4 then hd (a * b)
 else if o=5 then (if a<b then 1 else 0) else if o=6 then (if a=b then 1 else 0)
 else if o=7 then 1 - a else if o=8 then a * b else (if a+b > 0 then 1 else 0)
def Bd4 (n:Int):Prop := -9999≤n∧n≤9999
def Bit (n:Int):Prop:=n=0∨n=1
theorem Zhw (n:Int):Bd4 (hd n):=by
 unfold hd Bd4
 split
 ·omega
 ·split<;>omega
theorem Zhx {a b:Int} (ha:Bd4 a) (hb:Bd4 b) : -100000000≤a * b∧a * b≤100000000:=by
 unfold Bd4 at ha hb
 have h1:a.natAbs≤9999:=by omega
 have h2:b.natAbs≤9999:=by omega
 have h3:(a * b).natAbs≤9999 * 9999:=by rw [Int.natAbs_mul];exact Nat.mul_le_mul h1 h2
 omega
theorem Zhy (n:Int) (Q:List AV→Prop):mc.C Zbk [⟨I,n⟩] Q=Q [⟨I,hd n⟩]:=by
 refine Mc.Ends.c (mc.ends Zfc ?_)
 generalize hK:hd n=K
 simp+contextual(maxSteps:=1000000)(disch:=omega)only[↓Sd,↓So,↓Sk,↓den,↓Z0,Sa,Sb,Sc,Se,O1.d,O2.d,O3.d,cmI,arI,Z1,Z2,↓reduceIte,Nat.reduceLT,Nat.reduceSub,Nat.reduceAdd,Int.reduceAdd,Int.reduceEq,Int.reduceLT,Int.reduceLE,ZD,ZE,Zdh]
 unfold hd at hK
 grind
theorem Zhz (n:Int) (Q:List AV→Prop):mc.C ZbV [⟨I,n⟩] Q=Q [⟨I,hd n⟩]:=by
 refine Mc.Ends.c (mc.ends ZfN ?_)
 generalize hK:hd n=K
 simp+contextual(maxSteps:=1000000)(disch:=omega)only[↓Sd,↓So,↓Sk,↓den,↓Z0,Sa,Sb,Sc,Se,O1.d,O2.d,O3.d,cmI,arI,Z1,Z2,↓reduceIte,Nat.reduceLT,Nat.reduceSub,Nat.reduceAdd,Int.reduceAdd,Int.reduceEq,Int.reduceLT,Int.reduceLE,ZD,ZE,ZdS]
 unfold hd at hK
 grind
theorem ZhA (b:Bool) (Q:List AV→Prop):mc.C Zbl [⟨B,b⟩] Q=Q [⟨I,if b=true then 1 else 0⟩]:=by
 refine Mc.Ends.c (mc.ends Zfd ?_)
 generalize hK:(if b=true then (1:Int) else 0)=K
 simp+contextual(maxSteps:=1000000)(disch:=omega)only[↓Sd,↓So,↓Sk,↓den,↓Z0,Sa,Sb,Sc,Se,O1.d,O2.d,O3.d,cmI,arI,Z1,Z2,↓reduceIte,Nat.reduceLT,Nat.reduceSub,Nat.reduceAdd,Int.reduceAdd,Int.reduceEq,Int.reduceLT,Int.reduceLE,ZD,ZE,Zdi]
 grind
theorem ZhB (b:Bool) (Q:List AV→Prop):mc.C ZbW [⟨B,b⟩] Q=Q [⟨I,if b=true then 1 else 0⟩]:=by
 refine Mc.Ends.c (mc.ends ZfO ?_)
 generalize hK:(if b=true then (1:Int) else 0)=K
 simp+contextual(maxSteps:=1000000)(disch:=omega)only[↓Sd,↓So,↓Sk,↓den,↓Z0,Sa,Sb,Sc,Se,O1.d,O2.d,O3.d,cmI,arI,Z1,Z2,↓reduceIte,Nat.reduceLT,Nat.reduceSub,Nat.reduceAdd,Int.reduceAdd,Int.reduceEq,Int.reduceLT,Int.reduceLE,ZD,ZE,ZdT]
 grind
theorem ZhC (o a b:Int) (ha:Bd4 a) (hb:Bd4 b) (Q:List AV→Prop):mc.C Zbm [⟨I,o⟩,⟨I,a⟩,⟨I,b⟩] Q=Q [⟨I,doM o a b⟩]:=by
 have hm:=Zhx ha hb
 unfold Bd4 at ha hb
 refine Mc.Ends.c (mc.ends Zfe ?_)
 generalize hK:doM o a b=K
 simp+contextual(maxSteps:=1000000)(disch:=omega)only[↓Sd,↓So,↓Sk,↓den,↓Z0,Sa,Sb,Sc,Se,O1.d,O2.d,O3.d,cmI,arI,Z1,Z2,↓reduceIte,Nat.reduceLT,Nat.reduceSub,Nat.reduceAdd,Int.reduceAdd,Int.reduceEq,Int.reduceLT,Int.reduceLE,ZD,ZE,Zdj,Zhy,ZhA]
 unfold doM at hK
 grind (splits:=30)
theorem ZhD (o a b:Int) (ha:Bd4 a) (hb:Bd4 b) (ho:2≤o∧o≤9) (h8:8≤o→Bit a∧Bit b) (Q:List AV→Prop):mc.C ZbX [⟨I,o⟩,⟨I,a⟩,⟨I,b⟩] Q=Q [⟨I,doM o a b⟩]:=by
 have hm:=Zhx ha hb
 unfold Bd4 at ha hb
 refine Mc.Ends.c (mc.ends ZfP ?_)
 generalize hK:doM o a b=K
 simp+contextual(maxSteps:=1000000)(disch:=omega)only[↓Sd,↓So,↓Sk,↓den,↓Z0,Sa,Sb,Sc,Se,O1.d,O2.d,O3.d,cmI,arI,Z1,Z2,↓reduceIte,Nat.reduceLT,Nat.reduceSub,Nat.reduceAdd,Int.reduceAdd,Int.reduceEq,Int.reduceLT,Int.reduceLE,ZD,ZE,ZdU,Zhz,ZhB]
 unfold doM at hK
 unfold Bit at h8
 grind (splits:=30)
theorem ZhE {o a b:Int} (ha:Bd4 a) (hb:Bd4 b) (h7:7≤o→Bit a∧Bit b):Bd4 (doM o a b):=by
 unfold doM
 have h1:=Zhw (a+b);have h2:=Zhw (a - b);have h3:=Zhw (a * b)
 unfold Bd4 Bit at *
 grind (splits:=30)
theorem ZhF {o a b:Int} (ho:5≤o) (h7:7≤o→Bit a∧Bit b):Bit (doM o a b):=by
 unfold doM
 unfold Bit at *
 grind
def ev1 (st:List Int) (t:Tm) (vs:List Int):Int :=
 if t.1=0 then t.2.1 else if t.1=1 then st.getD t.2.1.toNat 0 else doM t.1 (vs.getD t.2.2.1.toNat 0) (vs.getD t.2.2.2.toNat 0)
def evs (st:List Int):List Tm→List Int→List Int
 | [],vs=>vs
 | t::l,vs=>evs st l (vs++[ev1 st t vs])
def evl (l:List Tm) (st:List Int):Int:=(evs st l []).getD (l.length - 1) 0
def KV (ks vs:List Int):Prop:=ks.length=vs.length∧∀j,j<vs.length→Bd4 (vs.getD j 0)∧(ks.getD j 0=2→Bit (vs.getD j 0))
def Bds (st:List Int):Prop:=∀j,j<st.length→Bd4 (st.getD j 0)
theorem ZhG {l:List Int} {x:Int} {j:Nat}:(l++[x]).getD j 0=if j<l.length then l.getD j 0 else if j=l.length then x else 0:=by
 simp only [List.getD_eq_getElem?_getD,List.getElem?_append]
 by_cases h1:j<l.length
 ·simp [h1]
 ·by_cases h2:j=l.length
  ·simp [h2]
  ·have:(j - l.length)≠0:=by omega
   simp [h1,h2,List.getElem?_singleton,this]
theorem ZhH {p:Prop} [Decidable p] {x:Int} (h:(if p then x else 0)≠0):p:=Classical.byContradiction fun hn=>h (if_neg hn)
theorem ZhI {t:Tm} {ks:List Int} {vars:Int} (h:kd t ks vars≠0):(t.1=0∧Bd4 t.2.1)∨(t.1=1∧0≤t.2.1∧t.2.1<vars) ∨
  ((2≤t.1∧t.1≤9)∧(0≤t.2.2.1∧t.2.2.1<ks.length)∧(0≤t.2.2.2∧t.2.2.2<ks.length)∧(7≤t.1→ks.getD t.2.2.1.toNat 0=2∧ks.getD t.2.2.2.toNat 0=2)):=by
 unfold kd at h
 split at h
 ·rename_i h0
  split at h
  ·rename_i h1;exact .inl ⟨h0,h1.1,h1.2.1⟩
  ·exact absurd rfl h
 ·split at h
  ·rename_i h0
   split at h
   ·rename_i h1;exact .inr (.inl ⟨h0,h1.1,by omega⟩)
   ·exact absurd rfl h
  ·obtain ⟨a1,a2,a3,a4,a5,a6,a7,a8⟩:=ZhH h
   exact .inr (.inr ⟨⟨a1,a2⟩,a4,a5,fun h7=>by rw [if_pos h7] at a6 a7;exact ⟨a6,a7⟩⟩)
theorem KV.args {ks vs st:List Int} {t:Tm} (hkv:KV ks vs) (h:(2≤t.1∧t.1≤9)∧(0≤t.2.2.1∧t.2.2.1<ks.length)∧(0≤t.2.2.2∧t.2.2.2<ks.length)∧(7≤t.1→ks.getD t.2.2.1.toNat 0=2∧ks.getD t.2.2.2.toNat 0=2)) :
  Bd4 (vs.getD t.2.2.1.toNat 0)∧Bd4 (vs.getD t.2.2.2.toNat 0)∧(7≤t.1→Bit (vs.getD t.2.2.1.toNat 0)∧Bit (vs.getD t.2.2.2.toNat 0)):=by
 obtain ⟨h1,h2,h3,h4⟩:=h
 have hl:=hkv.1
 have g1:=hkv.2 t.2.2.1.toNat (by omega)
 have g2:=hkv.2 t.2.2.2.toNat (by omega)
 exact ⟨g1.1,g2.1,fun h7=>⟨g1.2 (h4 h7).1,g2.2 (h4 h7).2⟩⟩
theorem KV.next {ks vs st:List Int} {t:Tm} {vars:Int} (hkv:KV ks vs) (hst:Bds st) (hv:vars=st.length) (h:kd t ks vars≠0):KV (ks++[kd t ks vars]) (vs++[ev1 st t vs]):=by
 have hk:=Zh0 h
 have hlen:=hkv.1
 refine ⟨by simp [hkv.1],fun j hj=>?_⟩
 simp only [List.length_append,List.length_cons,List.length_nil,Nat.zero_add] at hj
 rw [ZhG,ZhG,hkv.1]
 by_cases h1:j<vs.length
 ·rw [if_pos h1,if_pos h1];exact hkv.2 j h1
 ·have h2:j=vs.length:=by omega
  rw [if_neg h1,if_neg h1,if_pos h2,if_pos h2,hk]
  rcases ZhI h with ⟨e,h3⟩ | ⟨e,h3,h4⟩ | h3
  ·unfold ev1;rw [if_pos e];exact ⟨h3,by intro h;rw [if_neg (by omega)] at h;omega⟩
  ·unfold ev1;rw [if_neg (by omega),if_pos e];exact ⟨hst _ (by omega),by intro h;rw [if_neg (by omega)] at h;omega⟩
  ·obtain ⟨a1,a2,a3⟩:=hkv.args (st:=st) h3
   unfold ev1;rw [if_neg (by omega),if_neg (by omega)]
   exact ⟨ZhE a1 a2 a3,fun h5=>ZhF (by split at h5<;>omega) a3⟩
theorem ZhJ {st:List Int}:∀{l:List Tm} {vs:List Int},(evs st l vs).length=vs.length+l.length
 | [],vs=>by simp [evs]
 | t::l,vs=>by simp only [evs,ZhJ,List.length_append,List.length_cons,List.length_nil];omega
theorem KV.nil:KV [] []:=⟨rfl,fun j hj=>absurd hj (Nat.not_lt_zero _)⟩
theorem ZhK {l:List Tm} {vars:Int} (h:kf l vars≠0):∃o,kds vars l []=some o∧(1≤l.length∧l.length≤40)∧kf l vars=o.getD (l.length - 1) 0:=by
 unfold kf Zh1 at h ⊢
 split at h
 ·rename_i h1
  rw [if_pos h1]
  cases ho:kds vars l [] with
  | none=>rw [ho] at h;exact absurd rfl h
  | some o =>
   refine ⟨o,rfl,h1.2,?_⟩
   have:=Zh2 ho
   simp only [List.length_nil,Nat.zero_add] at this
   rw [Option.getD_some,List.getLastD_eq_getLast?,List.getLast?_eq_getElem?,this]
   rfl
 ·exact absurd rfl h
theorem ZhL (l:List Tm) (st:List Int) (vars:Int) (h:kf l vars≠0) (hst:Bds st) (hv:vars=st.length) (Q:List AV→Prop):mc.C Zbn [⟨L T4,l⟩,⟨L I,st⟩] Q=Q [⟨L I,evs st l []⟩]:=by
 obtain ⟨o,h1,h2,h3⟩:=ZhK h
 refine Mc.Ends.c (mc.ends Zff ?_)
 simp+contextual(maxSteps:=1000000)(disch:=omega)only[↓Sd,↓So,↓Sk,↓den,↓Z0,Sa,Sb,Sc,Se,O1.d,O2.d,O3.d,cmI,arI,Z1,Z2,↓reduceIte,Nat.reduceLT,Nat.reduceSub,Nat.reduceAdd,Int.reduceAdd,Int.reduceEq,Int.reduceLT,Int.reduceLE,ZD,ZE,Zdk]
 refine mc.lp_for (List Int) (fun i vs=>[⟨L T4,l⟩,⟨L I,st⟩,⟨I,(i:Int)⟩,⟨L I,vs⟩]) (fun i vs=>vs.length=i∧evs st (l.drop i) vs=evs st l []∧∃ks,KV ks vs∧kds vars (l.drop i) ks=some o) l.length 0 [] _ rfl (Nat.zero_le _) ⟨rfl,rfl,[],KV.nil,h1⟩ ?_ ?_
 ·rintro i vs hi ⟨hl,hs,ks,hkv,hk⟩
  rw [Zh3 (d:=(0,0,0,0)) hi] at hs hk
  simp only [evs,kds] at hs hk
  split at hk
  ·cases hk
  rename_i h0
  have hn:=hkv.next hst hv h0
  have ha:=ZhI h0
  have hkl:=hkv.1
  obtain ⟨t,ht⟩:∃t,l.getD i (0,0,0,0)=t:=⟨_,rfl⟩
  rw [ht] at hs hk h0 hn ha
  have hvs:(vs.length:Int)≤40:=by omega
  simp+contextual(maxSteps:=1000000)(disch:=omega)only[↓Sd,↓So,↓Sk,↓den,↓Z0,Sa,Sb,Sc,Se,O1.d,O2.d,O3.d,cmI,arI,Z1,Z2,↓reduceIte,Nat.reduceLT,Nat.reduceSub,Nat.reduceAdd,Int.reduceAdd,Int.reduceEq,Int.reduceLT,Int.reduceLE,ZD,ZE,]
  refine mc.wp_join (fun us=>us=[⟨L T4,l⟩,⟨L I,st⟩,⟨I,(i:Int)⟩,⟨L I,vs++[ev1 st t vs]⟩]) ?_ ?_
  ·rcases ha with ⟨e,h3⟩ | ⟨e,h3,h4⟩ | h3
   ·simp+contextual(maxSteps:=1000000)(disch:=omega)only[↓Sd,↓So,↓Sk,↓den,↓Z0,Sa,Sb,Sc,Se,O1.d,O2.d,O3.d,cmI,arI,Z1,Z2,↓reduceIte,Nat.reduceLT,Nat.reduceSub,Nat.reduceAdd,Int.reduceAdd,Int.reduceEq,Int.reduceLT,Int.reduceLE,ZD,ZE,ht,e,ev1]
   ·have e':¬t.1=0:=by omega
    simp+contextual(maxSteps:=1000000)(disch:=omega)only[↓Sd,↓So,↓Sk,↓den,↓Z0,Sa,Sb,Sc,Se,O1.d,O2.d,O3.d,cmI,arI,Z1,Z2,↓reduceIte,Nat.reduceLT,Nat.reduceSub,Nat.reduceAdd,Int.reduceAdd,Int.reduceEq,Int.reduceLT,Int.reduceLE,ZD,ZE,ht,e,ev1]
   ·obtain ⟨a1,a2,a3⟩:=hkv.args (st:=st) h3
    have e1:¬t.1=0:=by omega
    have e2:¬t.1=1:=by omega
    simp+contextual(maxSteps:=1000000)(disch:=omega)only[↓Sd,↓So,↓Sk,↓den,↓Z0,Sa,Sb,Sc,Se,O1.d,O2.d,O3.d,cmI,arI,Z1,Z2,↓reduceIte,Nat.reduceLT,Nat.reduceSub,Nat.reduceAdd,Int.reduceAdd,Int.reduceEq,Int.reduceLT,Int.reduceLE,ZD,ZE,ht,e1,e2,ev1,ZhC _ _ _ a1 a2]
  ·rintro _ rfl
   simp+contextual(maxSteps:=1000000)(disch:=omega)only[↓Sd,↓So,↓Sk,↓den,↓Z0,Sa,Sb,Sc,Se,O1.d,O2.d,O3.d,cmI,arI,Z1,Z2,↓reduceIte,Nat.reduceLT,Nat.reduceSub,Nat.reduceAdd,Int.reduceAdd,Int.reduceEq,Int.reduceLT,Int.reduceLE,ZD,ZE,]
   exact ⟨by simp [hl],hs,_,hn,hk⟩
 ·rintro vs ⟨hl,hs,-⟩
  simp+contextual(maxSteps:=1000000)(disch:=omega)only[↓Sd,↓So,↓Sk,↓den,↓Z0,Sa,Sb,Sc,Se,O1.d,O2.d,O3.d,cmI,arI,Z1,Z2,↓reduceIte,Nat.reduceLT,Nat.reduceSub,Nat.reduceAdd,Int.reduceAdd,Int.reduceEq,Int.reduceLT,Int.reduceLE,ZD,ZE,]
  rw [List.drop_length] at hs
  exact hs
theorem ZhM (l:List Tm) (st:List Int) (vars:Int) (h:kf l vars≠0) (hst:Bds st) (hv:vars=st.length) (Q:List AV→Prop):mc.C Zbo [⟨L T4,l⟩,⟨L I,st⟩] Q=Q [⟨I,evl l st⟩]:=by
 obtain ⟨o,h1,h2,h3⟩:=ZhK h
 have hlen:(evs st l []).length=l.length:=by rw [ZhJ];simp
 refine Mc.Ends.c (mc.ends Zfg ?_)
 simp+contextual(maxSteps:=1000000)(disch:=omega)only[↓Sd,↓So,↓Sk,↓den,↓Z0,Sa,Sb,Sc,Se,O1.d,O2.d,O3.d,cmI,arI,Z1,Z2,↓reduceIte,Nat.reduceLT,Nat.reduceSub,Nat.reduceAdd,Int.reduceAdd,Int.reduceEq,Int.reduceLT,Int.reduceLE,ZD,ZE,Zdl,ZhL l st vars h hst hv]
 rfl
theorem ZhN {l:List Int} {k j:Nat}:(l++List.replicate k 0).getD j 0=l.getD j 0:=by
 simp only [List.getD_eq_getElem?_getD,List.getElem?_append]
 by_cases h1:j<l.length
 ·simp [h1]
 ·simp only [h1,if_false]
  rw [List.getElem?_eq_none (by omega:l.length≤j),List.getElem?_replicate]
  split<;>rfl
theorem ZhO {α:Type} {l:List α} {k:Nat} {x z:α}:(l++List.replicate (k+1) z).set l.length x=(l++[x])++List.replicate k z:=by
 rw [List.set_append_right _ _ (Nat.le_refl _),Nat.sub_self,List.replicate_succ,List.set_cons_zero,List.append_assoc];rfl
theorem ZhP {n i:Nat} (h:i<n):n - i=(n - (i+1))+1:=by omega
theorem ZhQ (l:List Tm) (st:List Int) (vars:Int) (h:kf l vars≠0) (hst:Bds st) (hv:vars=st.length) (Q:List AV→Prop):mc.C ZbY [⟨L T4,l⟩,⟨L I,st⟩] Q=Q [⟨I,evl l st⟩]:=by
 obtain ⟨o,h1,h2,h3⟩:=ZhK h
 refine Mc.Ends.c (mc.ends ZfQ ?_)
 simp+contextual(maxSteps:=1000000)(disch:=omega)only[↓Sd,↓So,↓Sk,↓den,↓Z0,Sa,Sb,Sc,Se,O1.d,O2.d,O3.d,cmI,arI,Z1,Z2,↓reduceIte,Nat.reduceLT,Nat.reduceSub,Nat.reduceAdd,Int.reduceAdd,Int.reduceEq,Int.reduceLT,Int.reduceLE,ZD,ZE,ZdV]
 refine mc.lp_for (List Int) (fun i vs=>[⟨L I,st⟩,⟨L T4,l⟩,⟨I,(l.length:Int)⟩,⟨I,(i:Int)⟩,⟨L I,vs++List.replicate (l.length - i) 0⟩]) (fun i vs=>vs.length=i∧evs st (l.drop i) vs=evs st l []∧∃ks,KV ks vs∧kds vars (l.drop i) ks=some o) l.length 0 [] _ rfl (Nat.zero_le _) ⟨rfl,rfl,[],KV.nil,h1⟩ ?_ ?_
 ·rintro i vs hi ⟨hl,hs,ks,hkv,hk⟩
  rw [Zh3 (d:=(0,0,0,0)) hi] at hs hk
  simp only [evs,kds] at hs hk
  split at hk
  ·cases hk
  rename_i h0
  have hn:=hkv.next hst hv h0
  have ha:=ZhI h0
  have hkl:=hkv.1
  obtain ⟨t,ht⟩:∃t,l.getD i (0,0,0,0)=t:=⟨_,rfl⟩
  rw [ht] at hs hk h0 hn ha
  have hvs:(vs.length:Int)≤40:=by omega
  have hlen:(vs++List.replicate (l.length - i) (0:Int)).length=l.length:=by simp;omega
  have hset:∀x:Int,(vs++List.replicate (l.length - i) 0).set i x=(vs++[x])++List.replicate (l.length - (i+1)) 0:=by
   intro x;subst hl;rw [ZhP hi,ZhO]
  simp+contextual(maxSteps:=1000000)(disch:=omega)only[↓Sd,↓So,↓Sk,↓den,↓Z0,Sa,Sb,Sc,Se,O1.d,O2.d,O3.d,cmI,arI,Z1,Z2,↓reduceIte,Nat.reduceLT,Nat.reduceSub,Nat.reduceAdd,Int.reduceAdd,Int.reduceEq,Int.reduceLT,Int.reduceLE,ZD,ZE,]
  refine mc.wp_join (fun us=>us=[⟨L I,st⟩,⟨L T4,l⟩,⟨I,(l.length:Int)⟩,⟨I,(i:Int)⟩,⟨L I,(vs++[ev1 st t vs])++List.replicate (l.length - (i+1)) 0⟩]) ?_ ?_
  ·rcases ha with ⟨e,h3⟩ | ⟨e,h3,h4⟩ | h3
   ·simp+contextual(maxSteps:=1000000)(disch:=omega)only[↓Sd,↓So,↓Sk,↓den,↓Z0,Sa,Sb,Sc,Se,O1.d,O2.d,O3.d,cmI,arI,Z1,Z2,↓reduceIte,Nat.reduceLT,Nat.reduceSub,Nat.reduceAdd,Int.reduceAdd,Int.reduceEq,Int.reduceLT,Int.reduceLE,ZD,ZE,ht,e,ev1,hlen,hset]
   ·have e':¬t.1=0:=by omega
    simp+contextual(maxSteps:=1000000)(disch:=omega)only[↓Sd,↓So,↓Sk,↓den,↓Z0,Sa,Sb,Sc,Se,O1.d,O2.d,O3.d,cmI,arI,Z1,Z2,↓reduceIte,Nat.reduceLT,Nat.reduceSub,Nat.reduceAdd,Int.reduceAdd,Int.reduceEq,Int.reduceLT,Int.reduceLE,ZD,ZE,ht,e,ev1,hlen,hset]
   ·obtain ⟨a1,a2,a3⟩:=hkv.args (st:=st) h3
    have e1:¬t.1=0:=by omega
    have e2:¬t.1=1:=by omega
    simp+contextual(maxSteps:=1000000)(disch:=omega)only[↓Sd,↓So,↓Sk,↓den,↓Z0,Sa,Sb,Sc,Se,O1.d,O2.d,O3.d,cmI,arI,Z1,Z2,↓reduceIte,Nat.reduceLT,Nat.reduceSub,Nat.reduceAdd,Int.reduceAdd,Int.reduceEq,Int.reduceLT,Int.reduceLE,ZD,ZE,ht,e1,e2,ev1,hlen,hset,ZhN,ZhD _ _ _ a1 a2 h3.1 fun h=>a3 (by omega)]
  ·rintro _ rfl
   simp+contextual(maxSteps:=1000000)(disch:=omega)only[↓Sd,↓So,↓Sk,↓den,↓Z0,Sa,Sb,Sc,Se,O1.d,O2.d,O3.d,cmI,arI,Z1,Z2,↓reduceIte,Nat.reduceLT,Nat.reduceSub,Nat.reduceAdd,Int.reduceAdd,Int.reduceEq,Int.reduceLT,Int.reduceLE,ZD,ZE,]
   exact ⟨_,rfl,by simp [hl],hs,_,hn,hk⟩
 ·rintro vs ⟨hl,hs,-⟩
  rw [List.drop_length] at hs
  simp only [evs] at hs
  subst hs
  rw [Nat.sub_self,List.replicate_zero,List.append_nil]
  simp+contextual(maxSteps:=1000000)(disch:=omega)only[↓Sd,↓So,↓Sk,↓den,↓Z0,Sa,Sb,Sc,Se,O1.d,O2.d,O3.d,cmI,arI,Z1,Z2,↓reduceIte,Nat.reduceLT,Nat.reduceSub,Nat.reduceAdd,Int.reduceAdd,Int.reduceEq,Int.reduceLT,Int.reduceLE,ZD,ZE,]
  rw [hl];rfl
def inR (vs:List Vr) (st:List Int):Prop:=st.length=vs.length∧∀i,i<vs.length→(vs.getD i (0,0,0)).1≤st.getD i 0∧st.getD i 0≤(vs.getD i (0,0,0)).2.1
instance (vs : List Vr) (st : List Int) : Decidable (inR vs st) := by unfold inR; infer_instance
theorem inR.bds {vs:List Vr} {st:List Int} (h:inR vs st) (hv:∀v∈vs,vOk v):Bds st:=by
 intro j hj
 have h1:=h.2 j (by rw [←h.1];exact hj)
 have h2:=hv _ (ZH (d:=(0,0,0)) (by rw [←h.1];exact hj))
 unfold vOk at h2
 unfold Bd4
 omega
theorem ZhR (s:Sy) (st:List Int) (h5:s.1.length≤5) (hl:st.length≤1048576) (Q:List AV→Prop):mc.C Zbp [⟨L V3,s.1⟩,⟨L TR,s.2⟩,⟨L I,st⟩] Q=Q [⟨B,decide (inR s.1 st)⟩]:=by
 refine Mc.Ends.c (mc.ends Zfh ?_)
 generalize hK:decide (inR s.1 st)=K
 simp+contextual(maxSteps:=1000000)(disch:=omega)only[↓Sd,↓So,↓Sk,↓den,↓Z0,Sa,Sb,Sc,Se,O1.d,O2.d,O3.d,cmI,arI,Z1,Z2,↓reduceIte,Nat.reduceLT,Nat.reduceSub,Nat.reduceAdd,Int.reduceAdd,Int.reduceEq,Int.reduceLT,Int.reduceLE,ZD,ZE,Zdm]
 refine ⟨fun g=>?_,fun g1=>?_⟩
 ·rw [←hK,decide_eq_false];exact fun h=>g (by rw [h.1])
 refine ZgT (fun i=>[⟨L I,st⟩,⟨I,(i:Int)⟩,⟨L V3,s.1⟩,⟨L TR,s.2⟩]) (fun i=>(s.1.getD i (0,0,0)).1≤st.getD i 0∧st.getD i 0≤(s.1.getD i (0,0,0)).2.1) s.1.length _ rfl ?_ ?_
 ·intro i hi
  have hno:¬((s.1.getD i (0,0,0)).1≤st.getD i 0∧st.getD i 0≤(s.1.getD i (0,0,0)).2.1)→false=K:=fun h=>by rw [←hK,decide_eq_false];exact fun h1=>h (h1.2 i hi)
  simp+contextual(maxSteps:=1000000)(disch:=omega)only[↓Sd,↓So,↓Sk,↓den,↓Z0,Sa,Sb,Sc,Se,O1.d,O2.d,O3.d,cmI,arI,Z1,Z2,↓reduceIte,Nat.reduceLT,Nat.reduceSub,Nat.reduceAdd,Int.reduceAdd,Int.reduceEq,Int.reduceLT,Int.reduceLE,ZD,ZE,ZgX]
  exact hno
 ·intro h
  simp+contextual(maxSteps:=1000000)(disch:=omega)only[↓Sd,↓So,↓Sk,↓den,↓Z0,Sa,Sb,Sc,Se,O1.d,O2.d,O3.d,cmI,arI,Z1,Z2,↓reduceIte,Nat.reduceLT,Nat.reduceSub,Nat.reduceAdd,Int.reduceAdd,Int.reduceEq,Int.reduceLT,Int.reduceLE,ZD,ZE,]
  rw [←hK,decide_eq_true];exact ⟨by omega,h⟩
theorem ZhS (s:Sy) (st:List Int) (h5:s.1.length≤5) (hl:st.length≤1048576) (Q:List AV→Prop):mc.C Zb_ [⟨L V3,s.1⟩,⟨L TR,s.2⟩,⟨L I,st⟩] Q=Q [⟨B,decide (inR s.1 st)⟩]:=by
 refine Mc.Ends.c (mc.ends ZfS ?_)
 generalize hK:decide (inR s.1 st)=K
 simp+contextual(maxSteps:=1000000)(disch:=omega)only[↓Sd,↓So,↓Sk,↓den,↓Z0,Sa,Sb,Sc,Se,O1.d,O2.d,O3.d,cmI,arI,Z1,Z2,↓reduceIte,Nat.reduceLT,Nat.reduceSub,Nat.reduceAdd,Int.reduceAdd,Int.reduceEq,Int.reduceLT,Int.reduceLE,ZD,ZE,ZdX]
 refine ⟨fun g=>?_,fun g1=>?_⟩
 ·rw [←hK,decide_eq_false];exact fun h=>g (by rw [h.1])
 refine ZgT (fun i=>[⟨L I,st⟩,⟨L V3,s.1⟩,⟨I,(s.1.length:Int)⟩,⟨I,(i:Int)⟩]) (fun i=>(s.1.getD i (0,0,0)).1≤st.getD i 0∧st.getD i 0≤(s.1.getD i (0,0,0)).2.1) s.1.length _ rfl ?_ ?_
 ·intro i hi
  have hno:¬((s.1.getD i (0,0,0)).1≤st.getD i 0∧st.getD i 0≤(s.1.getD i (0,0,0)).2.1)→false=K:=fun h=>by rw [←hK,decide_eq_false];exact fun h1=>h (h1.2 i hi)
  simp+contextual(maxSteps:=1000000)(disch:=omega)only[↓Sd,↓So,↓Sk,↓den,↓Z0,Sa,Sb,Sc,Se,O1.d,O2.d,O3.d,cmI,arI,Z1,Z2,↓reduceIte,Nat.reduceLT,Nat.reduceSub,Nat.reduceAdd,Int.reduceAdd,Int.reduceEq,Int.reduceLT,Int.reduceLE,ZD,ZE,ZgY]
  exact hno
 ·intro h
  simp+contextual(maxSteps:=1000000)(disch:=omega)only[↓Sd,↓So,↓Sk,↓den,↓Z0,Sa,Sb,Sc,Se,O1.d,O2.d,O3.d,cmI,arI,Z1,Z2,↓reduceIte,Nat.reduceLT,Nat.reduceSub,Nat.reduceAdd,Int.reduceAdd,Int.reduceEq,Int.reduceLT,Int.reduceLE,ZD,ZE,]
  rw [←hK,decide_eq_true];exact ⟨by omega,h⟩
theorem ZhT {α:Type} {l:List α} {z:α}:Z00 (List.replicate l.length z) l=l:=by
 unfold Z00
 simp
theorem ZhU (l:List Int) (hl:l.length≤1048576) (Q:List AV→Prop):mc.C ZbZ [⟨L I,l⟩] Q=Q [⟨L I,l⟩]:=by
 refine Mc.Ends.c (mc.ends ZfR ?_)
 simp+contextual(maxSteps:=1000000)(disch:=omega)only[↓Sd,↓So,↓Sk,↓den,↓Z0,Sa,Sb,Sc,Se,O1.d,O2.d,O3.d,cmI,arI,Z1,Z2,↓reduceIte,Nat.reduceLT,Nat.reduceSub,Nat.reduceAdd,Int.reduceAdd,Int.reduceEq,Int.reduceLT,Int.reduceLE,ZD,ZE,ZdW,ZhT]
 intro h
 exact (List.eq_nil_of_length_eq_zero (by omega)).symm
def upR (r:Ru) (st:List Int) (n:Nat):List Int:=(List.range n).foldl (fun o i=>o.set (r.2.1.getD i 0).toNat (evl (r.2.2.getD i []) st)) st
def ZhV (vs:List Vr) (r:Ru) (st:List Int):List Int:=if evl r.1 st=0 then [] else if inR vs (upR r st r.2.1.length) then upR r st r.2.1.length else []
theorem upR_next {r:Ru} {st:List Int} {n:Nat}:upR r st (n+1)=(upR r st n).set (r.2.1.getD n 0).toNat (evl (r.2.2.getD n []) st):=by
 unfold upR;rw [List.range_succ,List.foldl_append];rfl
theorem ZhW {r:Ru} {st:List Int}:∀{n:Nat},(upR r st n).length=st.length
 | 0=>rfl
 | n+1=>by rw [upR_next,List.length_set,ZhW]
theorem ZhX {vs:List Vr} {r:Ru} {st:List Int} (h:ZhV vs r st≠[]):inR vs (ZhV vs r st):=by
 unfold ZhV at h ⊢
 split
 ·rename_i h1;rw [if_pos h1] at h;exact absurd rfl h
 ·rename_i h1
  rw [if_neg h1] at h
  split
  ·rename_i h2;exact h2
  ·rename_i h2;rw [if_neg h2] at h;exact absurd rfl h
theorem ZhY {α:Type} {l:List α} {i:Nat} {d:α} (h:i<l.length):l.take i++[l.getD i d]=l.take (i+1):=by
 rw [getD_lt h,List.take_append_getElem h]
theorem ZhZ (s:Sy) (st:List Int) (k:Nat) (h:valid s) (hst:inR s.1 st) (hk:k<s.2.length) (Q:List AV→Prop):mc.C Zbq [⟨L V3,s.1⟩,⟨L TR,s.2⟩,⟨L I,st⟩,⟨I,(k:Int)⟩] Q=Q [⟨L I,ZhV s.1 (s.2.getD k ([],[],[])) st⟩]:=by
 obtain ⟨⟨g0,g1⟩,g2,g3,g4,g5⟩:=h
 have hb:=hst.bds g3
 have hl:=hst.1
 have hr:=g4 _ (ZH (d:=([],[],[])) hk)
 refine Mc.Ends.c (mc.ends Zfi ?_)
 generalize hK:ZhV s.1 (s.2.getD k ([],[],[])) st=K
 generalize ht:s.2.getD k ([],[],[])=r at hK hr
 obtain ⟨e1,e2,e3⟩:=hr
 have hf:=Zhh e3
 simp+contextual(maxSteps:=1000000)(disch:=omega)only[↓Sd,↓So,↓Sk,↓den,↓Z0,Sa,Sb,Sc,Se,O1.d,O2.d,O3.d,cmI,arI,Z1,Z2,↓reduceIte,Nat.reduceLT,Nat.reduceSub,Nat.reduceAdd,Int.reduceAdd,Int.reduceEq,Int.reduceLT,Int.reduceLE,ZD,ZE,Zdn,ht,ZhM r.1 st s.1.length (by omega) hb (by omega)]
 refine ⟨fun g=>by rw [←hK,ZhV,if_pos g],fun g=>?_⟩
 refine mc.lp_for (List Int) (fun i o=>[⟨L I,st⟩,⟨I,(i:Int)⟩,⟨L V3,s.1⟩,⟨L TR,s.2⟩,⟨L T4,r.1⟩,⟨L I,r.2.1⟩,⟨L (L T4),r.2.2⟩,⟨L I,o⟩]) (fun i o=>o=st.take i) st.length 0 [] _ rfl (Nat.zero_le _) rfl ?_ ?_
 ·rintro i o hi rfl
  have h1:((st.take i).length:Int)≤5:=by rw [List.length_take];omega
  simp+contextual(maxSteps:=1000000)(disch:=omega)only[↓Sd,↓So,↓Sk,↓den,↓Z0,Sa,Sb,Sc,Se,O1.d,O2.d,O3.d,cmI,arI,Z1,Z2,↓reduceIte,Nat.reduceLT,Nat.reduceSub,Nat.reduceAdd,Int.reduceAdd,Int.reduceEq,Int.reduceLT,Int.reduceLE,ZD,ZE,]
  exact ZhY hi
 rintro o rfl
 rw [List.take_length]
 simp+contextual(maxSteps:=1000000)(disch:=omega)only[↓Sd,↓So,↓Sk,↓den,↓Z0,Sa,Sb,Sc,Se,O1.d,O2.d,O3.d,cmI,arI,Z1,Z2,↓reduceIte,Nat.reduceLT,Nat.reduceSub,Nat.reduceAdd,Int.reduceAdd,Int.reduceEq,Int.reduceLT,Int.reduceLE,ZD,ZE,]
 refine mc.lp_for (List Int) (fun i o=>[⟨L I,st⟩,⟨I,(i:Int)⟩,⟨L V3,s.1⟩,⟨L TR,s.2⟩,⟨L T4,r.1⟩,⟨L I,r.2.1⟩,⟨L (L T4),r.2.2⟩,⟨L I,o⟩]) (fun i o=>o=upR r st i) r.2.1.length 0 st _ rfl (Nat.zero_le _) rfl ?_ ?_
 ·rintro i o hi rfl
  obtain ⟨e4,e5,e6⟩:=e3 i hi
  have h1:((upR r st i).length:Int)=s.1.length:=by rw [ZhW];omega
  simp+contextual(maxSteps:=1000000)(disch:=omega)only[↓Sd,↓So,↓Sk,↓den,↓Z0,Sa,Sb,Sc,Se,O1.d,O2.d,O3.d,cmI,arI,Z1,Z2,↓reduceIte,Nat.reduceLT,Nat.reduceSub,Nat.reduceAdd,Int.reduceAdd,Int.reduceEq,Int.reduceLT,Int.reduceLE,ZD,ZE,ZhM (r.2.2.getD i []) st s.1.length (by omega) hb (by omega)]
  exact upR_next.symm
 rintro o rfl
 simp+contextual(maxSteps:=1000000)(disch:=omega)only[↓Sd,↓So,↓Sk,↓den,↓Z0,Sa,Sb,Sc,Se,O1.d,O2.d,O3.d,cmI,arI,Z1,Z2,↓reduceIte,Nat.reduceLT,Nat.reduceSub,Nat.reduceAdd,Int.reduceAdd,Int.reduceEq,Int.reduceLT,Int.reduceLE,ZD,ZE,ZhR s (upR r st r.2.1.length) g1 (by rw [ZhW];omega)]
 rw [←hK,ZhV,if_neg g]
 exact ⟨fun h=>by rw [if_neg h],fun h=>by rw [if_pos h]⟩
theorem Zh_ (s:Sy) (st:List Int) (k:Nat) (h:valid s) (hst:inR s.1 st) (hk:k<s.2.length) (Q:List AV→Prop):mc.C Zc0 [⟨L V3,s.1⟩,⟨L TR,s.2⟩,⟨L I,st⟩,⟨I,(k:Int)⟩] Q=Q [⟨L I,ZhV s.1 (s.2.getD k ([],[],[])) st⟩,⟨B,decide (ZhV s.1 (s.2.getD k ([],[],[])) st≠[])⟩]:=by
 obtain ⟨⟨g0,g1⟩,g2,g3,g4,g5⟩:=h
 have hb:=hst.bds g3
 have hl:=hst.1
 have hr:=g4 _ (ZH (d:=([],[],[])) hk)
 refine Mc.Ends.c (mc.ends ZfT ?_)
 generalize hK:ZhV s.1 (s.2.getD k ([],[],[])) st=K
 generalize ht:s.2.getD k ([],[],[])=r at hK hr
 obtain ⟨e1,e2,e3⟩:=hr
 have hf:=Zhh e3
 simp+contextual(maxSteps:=1000000)(disch:=omega)only[↓Sd,↓So,↓Sk,↓den,↓Z0,Sa,Sb,Sc,Se,O1.d,O2.d,O3.d,cmI,arI,Z1,Z2,↓reduceIte,Nat.reduceLT,Nat.reduceSub,Nat.reduceAdd,Int.reduceAdd,Int.reduceEq,Int.reduceLT,Int.reduceLE,ZD,ZE,ZdY,ht,ZhQ r.1 st s.1.length (by omega) hb (by omega),ZhU st (by omega)]
 refine ⟨fun g=>by rw [←hK,ZhV,if_pos g];simp,fun g=>?_⟩
 refine mc.lp_for (List Int) (fun i o=>[⟨L I,st⟩,⟨L I,r.2.1⟩,⟨I,(r.2.1.length:Int)⟩,⟨I,(i:Int)⟩,⟨L V3,s.1⟩,⟨L TR,s.2⟩,⟨L T4,r.1⟩,⟨L I,r.2.1⟩,⟨L (L T4),r.2.2⟩,⟨L I,o⟩]) (fun i o=>o=upR r st i) r.2.1.length 0 st _ rfl (Nat.zero_le _) rfl ?_ ?_
 ·rintro i o hi rfl
  obtain ⟨e4,e5,e6⟩:=e3 i hi
  have h1:((upR r st i).length:Int)=s.1.length:=by rw [ZhW];omega
  simp+contextual(maxSteps:=1000000)(disch:=omega)only[↓Sd,↓So,↓Sk,↓den,↓Z0,Sa,Sb,Sc,Se,O1.d,O2.d,O3.d,cmI,arI,Z1,Z2,↓reduceIte,Nat.reduceLT,Nat.reduceSub,Nat.reduceAdd,Int.reduceAdd,Int.reduceEq,Int.reduceLT,Int.reduceLE,ZD,ZE,ZhQ (r.2.2.getD i []) st s.1.length (by omega) hb (by omega)]
  exact upR_next.symm
 rintro o rfl
 simp+contextual(maxSteps:=1000000)(disch:=omega)only[↓Sd,↓So,↓Sk,↓den,↓Z0,Sa,Sb,Sc,Se,O1.d,O2.d,O3.d,cmI,arI,Z1,Z2,↓reduceIte,Nat.reduceLT,Nat.reduceSub,Nat.reduceAdd,Int.reduceAdd,Int.reduceEq,Int.reduceLT,Int.reduceLE,ZD,ZE,ZhS s (upR r st r.2.1.length) g1 (by rw [ZhW];omega)]
 rw [←hK,ZhV,if_neg g]
 refine ⟨fun h=>by rw [if_neg h];simp,fun h=>?_⟩
 rw [if_pos h]
 have h1:(upR r st r.2.1.length).length=st.length:=ZhW
 refine ⟨rfl,?_⟩
 rw [eq_comm,decide_eq_true]
 intro h2
 rw [h2] at h1
 simp at h1
 omega
def cmpL:List Int→List Int→Int
 | [],[]=>0
 | [],_::_ => -1
 | _::_,[]=>1
 | a::l,b::m=>if a<b then -1 else if a > b then 1 else cmpL l m
theorem Zi0:∀l:List Int,cmpL l l=0
 | []=>rfl
 | a::l=>by simp only [cmpL];rw [if_neg (by omega),if_neg (by omega)];exact Zi0 l
theorem cmpL_eq:∀{l m:List Int},cmpL l m=0→l=m
 | [],[],_=>rfl
 | [],_::_,h=>by simp [cmpL] at h
 | _::_,[],h=>by simp [cmpL] at h
 | a::l,b::m,h=>by
  simp only [cmpL] at h
  split at h
  ·omega
  ·split at h
   ·omega
   ·rw [show a=b by omega,cmpL_eq h]
theorem Zi1 : ∀ {l m : List Int}, cmpL m l = - cmpL l m
 | [],[]=>rfl
 | [],_::_=>rfl
 | _::_,[]=>rfl
 | a::l,b::m=>by
  simp only [cmpL]
  by_cases h1:a<b
  ·rw [if_pos h1,if_neg (by omega),if_pos h1];rfl
  ·by_cases h2:a > b
   ·have h3:b<a:=h2
    have h4:¬b > a:=h1
    simp only [h1,h2,h3,h4,if_true,if_false]
   ·rw [if_neg h1,if_neg h2,if_neg (by omega),if_neg (by omega)];exact Zi1
theorem Zi2:∀{l m k:List Int},cmpL l m<0→cmpL m k<0→cmpL l k<0
 | [],[],_,h,_=>by simp [cmpL] at h
 | [],_::_,[],_,h=>by simp [cmpL] at h
 | [],_::_,_::_,_,_=>by simp [cmpL]
 | _::_,[],_,h,_=>by simp [cmpL] at h
 | _::_,_::_,[],_,h=>by simp [cmpL] at h
 | a::l,b::m,c::k,h1,h2=>by
  simp only [cmpL] at h1 h2 ⊢
  by_cases a1:a<b
  ·by_cases a2:b<c
   ·rw [if_pos (by omega)];omega
   ·by_cases a3:b > c
    ·rw [if_neg a2,if_pos a3] at h2;omega
    ·rw [if_pos (by omega)];omega
  ·by_cases a0:a > b
   ·rw [if_neg a1,if_pos a0] at h1;omega
   ·rw [if_neg a1,if_neg a0] at h1
    by_cases a2:b<c
    ·rw [if_pos (by omega)];omega
    ·by_cases a3:b > c
     ·rw [if_neg a2,if_pos a3] at h2;omega
     ·rw [if_neg a2,if_neg a3] at h2
      rw [if_neg (by omega),if_neg (by omega)];exact Zi2 h1 h2
theorem Zi3 {l m:List Int} {i:Nat} (h1:i<l.length) (h2:i<m.length):cmpL (l.drop i) (m.drop i)=if l.getD i 0<m.getD i 0 then -1 else if l.getD i 0 > m.getD i 0 then 1 else cmpL (l.drop (i+1)) (m.drop (i+1)):=by
 rw [Zh3 (d:=0) h1,Zh3 (d:=0) h2];rfl
def Zi4 (x:List Int):List (List Int)→List (List Int)
 | []=>[x]
 | y::l=>if y=x then y::l else if cmpL x y<0 then x::y::l else y::Zi4 x l
theorem Zi5 {x:List Int}:∀{l:List (List Int)},(Zi4 x l).length≤l.length+1
 | []=>by simp [Zi4]
 | y::l=>by
  simp only [Zi4]
  split
  ·simp
  ·split
   ·simp
   ·simp only [List.length_cons];have:=@Zi5 x l;omega
theorem Zi6 {x z:List Int}:∀{l:List (List Int)},z∈Zi4 x l→z=x∨z∈l
 | [],h=>.inl (by simpa [Zi4] using h)
 | y::l,h=>by
  simp only [Zi4] at h
  split at h
  ·exact .inr h
  ·split at h
   ·exact List.mem_cons.1 h
   ·rcases List.mem_cons.1 h with rfl | h
    ·exact .inr (List.mem_cons_self ..)
    ·rcases Zi6 h with h | h
     ·exact .inl h
     ·exact .inr (List.mem_cons_of_mem _ h)
def Asc (l:List (List Int)):Prop:=l.Pairwise fun a b=>cmpL a b<0
theorem Zi7 {x:List Int}:∀{l:List (List Int)},Asc l→Asc (Zi4 x l)
 | [],_=>List.pairwise_singleton _ _
 | y::l,h=>by
  have h':=List.pairwise_cons.1 h
  simp only [Zi4]
  split
  ·exact h
  ·rename_i hne
   split
   ·rename_i hlt
    refine List.pairwise_cons.2 ⟨fun z hz=>?_,h⟩
    rcases List.mem_cons.1 hz with rfl | hz
    ·exact hlt
    ·exact Zi2 hlt (h'.1 z hz)
   ·rename_i hge
    refine List.pairwise_cons.2 ⟨fun z hz=>?_,Zi7 h'.2⟩
    rcases Zi6 hz with rfl | hz
    ·have h1:=@Zi1 y z
     have h2:cmpL y z≠0:=fun h=>hne (cmpL_eq h)
     omega
    ·exact h'.1 z hz
theorem Zi8 {x:List Int}:∀{l:List (List Int)} {i:Nat},i≤l.length→(∀k,k<i→cmpL (l.getD k []) x<0)→(∀k,i≤k→k<l.length→0≤cmpL (l.getD k []) x) →
  Zi4 x l=if i<l.length∧cmpL (l.getD i []) x=0 then l else l.take i++[x]++l.drop i
 | [],i,hi,_,_=>by
  have:i=0:=by simpa using hi
  subst this
  simp [Zi4]
 | y::l,0,_,_,h2=>by
  have h3:0≤cmpL y x:=h2 0 (Nat.le_refl _) (by simp)
  simp only [Zi4]
  by_cases h0:cmpL y x=0
  ·rw [if_pos (cmpL_eq h0),if_pos ⟨by simp,h0⟩]
  ·have h4:¬y=x:=fun h=>h0 (by rw [h,Zi0])
   have h5:=@Zi1 y x
   rw [if_neg h4,if_pos (by omega),if_neg (fun h=>h0 h.2)]
   simp
 | y::l,i+1,hi,h1,h2=>by
  have h3:cmpL y x<0:=h1 0 (by omega)
  have h4:¬y=x:=fun h=>by rw [h,Zi0] at h3;omega
  have h5:=@Zi1 y x
  have ih:=Zi8 (x:=x) (l:=l) (i:=i) (by simpa using hi) (fun k hk=>h1 (k+1) (by omega)) (fun k h6 h7=>h2 (k+1) (by omega) (by simpa using h7))
  simp only [Zi4]
  rw [if_neg h4,if_neg (by omega),ih]
  simp only [List.length_cons,List.getD_cons_succ,Nat.add_lt_add_iff_right]
  split
  ·rfl
  ·simp
theorem Zi9 (a b:List Int) (ha:a.length≤1048576) (hb:b.length≤1048576) (Q:List AV→Prop):mc.C Zbr [⟨L I,a⟩,⟨L I,b⟩] Q=Q [⟨B,decide (a=b)⟩]:=by
 refine Mc.Ends.c (mc.ends Zfj ?_)
 generalize hK:decide (a=b)=K
 simp+contextual(maxSteps:=1000000)(disch:=omega)only[↓Sd,↓So,↓Sk,↓den,↓Z0,Sa,Sb,Sc,Se,O1.d,O2.d,O3.d,cmI,arI,Z1,Z2,↓reduceIte,Nat.reduceLT,Nat.reduceSub,Nat.reduceAdd,Int.reduceAdd,Int.reduceEq,Int.reduceLT,Int.reduceLE,ZD,ZE,Zdo]
 refine ⟨fun g=>by rw [←hK,decide_eq_false];exact fun h=>g (by rw [h]),fun g=>?_⟩
 refine ZgT (fun i=>[⟨L I,a⟩,⟨L I,b⟩,⟨I,(i:Int)⟩]) (fun i=>a.getD i 0=b.getD i 0) a.length _ rfl ?_ ?_
 ·intro i hi
  have hno:¬a.getD i 0=b.getD i 0→false=K:=fun h=>by rw [←hK,decide_eq_false];exact fun h1=>h (by rw [h1])
  simp+contextual(maxSteps:=1000000)(disch:=omega)only[↓Sd,↓So,↓Sk,↓den,↓Z0,Sa,Sb,Sc,Se,O1.d,O2.d,O3.d,cmI,arI,Z1,Z2,↓reduceIte,Nat.reduceLT,Nat.reduceSub,Nat.reduceAdd,Int.reduceAdd,Int.reduceEq,Int.reduceLT,Int.reduceLE,ZD,ZE,]
  exact hno
 ·intro h
  simp+contextual(maxSteps:=1000000)(disch:=omega)only[↓Sd,↓So,↓Sk,↓den,↓Z0,Sa,Sb,Sc,Se,O1.d,O2.d,O3.d,cmI,arI,Z1,Z2,↓reduceIte,Nat.reduceLT,Nat.reduceSub,Nat.reduceAdd,Int.reduceAdd,Int.reduceEq,Int.reduceLT,Int.reduceLE,ZD,ZE,]
  rw [←hK,decide_eq_true]
  refine List.ext_getElem (by omega) fun i h1 h2=>?_
  have:=h i h1
  rwa [getD_lt h1,getD_lt h2] at this
theorem Zia (a b:List Int) (ha:a.length≤1048576) (hb:b.length≤1048576) (Q:List AV→Prop):mc.C Zbs [⟨L I,a⟩,⟨L I,b⟩] Q=Q [⟨B,decide (cmpL a b<0)⟩]:=by
 refine Mc.Ends.c (mc.ends Zfk ?_)
 generalize hK:decide (cmpL a b<0)=K
 simp+contextual(maxSteps:=1000000)(disch:=omega)only[↓Sd,↓So,↓Sk,↓den,↓Z0,Sa,Sb,Sc,Se,O1.d,O2.d,O3.d,cmI,arI,Z1,Z2,↓reduceIte,Nat.reduceLT,Nat.reduceSub,Nat.reduceAdd,Int.reduceAdd,Int.reduceEq,Int.reduceLT,Int.reduceLE,ZD,ZE,Zdp]
 refine mc.wp_join (fun us=>us=[⟨L I,a⟩,⟨L I,b⟩]∧K=decide (a.length<b.length)) ?_ ?_
 ·simp+contextual(maxSteps:=1000000)(disch:=omega)only[↓Sd,↓So,↓Sk,↓den,↓Z0,Sa,Sb,Sc,Se,O1.d,O2.d,O3.d,cmI,arI,Z1,Z2,↓reduceIte,Nat.reduceLT,Nat.reduceSub,Nat.reduceAdd,Int.reduceAdd,Int.reduceEq,Int.reduceLT,Int.reduceLE,ZD,ZE,]
  refine mc.lp_for Unit (fun i _=>[⟨L I,a⟩,⟨L I,b⟩,⟨I,(i:Int)⟩]) (fun i _=>i≤b.length∧cmpL (a.drop i) (b.drop i)=cmpL a b) a.length 0 () _ rfl (Nat.zero_le _) ⟨Nat.zero_le _,rfl⟩ ?_ ?_
  ·rintro i - hi ⟨h1,h2⟩
   simp+contextual(maxSteps:=1000000)(disch:=omega)only[↓Sd,↓So,↓Sk,↓den,↓Z0,Sa,Sb,Sc,Se,O1.d,O2.d,O3.d,cmI,arI,Z1,Z2,↓reduceIte,Nat.reduceLT,Nat.reduceSub,Nat.reduceAdd,Int.reduceAdd,Int.reduceEq,Int.reduceLT,Int.reduceLE,ZD,ZE,]
   refine ⟨fun h=>?_,fun h=>?_⟩
   ·have h3:i<b.length:=by omega
    rw [Zi3 hi h3] at h2
    refine ⟨fun h4=>?_,fun h4=>⟨h3,?_⟩⟩
    ·rw [←hK,←h2]
     by_cases h5:a.getD i 0<b.getD i 0
     ·rw [if_pos h5,decide_eq_true h5];rfl
     ·rw [if_neg h5,if_pos (by omega),decide_eq_false h5];rfl
    ·rw [if_neg (by omega),if_neg (by omega)] at h2;exact h2
   ·have h3:i=b.length:=by omega
    subst h3
    rw [List.drop_length,Zh3 (d:=0) hi] at h2
    rw [←hK,←h2,decide_eq_false (by simp [cmpL]),decide_eq_false (by omega)]
  ·rintro - ⟨h1, h2⟩
   rw [List.drop_length] at h2
   simp+contextual(maxSteps:=1000000)(disch:=omega)only[↓Sd,↓So,↓Sk,↓den,↓Z0,Sa,Sb,Sc,Se,O1.d,O2.d,O3.d,cmI,arI,Z1,Z2,↓reduceIte,Nat.reduceLT,Nat.reduceSub,Nat.reduceAdd,Int.reduceAdd,Int.reduceEq,Int.reduceLT,Int.reduceLE,ZD,ZE,]
   rw [←hK,←h2]
   by_cases h3:a.length<b.length
   ·rw [decide_eq_true h3,Zh3 (d:=0) h3];rfl
   ·rw [decide_eq_false h3,List.drop_eq_nil_of_le (by omega)];rfl
 ·rintro _ ⟨rfl,h⟩
  simp+contextual(maxSteps:=1000000)(disch:=omega)only[↓Sd,↓So,↓Sk,↓den,↓Z0,Sa,Sb,Sc,Se,O1.d,O2.d,O3.d,cmI,arI,Z1,Z2,↓reduceIte,Nat.reduceLT,Nat.reduceSub,Nat.reduceAdd,Int.reduceAdd,Int.reduceEq,Int.reduceLT,Int.reduceLE,ZD,ZE,]
  rw [h]
  exact decide_eq_decide.2 Int.ofNat_lt
theorem Zib (a:Int) (Q:List AV→Prop):mc.C Zc1 [⟨I,a⟩] Q=Q [⟨B,false⟩]:=by
 refine Mc.Ends.c (mc.ends ZfU ?_)
 simp+contextual(maxSteps:=1000000)(disch:=omega)only[↓Sd,↓So,↓Sk,↓den,↓Z0,Sa,Sb,Sc,Se,O1.d,O2.d,O3.d,cmI,arI,Z1,Z2,↓reduceIte,Nat.reduceLT,Nat.reduceSub,Nat.reduceAdd,Int.reduceAdd,Int.reduceEq,Int.reduceLT,Int.reduceLE,ZD,ZE,ZdZ]
 simp
theorem Zic (a b:Int) (Q:List AV→Prop):mc.C Zc2 [⟨I,a⟩,⟨I,b⟩] Q=Q [⟨I,if a<b then -1 else if a > b then 1 else 0⟩]:=by
 refine Mc.Ends.c (mc.ends ZfV ?_)
 generalize hK:(if a<b then -1 else if a > b then 1 else 0:Int)=K
 simp+contextual(maxSteps:=1000000)(disch:=omega)only[↓Sd,↓So,↓Sk,↓den,↓Z0,Sa,Sb,Sc,Se,O1.d,O2.d,O3.d,cmI,arI,Z1,Z2,↓reduceIte,Nat.reduceLT,Nat.reduceSub,Nat.reduceAdd,Int.reduceAdd,Int.reduceEq,Int.reduceLT,Int.reduceLE,ZD,ZE,Zd_,Zib]
 grind
theorem Zid (a b:List Int) (ha:a.length≤1048576) (hb:b.length≤1048576) (Q:List AV→Prop):mc.C Zc3 [⟨L I,a⟩,⟨L I,b⟩] Q=Q [⟨I,cmpL a b⟩]:=by
 refine Mc.Ends.c (mc.ends ZfW ?_)
 generalize hK:cmpL a b=K
 simp+contextual(maxSteps:=1000000)(disch:=omega)only[↓Sd,↓So,↓Sk,↓den,↓Z0,Sa,Sb,Sc,Se,O1.d,O2.d,O3.d,cmI,arI,Z1,Z2,↓reduceIte,Nat.reduceLT,Nat.reduceSub,Nat.reduceAdd,Int.reduceAdd,Int.reduceEq,Int.reduceLT,Int.reduceLE,ZD,ZE,Ze0]
 refine mc.lp_for Unit (fun i _=>[⟨L I,a⟩,⟨L I,b⟩,⟨L I,a⟩,⟨I,(a.length:Int)⟩,⟨I,(i:Int)⟩]) (fun i _=>i≤b.length∧cmpL (a.drop i) (b.drop i)=K) a.length 0 () _ rfl (Nat.zero_le _) ⟨Nat.zero_le _,hK⟩ ?_ ?_
 ·rintro i - hi ⟨h1,h2⟩
  simp+contextual(maxSteps:=1000000)(disch:=omega)only[↓Sd,↓So,↓Sk,↓den,↓Z0,Sa,Sb,Sc,Se,O1.d,O2.d,O3.d,cmI,arI,Z1,Z2,↓reduceIte,Nat.reduceLT,Nat.reduceSub,Nat.reduceAdd,Int.reduceAdd,Int.reduceEq,Int.reduceLT,Int.reduceLE,ZD,ZE,Zic]
  refine ⟨fun h=>?_,fun h=>?_⟩
  ·have h3:i=b.length:=by omega
   subst h3
   rw [List.drop_length,Zh3 (d:=0) hi] at h2
   rw [←h2];rfl
  ·have h3:i<b.length:=by omega
   rw [Zi3 hi h3] at h2
   refine ⟨fun h4=>?_,fun h4=>⟨h3,?_⟩⟩
   ·rw [←h2]
    by_cases h5:a.getD i 0<b.getD i 0
    ·rw [if_pos h5,if_pos h5]
    ·by_cases h6:a.getD i 0 > b.getD i 0
     ·rw [if_neg h5,if_pos h6,if_neg h5,if_pos h6]
     ·rw [if_neg h5,if_neg h6] at h4;exact absurd rfl h4
   ·by_cases h5:a.getD i 0<b.getD i 0
    ·rw [if_pos h5] at h4;omega
    ·by_cases h6:a.getD i 0 > b.getD i 0
     ·rw [if_neg h5,if_pos h6] at h4;omega
     ·rw [if_neg h5,if_neg h6] at h2;exact h2
 ·rintro - ⟨h1, h2⟩
  rw [List.drop_length] at h2
  simp+contextual(maxSteps:=1000000)(disch:=omega)only[↓Sd,↓So,↓Sk,↓den,↓Z0,Sa,Sb,Sc,Se,O1.d,O2.d,O3.d,cmI,arI,Z1,Z2,↓reduceIte,Nat.reduceLT,Nat.reduceSub,Nat.reduceAdd,Int.reduceAdd,Int.reduceEq,Int.reduceLT,Int.reduceLE,ZD,ZE,]
  refine ⟨fun h=>?_,fun h=>?_⟩
  ·rw [←h2,Zh3 (d:=0) (by omega)];rfl
  ·rw [←h2,List.drop_eq_nil_of_le (by omega)];rfl
theorem Zie (l:List (List Int)) (x:List Int) (hl:l.length≤1048576) (hx:x.length≤1048576) (hs:∀y∈l,y.length≤1048576) (Q:List AV→Prop):mc.C Zbt [⟨L (L I),l⟩,⟨L I,x⟩] Q=Q [⟨L (L I),Zi4 x l⟩]:=by
 refine Mc.Ends.c (mc.ends Zfl ?_)
 generalize hK:Zi4 x l=K
 simp+contextual(maxSteps:=1000000)(disch:=omega)only[↓Sd,↓So,↓Sk,↓den,↓Z0,Sa,Sb,Sc,Se,O1.d,O2.d,O3.d,cmI,arI,Z1,Z2,↓reduceIte,Nat.reduceLT,Nat.reduceSub,Nat.reduceAdd,Int.reduceAdd,Int.reduceEq,Int.reduceLT,Int.reduceLE,ZD,ZE,Zdq]
 refine mc.lp_for (Bool×List (List Int)) (fun i s=>[⟨L (L I),l⟩,⟨L I,x⟩,⟨B,s.1⟩,⟨I,(i:Int)⟩,⟨L (L I),s.2⟩]) (fun i s=>s.2.length≤i+s.1.toNat∧(s.1=true→s.2++l.drop i=K)∧(s.1=false→s.2++Zi4 x (l.drop i)=K)) l.length 0 (false,[]) _ rfl (Nat.zero_le _) ⟨by simp,by simp,fun _=>hK⟩ ?_ ?_
 ·rintro i ⟨d,o⟩ hi ⟨h1,h2,h3⟩
  have hy:=hs _ (ZH (d:=[]) hi)
  rw [Zh3 (d:=[]) hi] at h2 h3
  obtain ⟨y,hg⟩:∃y,l.getD i []=y:=⟨_,rfl⟩
  rw [hg] at h2 h3 hy
  simp only at h1 h2 h3
  have h4:(o.length:Int)≤1048577:=by cases d<;>simp at h1<;>omega
  cases d with
  | true =>
   have h2:=h2 rfl
   simp+contextual(maxSteps:=1000000)(disch:=omega)only[↓Sd,↓So,↓Sk,↓den,↓Z0,Sa,Sb,Sc,Se,O1.d,O2.d,O3.d,cmI,arI,Z1,Z2,↓reduceIte,Nat.reduceLT,Nat.reduceSub,Nat.reduceAdd,Int.reduceAdd,Int.reduceEq,Int.reduceLT,Int.reduceLE,ZD,ZE,↓ZF,hg]
   exact ⟨(true,o++[y]),⟨rfl,rfl⟩,by simp at h1 ⊢;omega,fun _=>by rw [←h2];simp,fun h=>by cases h⟩
  | false =>
   have h3:=h3 rfl
   simp only [Zi4] at h3
   simp+contextual(maxSteps:=1000000)(disch:=omega)only[↓Sd,↓So,↓Sk,↓den,↓Z0,Sa,Sb,Sc,Se,O1.d,O2.d,O3.d,cmI,arI,Z1,Z2,↓reduceIte,Nat.reduceLT,Nat.reduceSub,Nat.reduceAdd,Int.reduceAdd,Int.reduceEq,Int.reduceLT,Int.reduceLE,ZD,ZE,↓ZF,hg,Zi9 y x hy hx,Zia x y hx hy]
   refine ⟨fun h=>?_,fun h=>⟨fun h5=>?_,fun h5=>?_⟩⟩
   ·rw [if_pos h] at h3
    exact ⟨(true,o++[x]),⟨rfl,rfl⟩,by simp at h1 ⊢;omega,fun _=>by rw [←h3,←h];simp,fun h=>by cases h⟩
   ·rw [if_neg h,if_pos h5] at h3
    exact ⟨(true,o++[x]++[y]),⟨rfl,rfl⟩,by simp at h1 ⊢;omega,fun _=>by rw [←h3];simp,fun h=>by cases h⟩
   ·rw [if_neg h,if_neg h5] at h3
    exact ⟨(false,o++[y]),⟨rfl,rfl⟩,by simp at h1 ⊢;omega,fun h=>(nomatch h),fun _=>by rw [←h3];simp⟩
 ·rintro ⟨d,o⟩ ⟨h1,h2,h3⟩
  simp only [List.drop_length] at h1 h2 h3
  have h4:(o.length:Int)≤1048577:=by cases d<;>simp at h1<;>omega
  cases d with
  | true=>simp+contextual(maxSteps:=1000000)(disch:=omega)only[↓Sd,↓So,↓Sk,↓den,↓Z0,Sa,Sb,Sc,Se,O1.d,O2.d,O3.d,cmI,arI,Z1,Z2,↓reduceIte,Nat.reduceLT,Nat.reduceSub,Nat.reduceAdd,Int.reduceAdd,Int.reduceEq,Int.reduceLT,Int.reduceLE,ZD,ZE,↓ZF,];simpa using h2 rfl
  | false=>simp+contextual(maxSteps:=1000000)(disch:=omega)only[↓Sd,↓So,↓Sk,↓den,↓Z0,Sa,Sb,Sc,Se,O1.d,O2.d,O3.d,cmI,arI,Z1,Z2,↓reduceIte,Nat.reduceLT,Nat.reduceSub,Nat.reduceAdd,Int.reduceAdd,Int.reduceEq,Int.reduceLT,Int.reduceLE,ZD,ZE,↓ZF,];simpa [Zi4] using h3 rfl
def Zif (s:Sy) (st:List Int):Nat→List (List Int)
 | 0=>[]
 | k+1=>if ZhV s.1 (s.2.getD k ([],[],[])) st=[] then Zif s st k else Zi4 (ZhV s.1 (s.2.getD k ([],[],[])) st) (Zif s st k)
def nxt (s:Sy) (st:List Int):List (List Int):=Zif s st s.2.length
theorem Zig {s:Sy} {st:List Int}:∀{k:Nat},(Zif s st k).length≤k
 | 0=>Nat.le_refl _
 | k+1=>by
  have:=@Zig s st k
  simp only [Zif]
  split
  ·omega
  ·exact Nat.le_trans Zi5 (by omega)
theorem Zih {s:Sy} {st:List Int}:∀{k:Nat},Asc (Zif s st k)
 | 0=>List.Pairwise.nil
 | k+1=>by
  simp only [Zif]
  split
  ·exact Zih
  ·exact Zi7 Zih
theorem Zii {s:Sy} {st:List Int}:∀{k:Nat},∀x∈Zif s st k,inR s.1 x
 | 0,x,h=>by simp [Zif] at h
 | k+1,x,h=>by
  simp only [Zif] at h
  split at h
  ·exact Zii x h
  ·rename_i h1
   rcases Zi6 h with rfl | h
   ·exact ZhX h1
   ·exact Zii x h
theorem Zij (s:Sy) (st:List Int) (h:valid s) (hst:inR s.1 st) (Q:List AV→Prop):mc.C Zbu [⟨L V3,s.1⟩,⟨L TR,s.2⟩,⟨L I,st⟩] Q=Q [⟨L (L I),nxt s st⟩]:=by
 have h8:=h.2.1
 have h5:=h.1.2
 refine Mc.Ends.c (mc.ends Zfm ?_)
 simp+contextual(maxSteps:=1000000)(disch:=omega)only[↓Sd,↓So,↓Sk,↓den,↓Z0,Sa,Sb,Sc,Se,O1.d,O2.d,O3.d,cmI,arI,Z1,Z2,↓reduceIte,Nat.reduceLT,Nat.reduceSub,Nat.reduceAdd,Int.reduceAdd,Int.reduceEq,Int.reduceLT,Int.reduceLE,ZD,ZE,Zdr]
 refine mc.lp_for (List (List Int)) (fun i o=>[⟨L I,st⟩,⟨I,(i:Int)⟩,⟨L V3,s.1⟩,⟨L TR,s.2⟩,⟨L (L I),o⟩]) (fun i o=>o=Zif s st i) s.2.length 0 [] _ rfl (Nat.zero_le _) rfl ?_ ?_
 ·rintro i o hi rfl
  have h1:=@Zig s st i
  have hin:∀x∈Zif s st i,x.length≤1048576:=fun x hx=>by have:=(Zii x hx).1;omega
  have hu:(ZhV s.1 (s.2.getD i ([],[],[])) st).length≤1048576:=by
   by_cases h0:ZhV s.1 (s.2.getD i ([],[],[])) st=[]
   ·rw [h0];simp
   ·have:=(ZhX h0).1;omega
  simp+contextual(maxSteps:=1000000)(disch:=omega)only[↓Sd,↓So,↓Sk,↓den,↓Z0,Sa,Sb,Sc,Se,O1.d,O2.d,O3.d,cmI,arI,Z1,Z2,↓reduceIte,Nat.reduceLT,Nat.reduceSub,Nat.reduceAdd,Int.reduceAdd,Int.reduceEq,Int.reduceLT,Int.reduceLE,ZD,ZE,↓ZF,ZhZ s st i h hst hi,Zie _ _ (Nat.le_trans h1 (by omega)) hu hin]
  simp only [Zif]
  refine ⟨fun g=>?_,fun g=>?_⟩
  ·rw [if_neg (fun h0=>by rw [h0] at g;simp at g)]
  ·rw [if_pos (List.eq_nil_of_length_eq_zero (by omega))]
 ·rintro o rfl
  simp+contextual(maxSteps:=1000000)(disch:=omega)only[↓Sd,↓So,↓Sk,↓den,↓Z0,Sa,Sb,Sc,Se,O1.d,O2.d,O3.d,cmI,arI,Z1,Z2,↓reduceIte,Nat.reduceLT,Nat.reduceSub,Nat.reduceAdd,Int.reduceAdd,Int.reduceEq,Int.reduceLT,Int.reduceLE,ZD,ZE,]
  rfl
theorem Zik (l:List (List Int)) (hl:l.length≤1048576) (Q:List AV→Prop):mc.C Zc5 [⟨L (L I),l⟩] Q=Q [⟨L (L I),l⟩]:=by
 refine Mc.Ends.c (mc.ends ZfY ?_)
 simp+contextual(maxSteps:=1000000)(disch:=omega)only[↓Sd,↓So,↓Sk,↓den,↓Z0,Sa,Sb,Sc,Se,O1.d,O2.d,O3.d,cmI,arI,Z1,Z2,↓reduceIte,Nat.reduceLT,Nat.reduceSub,Nat.reduceAdd,Int.reduceAdd,Int.reduceEq,Int.reduceLT,Int.reduceLE,ZD,ZE,Ze2,ZhT]
 intro h
 exact (List.eq_nil_of_length_eq_zero (by omega)).symm
theorem Asc.lt {l:List (List Int)} (h:Asc l) {i j:Nat} (hij:i<j) (hj:j<l.length):cmpL (l.getD i []) (l.getD j [])<0:=by
 rw [getD_lt (by omega),getD_lt hj]
 exact List.pairwise_iff_getElem.1 h i j (by omega) hj hij
end Go.Proofs.YtknlennollmgeaaGreat
namespace Go.Proofs.YtknlennollmgeaaGreat
open Go Go.Sm Go.Sm.Q
set_option linter.unusedSimpArgs false
set_option linter.unusedVariables false
theorem Zil (s:Sy) (st:List Int) (h:valid s) (hst:inR s.1 st) (Q:List AV→Prop):mc.C Zc6 [⟨L V3,s.1⟩,⟨L TR,s.2⟩,⟨L I,st⟩] Q=Q [⟨L (L I),nxt s st⟩]:=by
 have h8:=h.2.1
 have h5:=h.1.2
 refine Mc.Ends.c (mc.ends ZfZ ?_)
 simp+contextual(maxSteps:=1000000)(disch:=omega)only[↓Sd,↓So,↓Sk,↓den,↓Z0,Sa,Sb,Sc,Se,O1.d,O2.d,O3.d,cmI,arI,Z1,Z2,↓reduceIte,Nat.reduceLT,Nat.reduceSub,Nat.reduceAdd,Int.reduceAdd,Int.reduceEq,Int.reduceLT,Int.reduceLE,ZD,ZE,Ze3]
 refine mc.lp_for (List (List Int)) (fun i o=>[⟨L I,st⟩,⟨I,(s.2.length:Int)⟩,⟨I,(i:Int)⟩,⟨L V3,s.1⟩,⟨L TR,s.2⟩,⟨L (L I),o⟩]) (fun i o=>o=Zif s st i) s.2.length 0 [] _ rfl (Nat.zero_le _) rfl ?_ ?_
 ·rintro i o hi rfl
  have h1:=@Zig s st i
  have hin:∀x∈Zif s st i,x.length≤1048576:=fun x hx=>by have:=(Zii x hx).1;omega
  have hasc:=@Zih s st i
  simp+contextual(maxSteps:=1000000)(disch:=omega)only[↓Sd,↓So,↓Sk,↓den,↓Z0,Sa,Sb,Sc,Se,O1.d,O2.d,O3.d,cmI,arI,Z1,Z2,↓reduceIte,Nat.reduceLT,Nat.reduceSub,Nat.reduceAdd,Int.reduceAdd,Int.reduceEq,Int.reduceLT,Int.reduceLE,ZD,ZE,]
  refine mc.wp_join (fun us=>us=[⟨L I,st⟩,⟨I,(s.2.length:Int)⟩,⟨I,(i:Int)⟩,⟨L V3,s.1⟩,⟨L TR,s.2⟩,⟨L (L I),Zif s st (i+1)⟩]) ?_ ?_
  ·simp+contextual(maxSteps:=1000000)(disch:=omega)only[↓Sd,↓So,↓Sk,↓den,↓Z0,Sa,Sb,Sc,Se,O1.d,O2.d,O3.d,cmI,arI,Z1,Z2,↓reduceIte,Nat.reduceLT,Nat.reduceSub,Nat.reduceAdd,Int.reduceAdd,Int.reduceEq,Int.reduceLT,Int.reduceLE,ZD,ZE,Zh_ s st i h hst hi]
   simp only [Zif]
   refine ⟨fun g=>?_,fun g=>?_⟩
   ·rw [if_neg g]
    have hu:(ZhV s.1 (s.2.getD i ([],[],[])) st).length≤1048576:=by have:=(ZhX g).1;omega
    generalize ZhV s.1 (s.2.getD i ([],[],[])) st=x at *
    generalize Zif s st i=l at *
    refine mc.wp_join (fun us=>∃at':Nat,at'≤l.length∧(∀k,k<at'→cmpL (l.getD k []) x<0)∧(∀k,at'≤k→k<l.length→0≤cmpL (l.getD k []) x) ∧
     us=[⟨L I,st⟩,⟨I,(at':Int)⟩,⟨B,decide (at'<l.length∧cmpL (l.getD at' []) x=0)⟩,⟨I,(s.2.length:Int)⟩,⟨I,(i:Int)⟩,⟨L V3,s.1⟩,⟨L TR,s.2⟩,⟨L (L I),l⟩,⟨L I,x⟩]) ?_ ?_
    ·simp+contextual(maxSteps:=1000000)(disch:=omega)only[↓Sd,↓So,↓Sk,↓den,↓Z0,Sa,Sb,Sc,Se,O1.d,O2.d,O3.d,cmI,arI,Z1,Z2,↓reduceIte,Nat.reduceLT,Nat.reduceSub,Nat.reduceAdd,Int.reduceAdd,Int.reduceEq,Int.reduceLT,Int.reduceLE,ZD,ZE,]
     refine mc.lp_inv (fun k us=>∃lo hi:Nat,k=hi - lo∧lo≤hi∧hi≤l.length∧(∀k,k<lo→cmpL (l.getD k []) x<0)∧(∀k,hi≤k→k<l.length→0≤cmpL (l.getD k []) x) ∧
      us=[⟨I,(l.length:Int)⟩,⟨I,(lo:Int)⟩,⟨I,(hi:Int)⟩,⟨L I,st⟩,⟨I,(s.2.length:Int)⟩,⟨I,(i:Int)⟩,⟨L (L I),l⟩,⟨L I,x⟩,⟨L V3,s.1⟩,⟨L TR,s.2⟩]) l.length _ ⟨0,l.length,rfl,Nat.zero_le _,Nat.le_refl _,fun k hk=>absurd hk (Nat.not_lt_zero _),fun k h1 h2=>absurd h1 (by omega),rfl⟩ ?_
     rintro k us ⟨lo,hi,rfl,a1,a2,a3,a4,rfl⟩
     obtain ⟨m,hm⟩:∃m:Nat,((lo:Int)+hi) / 2=m:=⟨((lo+hi) / 2),by omega⟩
     have hc:∀n,n<l.length→∀Q,mc.C Zc3 [⟨L I,l.getD n []⟩,⟨L I,x⟩] Q=Q [⟨I,cmpL (l.getD n []) x⟩]:=fun n hn Q=>Zid _ _ (hin _ (ZH hn)) hu Q
     simp+contextual(maxSteps:=1000000)(disch:=omega)only[↓Sd,↓So,↓Sk,↓den,↓Z0,Sa,Sb,Sc,Se,O1.d,O2.d,O3.d,cmI,arI,Z1,Z2,↓reduceIte,Nat.reduceLT,Nat.reduceSub,Nat.reduceAdd,Int.reduceAdd,Int.reduceEq,Int.reduceLT,Int.reduceLE,ZD,ZE,hm]
     refine ⟨fun g1=>?_,fun g1=>⟨fun g2=>?_,fun g2=>?_⟩⟩
     ·rw [hc m (by omega)]
      simp+contextual(maxSteps:=1000000)(disch:=omega)only[↓Sd,↓So,↓Sk,↓den,↓Z0,Sa,Sb,Sc,Se,O1.d,O2.d,O3.d,cmI,arI,Z1,Z2,↓reduceIte,Nat.reduceLT,Nat.reduceSub,Nat.reduceAdd,Int.reduceAdd,Int.reduceEq,Int.reduceLT,Int.reduceLE,ZD,ZE,hm]
      refine ⟨fun g2=>⟨hi - (m+1),by omega,m+1,hi,rfl,by omega,a2,fun k hk=>?_,a4,rfl,rfl⟩,fun g2=>⟨m - lo,by omega,lo,m,rfl,by omega,by omega,a3,fun k hk1 hk2=>?_,rfl,rfl⟩⟩
      ·rcases Nat.lt_succ_iff_lt_or_eq.1 hk with h3 | rfl
       ·exact Zi2 (hasc.lt h3 (by omega)) g2
       ·exact g2
      ·rcases Nat.lt_or_eq_of_le hk1 with h3 | rfl
       ·exact Classical.byContradiction fun h4=>g2 (Zi2 (hasc.lt h3 hk2) (by omega))
       ·omega
     ·rw [hc lo (by omega)]
      simp+contextual(maxSteps:=1000000)(disch:=omega)only[↓Sd,↓So,↓Sk,↓den,↓Z0,Sa,Sb,Sc,Se,O1.d,O2.d,O3.d,cmI,arI,Z1,Z2,↓reduceIte,Nat.reduceLT,Nat.reduceSub,Nat.reduceAdd,Int.reduceAdd,Int.reduceEq,Int.reduceLT,Int.reduceLE,ZD,ZE,]
      refine ⟨lo,by omega,a3,fun k hk1 hk2=>a4 k (by omega) hk2,rfl,?_⟩
      have:lo<l.length:=by omega
      simp [this]
      rfl
     ·refine ⟨lo,by omega,a3,fun k hk1 hk2=>a4 k (by omega) hk2,rfl,?_⟩
      have:¬lo<l.length:=by omega
      simp [this]
    ·rintro _ ⟨at',b1,b2,b3,rfl⟩
     simp+contextual(maxSteps:=1000000)(disch:=omega)only[↓Sd,↓So,↓Sk,↓den,↓Z0,Sa,Sb,Sc,Se,O1.d,O2.d,O3.d,cmI,arI,Z1,Z2,↓reduceIte,Nat.reduceLT,Nat.reduceSub,Nat.reduceAdd,Int.reduceAdd,Int.reduceEq,Int.reduceLT,Int.reduceLE,ZD,ZE,]
     rw [Zi8 b1 b2 b3]
     refine ⟨fun g1=>by rw [if_neg g1],fun g1=>by rw [if_pos g1]⟩
   ·rw [if_pos (by simpa using g)]
  ·rintro _ rfl
   simp+contextual(maxSteps:=1000000)(disch:=omega)only[↓Sd,↓So,↓Sk,↓den,↓Z0,Sa,Sb,Sc,Se,O1.d,O2.d,O3.d,cmI,arI,Z1,Z2,↓reduceIte,Nat.reduceLT,Nat.reduceSub,Nat.reduceAdd,Int.reduceAdd,Int.reduceEq,Int.reduceLT,Int.reduceLE,ZD,ZE,]
 ·rintro o rfl
  simp+contextual(maxSteps:=1000000)(disch:=omega)only[↓Sd,↓So,↓Sk,↓den,↓Z0,Sa,Sb,Sc,Se,O1.d,O2.d,O3.d,cmI,arI,Z1,Z2,↓reduceIte,Nat.reduceLT,Nat.reduceSub,Nat.reduceAdd,Int.reduceAdd,Int.reduceEq,Int.reduceLT,Int.reduceLE,ZD,ZE,Zik (Zif s st s.2.length) (Nat.le_trans Zig (by omega))]
  rfl
def ZJ (l:List Vr):List Int:=l.map (·.2.2)
theorem Zim {l:List Vr} (hv:∀v∈l,vOk v):inR l (ZJ l):=by
 refine ⟨by simp [ZJ],fun i hi=>?_⟩
 have h:=hv _ (ZH (d:=(0,0,0)) hi)
 have e:(ZJ l).getD i 0=(l.getD i (0,0,0)).2.2:=by simp [ZJ,hi]
 rw [e]
 unfold vOk at h
 omega
theorem Zin {l:List Vr} {i:Nat} (hi:i<l.length):ZJ (l.take i)++[(l.getD i (0,0,0)).2.2]=ZJ (l.take (i+1)):=by
 rw [←ZhY (d:=(0,0,0)) hi];simp [ZJ]
theorem Zio (s:Sy) (h:s.1.length≤5) (Q:List AV→Prop):mc.C ZcP [⟨L V3,s.1⟩,⟨L TR,s.2⟩] Q=Q [⟨L I,ZJ s.1⟩]:=by
 refine Mc.Ends.c (mc.ends ZgI ?_)
 simp+contextual(maxSteps:=1000000)(disch:=omega)only[↓Sd,↓So,↓Sk,↓den,↓Z0,Sa,Sb,Sc,Se,O1.d,O2.d,O3.d,cmI,arI,Z1,Z2,↓reduceIte,Nat.reduceLT,Nat.reduceSub,Nat.reduceAdd,Int.reduceAdd,Int.reduceEq,Int.reduceLT,Int.reduceLE,ZD,ZE,ZeN]
 refine mc.lp_for (List Int) (fun i o=>[⟨L V3,s.1⟩,⟨I,(s.1.length:Int)⟩,⟨I,(i:Int)⟩,⟨L I,o⟩]) (fun i o=>o=ZJ (s.1.take i)) s.1.length 0 [] _ rfl (Nat.zero_le _) rfl ?_ ?_
 ·rintro i o hi rfl
  have h1:((ZJ (s.1.take i)).length:Int)≤5:=by simp [ZJ];omega
  simp+contextual(maxSteps:=1000000)(disch:=omega)only[↓Sd,↓So,↓Sk,↓den,↓Z0,Sa,Sb,Sc,Se,O1.d,O2.d,O3.d,cmI,arI,Z1,Z2,↓reduceIte,Nat.reduceLT,Nat.reduceSub,Nat.reduceAdd,Int.reduceAdd,Int.reduceEq,Int.reduceLT,Int.reduceLE,ZD,ZE,]
  exact Zin hi
 ·rintro o rfl
  rw [List.take_length]
  have h1:(ZJ s.1).length≤5:=by simp [ZJ];omega
  simp+contextual(maxSteps:=1000000)(disch:=omega)only[↓Sd,↓So,↓Sk,↓den,↓Z0,Sa,Sb,Sc,Se,O1.d,O2.d,O3.d,cmI,arI,Z1,Z2,↓reduceIte,Nat.reduceLT,Nat.reduceSub,Nat.reduceAdd,Int.reduceAdd,Int.reduceEq,Int.reduceLT,Int.reduceLE,ZD,ZE,ZhU (ZJ s.1) (by omega)]
theorem Zip (s:Sy) (hs:ZI s) (hv:valid s) (Q:List AV→Prop):mc.C Zbh [⟨L V3,s.1⟩,⟨L TR,s.2⟩] Q=Q [⟨L I,ZJ s.1⟩]:=by
 have h:=hv.1.2
 refine Mc.Ends.c (mc.ends Zf9 ?_)
 simp+contextual(maxSteps:=1000000)(disch:=omega)only[↓Sd,↓So,↓Sk,↓den,↓Z0,Sa,Sb,Sc,Se,O1.d,O2.d,O3.d,cmI,arI,Z1,Z2,↓reduceIte,Nat.reduceLT,Nat.reduceSub,Nat.reduceAdd,Int.reduceAdd,Int.reduceEq,Int.reduceLT,Int.reduceLE,ZD,ZE,Zde]
 refine mc.wp_join (fun us=>us=[⟨L I,ZJ s.1⟩]) ?_ (by rintro _ rfl;simp+contextual(maxSteps:=1000000)(disch:=omega)only[↓Sd,↓So,↓Sk,↓den,↓Z0,Sa,Sb,Sc,Se,O1.d,O2.d,O3.d,cmI,arI,Z1,Z2,↓reduceIte,Nat.reduceLT,Nat.reduceSub,Nat.reduceAdd,Int.reduceAdd,Int.reduceEq,Int.reduceLT,Int.reduceLE,ZD,ZE,])
 simp+contextual(maxSteps:=1000000)(disch:=omega)only[↓Sd,↓So,↓Sk,↓den,↓Z0,Sa,Sb,Sc,Se,O1.d,O2.d,O3.d,cmI,arI,Z1,Z2,↓reduceIte,Nat.reduceLT,Nat.reduceSub,Nat.reduceAdd,Int.reduceAdd,Int.reduceEq,Int.reduceLT,Int.reduceLE,ZD,ZE,]
 refine mc.lp_for (List Int) (fun i o=>[⟨I,(i:Int)⟩,⟨L V3,s.1⟩,⟨L TR,s.2⟩,⟨L I,o⟩]) (fun i o=>o=ZJ (s.1.take i)) s.1.length 0 [] _ rfl (Nat.zero_le _) rfl ?_ ?_
 ·rintro i o hi rfl
  have h1:((ZJ (s.1.take i)).length:Int)≤5:=by simp [ZJ];omega
  simp+contextual(maxSteps:=1000000)(disch:=omega)only[↓Sd,↓So,↓Sk,↓den,↓Z0,Sa,Sb,Sc,Se,O1.d,O2.d,O3.d,cmI,arI,Z1,Z2,↓reduceIte,Nat.reduceLT,Nat.reduceSub,Nat.reduceAdd,Int.reduceAdd,Int.reduceEq,Int.reduceLT,Int.reduceLE,ZD,ZE,Zhs s hs,hv]
  exact Zin hi
 ·rintro o rfl
  simp+contextual(maxSteps:=1000000)(disch:=omega)only[↓Sd,↓So,↓Sk,↓den,↓Z0,Sa,Sb,Sc,Se,O1.d,O2.d,O3.d,cmI,arI,Z1,Z2,↓reduceIte,Nat.reduceLT,Nat.reduceSub,Nat.reduceAdd,Int.reduceAdd,Int.reduceEq,Int.reduceLT,Int.reduceLE,ZD,ZE,]
  rw [List.take_length]
theorem Ziq (l:List Int) (hl:l.length≤1048576) (Q:List AV→Prop):mc.C Zbi [⟨L I,l⟩] Q=Q [⟨L I,l⟩]:=by
 refine Mc.Ends.c (mc.ends Zfa ?_)
 simp+contextual(maxSteps:=1000000)(disch:=omega)only[↓Sd,↓So,↓Sk,↓den,↓Z0,Sa,Sb,Sc,Se,O1.d,O2.d,O3.d,cmI,arI,Z1,Z2,↓reduceIte,Nat.reduceLT,Nat.reduceSub,Nat.reduceAdd,Int.reduceAdd,Int.reduceEq,Int.reduceLT,Int.reduceLE,ZD,ZE,Zdf]
 refine mc.lp_for (List Int) (fun i o=>[⟨L I,l⟩,⟨I,(i:Int)⟩,⟨L I,o⟩]) (fun i o=>o=l.take i) l.length 0 [] _ rfl (Nat.zero_le _) rfl ?_ ?_
 ·rintro i o hi rfl
  have h1:((l.take i).length:Int)≤1048576:=by rw [List.length_take];omega
  simp+contextual(maxSteps:=1000000)(disch:=omega)only[↓Sd,↓So,↓Sk,↓den,↓Z0,Sa,Sb,Sc,Se,O1.d,O2.d,O3.d,cmI,arI,Z1,Z2,↓reduceIte,Nat.reduceLT,Nat.reduceSub,Nat.reduceAdd,Int.reduceAdd,Int.reduceEq,Int.reduceLT,Int.reduceLE,ZD,ZE,]
  exact ZhY hi
 ·rintro o rfl
  simp+contextual(maxSteps:=1000000)(disch:=omega)only[↓Sd,↓So,↓Sk,↓den,↓Z0,Sa,Sb,Sc,Se,O1.d,O2.d,O3.d,cmI,arI,Z1,Z2,↓reduceIte,Nat.reduceLT,Nat.reduceSub,Nat.reduceAdd,Int.reduceAdd,Int.reduceEq,Int.reduceLT,Int.reduceLE,ZD,ZE,]
  rw [List.take_length]
def Zir (l:List Vr) (st:List Int):Nat→Int
 | 0=>0
 | i+1=>Zir l st i * wd (l.getD i (0,0,0))+st.getD i 0 - (l.getD i (0,0,0)).1
def num (l:List Vr) (st:List Int):Int:=Zir l st l.length
theorem Zis {l:List Vr} {st:List Int} (hv:∀v∈l,vOk v) (hst:inR l st):∀{i:Nat},i≤l.length→0≤Zir l st i∧Zir l st i<sz (l.take i)
 | 0,_=>by simp [Zir,sz]
 | i+1,hi=>by
  have ih:=Zis hv hst (i:=i) (by omega)
  have h1:=hst.2 i (by omega)
  have h2:=hv _ (ZH (d:=(0,0,0)) (show i<l.length by omega))
  have h3:=Zhk h2
  rw [Zhl (d:=(0,0,0)) (by omega)]
  simp only [Zir]
  have h4:0≤Zir l st i * wd (l.getD i (0,0,0)):=Int.mul_nonneg ih.1 (by omega)
  have h5:(Zir l st i+1) * wd (l.getD i (0,0,0))≤sz (l.take i) * wd (l.getD i (0,0,0)):=Int.mul_le_mul_of_nonneg_right (by omega) (by omega)
  rw [Int.add_mul,Int.one_mul] at h5
  have h6:wd (l.getD i (0,0,0))=(l.getD i (0,0,0)).2.1 - (l.getD i (0,0,0)).1+1:=rfl
  omega
theorem Zit {l:List Vr} {st:List Int} (hv:∀v∈l,vOk v) (hst:inR l st):0≤num l st∧num l st<sz l:=by
 have:=Zis hv hst (Nat.le_refl l.length)
 rwa [List.take_length] at this
theorem Ziu (s:Sy) (st:List Int) (h5:s.1.length≤5) (hv:∀v∈s.1,vOk v) (hst:inR s.1 st) (Q:List AV→Prop):mc.C Zbv [⟨L V3,s.1⟩,⟨L TR,s.2⟩,⟨L I,st⟩] Q=Q [⟨I,num s.1 st⟩]:=by
 have hl:=hst.1
 refine Mc.Ends.c (mc.ends Zfn ?_)
 simp+contextual(maxSteps:=1000000)(disch:=omega)only[↓Sd,↓So,↓Sk,↓den,↓Z0,Sa,Sb,Sc,Se,O1.d,O2.d,O3.d,cmI,arI,Z1,Z2,↓reduceIte,Nat.reduceLT,Nat.reduceSub,Nat.reduceAdd,Int.reduceAdd,Int.reduceEq,Int.reduceLT,Int.reduceLE,ZD,ZE,Zds]
 refine mc.lp_for Int (fun i n=>[⟨L I,st⟩,⟨I,n⟩,⟨I,(i:Int)⟩,⟨L V3,s.1⟩,⟨L TR,s.2⟩]) (fun i n=>n=Zir s.1 st i) st.length 0 0 _ rfl (Nat.zero_le _) rfl ?_ ?_
 ·rintro i n hi rfl
  have h1:=Zis hv hst (i:=i) (by omega)
  have h2:=Zhr (l:=s.1) h5 (show i≤s.1.length by omega) fun j hj=>hv _ (ZH (by omega))
  have h3:=hv _ (ZH (d:=(0,0,0)) (show i<s.1.length by omega))
  have h4:=hst.2 i (by omega)
  have h6:0≤Zir s.1 st i * wd (s.1.getD i (0,0,0))∧Zir s.1 st i * wd (s.1.getD i (0,0,0))≤64000000:=by
   have a:=Zhk h3
   refine ⟨Int.mul_nonneg h1.1 (by omega),?_⟩
   have:=Int.mul_le_mul (show Zir s.1 st i≤3200000 by omega) a.2 (by omega) (by omega)
   omega
  unfold vOk at h3
  unfold wd at h6
  simp+contextual(maxSteps:=1000000)(disch:=omega)only[↓Sd,↓So,↓Sk,↓den,↓Z0,Sa,Sb,Sc,Se,O1.d,O2.d,O3.d,cmI,arI,Z1,Z2,↓reduceIte,Nat.reduceLT,Nat.reduceSub,Nat.reduceAdd,Int.reduceAdd,Int.reduceEq,Int.reduceLT,Int.reduceLE,ZD,ZE,]
  rfl
 ·rintro n rfl
  simp+contextual(maxSteps:=1000000)(disch:=omega)only[↓Sd,↓So,↓Sk,↓den,↓Z0,Sa,Sb,Sc,Se,O1.d,O2.d,O3.d,cmI,arI,Z1,Z2,↓reduceIte,Nat.reduceLT,Nat.reduceSub,Nat.reduceAdd,Int.reduceAdd,Int.reduceEq,Int.reduceLT,Int.reduceLE,ZD,ZE,]
  rw [hl];rfl
theorem Ziv (s:Sy) (st:List Int) (h5:s.1.length≤5) (hv:∀v∈s.1,vOk v) (hst:inR s.1 st) (Q:List AV→Prop):mc.C Zc7 [⟨L V3,s.1⟩,⟨L TR,s.2⟩,⟨L I,st⟩] Q=Q [⟨I,num s.1 st⟩]:=by
 have hl:=hst.1
 refine Mc.Ends.c (mc.ends Zf_ ?_)
 simp+contextual(maxSteps:=1000000)(disch:=omega)only[↓Sd,↓So,↓Sk,↓den,↓Z0,Sa,Sb,Sc,Se,O1.d,O2.d,O3.d,cmI,arI,Z1,Z2,↓reduceIte,Nat.reduceLT,Nat.reduceSub,Nat.reduceAdd,Int.reduceAdd,Int.reduceEq,Int.reduceLT,Int.reduceLE,ZD,ZE,Ze4]
 refine mc.lp_for Int (fun i n=>[⟨L I,st⟩,⟨I,n⟩,⟨L V3,s.1⟩,⟨I,(s.1.length:Int)⟩,⟨I,(i:Int)⟩]) (fun i n=>n=Zir s.1 st i) s.1.length 0 0 _ rfl (Nat.zero_le _) rfl ?_ ?_
 ·rintro i n hi rfl
  have h1:=Zis hv hst (i:=i) (by omega)
  have h2:=Zhr (l:=s.1) h5 (show i≤s.1.length by omega) fun j hj=>hv _ (ZH (by omega))
  have h3:=hv _ (ZH (d:=(0,0,0)) (show i<s.1.length by omega))
  have h4:=hst.2 i (by omega)
  have h6:0≤Zir s.1 st i * wd (s.1.getD i (0,0,0))∧Zir s.1 st i * wd (s.1.getD i (0,0,0))≤64000000:=by
   have a:=Zhk h3
   refine ⟨Int.mul_nonneg h1.1 (by omega),?_⟩
   have:=Int.mul_le_mul (show Zir s.1 st i≤3200000 by omega) a.2 (by omega) (by omega)
   omega
  unfold vOk at h3
  unfold wd at h6
  simp+contextual(maxSteps:=1000000)(disch:=omega)only[↓Sd,↓So,↓Sk,↓den,↓Z0,Sa,Sb,Sc,Se,O1.d,O2.d,O3.d,cmI,arI,Z1,Z2,↓reduceIte,Nat.reduceLT,Nat.reduceSub,Nat.reduceAdd,Int.reduceAdd,Int.reduceEq,Int.reduceLT,Int.reduceLE,ZD,ZE,]
  rfl
 ·rintro n rfl
  simp+contextual(maxSteps:=1000000)(disch:=omega)only[↓Sd,↓So,↓Sk,↓den,↓Z0,Sa,Sb,Sc,Se,O1.d,O2.d,O3.d,cmI,arI,Z1,Z2,↓reduceIte,Nat.reduceLT,Nat.reduceSub,Nat.reduceAdd,Int.reduceAdd,Int.reduceEq,Int.reduceLT,Int.reduceLE,ZD,ZE,]
  rfl
def dg:List Vr→Int→Int×List Int
 | [],n=>(n,[])
 | v::l,n=>((dg l n).1 / wd v,(v.1+(dg l n).1 % wd v)::(dg l n).2)
def Ziw (l:List Vr) (n:Int):List Int:=(dg l n).2
theorem Zix:∀{l:List Vr} {n:Int},(dg l n).2.length=l.length
 | [],n=>rfl
 | v::l,n=>by simp [dg,Zix]
theorem Ziy {l:List Vr} {n:Int} (hv:∀v∈l,vOk v) (hn:0≤n∧n≤3200000):0≤(dg l n).1∧(dg l n).1≤3200000:=by
 induction l with
 | nil=>exact hn
 | cons v l ih =>
  have h:=ih fun v hv'=>hv v (List.mem_cons_of_mem _ hv')
  have h1:=Zhk (hv v (List.mem_cons_self ..))
  simp only [dg]
  exact ⟨Int.ediv_nonneg h.1 (by omega),Int.le_trans (Int.ediv_le_self _ h.1) h.2⟩
theorem Ziz {l:List Vr} {n:Int} (hv:∀v∈l,vOk v) (hn:0≤n∧n≤3200000):inR l (Ziw l n):=by
 induction l with
 | nil=>exact ⟨rfl,fun i hi=>absurd hi (Nat.not_lt_zero _)⟩
 | cons v l ih =>
  have h:=ih fun v hv'=>hv v (List.mem_cons_of_mem _ hv')
  have h1:=hv v (List.mem_cons_self ..)
  have h2:=Zhk h1
  refine ⟨by simp [Ziw,Zix],fun i hi=>?_⟩
  cases i with
  | succ i=>exact h.2 i (by simpa using hi)
  | zero =>
   have a1:=Int.emod_nonneg (dg l n).1 (show wd v≠0 by omega)
   have a2:=Int.emod_lt_of_pos (dg l n).1 (show 0<wd v by omega)
   have a3:wd v=v.2.1 - v.1+1:=rfl
   simp only [Ziw,dg,List.getD_cons_zero]
   omega
theorem ZiA {pre D:List Int} {k:Nat} {x:Int} (h:k<pre.length):(pre.take (k+1)++D).set k x=pre.take k++x::D:=by
 rw [←ZhY (d:=0) h,List.append_assoc,List.set_append_right _ _ (by rw [List.length_take];omega)]
 have:k - (pre.take k).length=0:=by rw [List.length_take];omega
 rw [this];rfl
theorem ZiB {l:List Vr} {n:Int} {k:Nat} (h:k<l.length):dg (l.drop k) n=((dg (l.drop (k+1)) n).1 / wd (l.getD k (0,0,0)),((l.getD k (0,0,0)).1+(dg (l.drop (k+1)) n).1 % wd (l.getD k (0,0,0)))::(dg (l.drop (k+1)) n).2):=by
 rw [Zh3 (d:=(0,0,0)) h];rfl
theorem ZiC (s:Sy) (n:Int) (h5:s.1.length≤5) (hv:∀v∈s.1,vOk v) (hn:0≤n∧n≤3200000) (Q:List AV→Prop):mc.C ZbU [⟨L V3,s.1⟩,⟨L TR,s.2⟩,⟨I,n⟩] Q=Q [⟨L I,Ziw s.1 n⟩]:=by
 refine Mc.Ends.c (mc.ends ZfM ?_)
 simp+contextual(maxSteps:=1000000)(disch:=omega)only[↓Sd,↓So,↓Sk,↓den,↓Z0,Sa,Sb,Sc,Se,O1.d,O2.d,O3.d,cmI,arI,Z1,Z2,↓reduceIte,Nat.reduceLT,Nat.reduceSub,Nat.reduceAdd,Int.reduceAdd,Int.reduceEq,Int.reduceLT,Int.reduceLE,ZD,ZE,ZdR,List.length_replicate]
 refine mc.lp_down (Int×List Int) (fun k x=>[⟨I,x.1⟩,⟨I,(k:Int) - 1⟩,⟨L V3,s.1⟩,⟨L TR,s.2⟩,⟨L I,x.2⟩]) (fun k x=>k≤s.1.length∧x.1=(dg (s.1.drop k) n).1∧x.2=(List.replicate s.1.length (0:Int)).take k++(dg (s.1.drop k) n).2) s.1.length (n,List.replicate s.1.length 0) _ rfl ⟨Nat.le_refl _,by simp [dg],by simp [dg]⟩ ?_ ?_
 ·rintro k ⟨m,o⟩ ⟨hk,rfl,rfl⟩
  have hv':∀k,∀v∈s.1.drop k,vOk v:=fun k v hv1=>hv v (List.mem_of_mem_drop hv1)
  have h1:=Ziy (hv' (k+1)) hn
  have h2:=Ziy (hv' k) hn
  have h3:=hv _ (ZH (d:=(0,0,0)) (show k<s.1.length by omega))
  have h4:=Zhk h3
  have h6:=Int.emod_nonneg (dg (s.1.drop (k+1)) n).1 (show wd (s.1.getD k (0,0,0))≠0 by omega)
  have h7:=Int.emod_lt_of_pos (dg (s.1.drop (k+1)) n).1 (show 0<wd (s.1.getD k (0,0,0)) by omega)
  have hlen:((List.replicate s.1.length (0:Int)).take (k+1)++(dg (s.1.drop (k+1)) n).2).length=s.1.length:=by simp [Zix];omega
  have hset:∀x:Int,((List.replicate s.1.length (0:Int)).take (k+1)++(dg (s.1.drop (k+1)) n).2).set k x=(List.replicate s.1.length (0:Int)).take k++x::(dg (s.1.drop (k+1)) n).2:=fun x=>ZiA (by rw [List.length_replicate];omega)
  have e:=ZiB (l:=s.1) (n:=n) (k:=k) (by omega)
  rw [e] at h2 ⊢
  clear e
  generalize dg (s.1.drop (k+1)) n=D at *
  generalize (List.replicate s.1.length (0:Int)).take (k+1)++D.2=O at *
  generalize (List.replicate s.1.length (0:Int)).take k=P at *
  simp only [wd] at h2 h4 h6 h7 ⊢
  unfold vOk at h3
  simp+contextual(maxSteps:=1000000)(disch:=omega)only[↓Sd,↓So,↓Sk,↓den,↓Z0,Sa,Sb,Sc,Se,O1.d,O2.d,O3.d,cmI,arI,Z1,Z2,↓reduceIte,Nat.reduceLT,Nat.reduceSub,Nat.reduceAdd,Int.reduceAdd,Int.reduceEq,Int.reduceLT,Int.reduceLE,ZD,ZE,hset]
  exact ⟨(_,_),⟨rfl,rfl⟩,by omega,rfl,rfl⟩
 ·rintro ⟨m,o⟩ ⟨hk,rfl,rfl⟩
  simp+contextual(maxSteps:=1000000)(disch:=omega)only[↓Sd,↓So,↓Sk,↓den,↓Z0,Sa,Sb,Sc,Se,O1.d,O2.d,O3.d,cmI,arI,Z1,Z2,↓reduceIte,Nat.reduceLT,Nat.reduceSub,Nat.reduceAdd,Int.reduceAdd,Int.reduceEq,Int.reduceLT,Int.reduceLE,ZD,ZE,List.take_zero,List.nil_append,List.drop_zero]
  rfl
theorem ZiD (s:Sy) (n:Int) (hs:ZI s) (hV:valid s) (hn:0≤n∧n≤3200000) (Q:List AV→Prop):mc.C Zbj [⟨L V3,s.1⟩,⟨L TR,s.2⟩,⟨I,n⟩] Q=Q [⟨L I,Ziw s.1 n⟩]:=by
 have h5:=hV.1.2
 have hv:=hV.2.2.1
 have hf:(ZJ s.1).length=s.1.length:=by simp [ZJ]
 refine Mc.Ends.c (mc.ends Zfb ?_)
 simp+contextual(maxSteps:=1000000)(disch:=omega)only[↓Sd,↓So,↓Sk,↓den,↓Z0,Sa,Sb,Sc,Se,O1.d,O2.d,O3.d,cmI,arI,Z1,Z2,↓reduceIte,Nat.reduceLT,Nat.reduceSub,Nat.reduceAdd,Int.reduceAdd,Int.reduceEq,Int.reduceLT,Int.reduceLE,ZD,ZE,Zdg,Zip s hs hV,Ziq (ZJ s.1) (by omega)]
 generalize ZJ s.1=pre at *
 refine mc.lp_down (Int×List Int) (fun k x=>[⟨I,x.1⟩,⟨I,(k:Int) - 1⟩,⟨L V3,s.1⟩,⟨L TR,s.2⟩,⟨L I,x.2⟩]) (fun k x=>k≤s.1.length∧x.1=(dg (s.1.drop k) n).1∧x.2=pre.take k++(dg (s.1.drop k) n).2) s.1.length (n,pre) _ rfl ⟨Nat.le_refl _,by simp [dg],by rw [List.drop_length,←hf,List.take_length];simp [dg]⟩ ?_ ?_
 ·rintro k ⟨m,o⟩ ⟨hk,rfl,rfl⟩
  have hv':∀k,∀v∈s.1.drop k,vOk v:=fun k v hv1=>hv v (List.mem_of_mem_drop hv1)
  have h1:=Ziy (hv' (k+1)) hn
  have h2:=Ziy (hv' k) hn
  have h3:=hv _ (ZH (d:=(0,0,0)) (show k<s.1.length by omega))
  have h4:=Zhk h3
  have h6:=Int.emod_nonneg (dg (s.1.drop (k+1)) n).1 (show wd (s.1.getD k (0,0,0))≠0 by omega)
  have h7:=Int.emod_lt_of_pos (dg (s.1.drop (k+1)) n).1 (show 0<wd (s.1.getD k (0,0,0)) by omega)
  have hlen:(pre.take (k+1)++(dg (s.1.drop (k+1)) n).2).length=s.1.length:=by simp [Zix,hf];omega
  have hset:∀x:Int,(pre.take (k+1)++(dg (s.1.drop (k+1)) n).2).set k x=pre.take k++x::(dg (s.1.drop (k+1)) n).2:=fun x=>ZiA (by omega)
  have e:=ZiB (l:=s.1) (n:=n) (k:=k) (by omega)
  rw [e] at h2 ⊢
  clear e
  generalize dg (s.1.drop (k+1)) n=D at *
  generalize pre.take (k+1)++D.2=O at *
  generalize pre.take k=P at *
  simp only [wd] at h2 h4 h6 h7 ⊢
  unfold vOk at h3
  simp+contextual(maxSteps:=1000000)(disch:=omega)only[↓Sd,↓So,↓Sk,↓den,↓Z0,Sa,Sb,Sc,Se,O1.d,O2.d,O3.d,cmI,arI,Z1,Z2,↓reduceIte,Nat.reduceLT,Nat.reduceSub,Nat.reduceAdd,Int.reduceAdd,Int.reduceEq,Int.reduceLT,Int.reduceLE,ZD,ZE,hset]
  exact ⟨(_,_),⟨rfl,rfl⟩,by omega,rfl,rfl⟩
 ·rintro ⟨m,o⟩ ⟨hk,rfl,rfl⟩
  simp+contextual(maxSteps:=1000000)(disch:=omega)only[↓Sd,↓So,↓Sk,↓den,↓Z0,Sa,Sb,Sc,Se,O1.d,O2.d,O3.d,cmI,arI,Z1,Z2,↓reduceIte,Nat.reduceLT,Nat.reduceSub,Nat.reduceAdd,Int.reduceAdd,Int.reduceEq,Int.reduceLT,Int.reduceLE,ZD,ZE,List.take_zero,List.nil_append,List.drop_zero]
  rfl
def tab {α:Type} (f:Nat→α) (n:Nat):List α:=(List.range n).map f
theorem ZK {α:Type} {f:Nat→α} {n:Nat}:(tab f n).length=n:=by simp [tab]
theorem ZiE {α:Type} {f:Nat→α} {n:Nat}:tab f n++[f n]=tab f (n+1):=by simp [tab,List.range_succ]
theorem ZL {α:Type} {f:Nat→α} {n i:Nat} {d:α} (h:i<n):(tab f n).getD i d=f i:=by simp [tab,h]
theorem ZiF {α:Type} {f:Nat→α} {N i:Nat} {z x:α} (h:i<N) (hx:x=f i):(tab f i++List.replicate (N - i) z).set i x=tab f (i+1)++List.replicate (N - (i+1)) z:=by
 have e:=ZhO (l:=tab f i) (k:=N - (i+1)) (x:=x) (z:=z)
 rw [ZK] at e
 rw [ZhP h,e,hx,ZiE]
theorem ZiG {α:Type} {f:Nat→α} {N i:Nat} {z x y:α}:(tab f i++y::List.replicate N z).set i x=tab f i++x::List.replicate N z:=by
 rw [List.set_append_right _ _ (by rw [ZK];exact Nat.le_refl _),ZK,Nat.sub_self];rfl
theorem ZiH {α:Type} {f:Nat→α} {i:Nat} {d y:α} {r:List α}:(tab f i++y::r).getD i d=y:=by
 rw [List.getD_eq_getElem?_getD,List.getElem?_append_right (by rw [ZK];exact Nat.le_refl _),ZK,Nat.sub_self];rfl
def szn (l:List Vr):Nat:=(sz l).toNat
theorem ZM {s:Sy} (h:valid s):((szn s.1:Nat):Int)=sz s.1∧1≤szn s.1∧szn s.1≤400:=by
 have h1:=Zhn s.1 h.2.2.1 s.1.length (Nat.le_refl _)
 rw [List.take_length] at h1
 have h2:=h.2.2.2.2
 unfold szn
 omega
def stN (s:Sy) (n:Nat):List Int:=Ziw s.1 n
theorem ZiI {s:Sy} (h:valid s) {n:Nat} (hn:n<szn s.1):inR s.1 (stN s n):=Ziz h.2.2.1 (by have:=ZM h;omega)
def ZiJ (s:Sy) (n:Nat):List Int:=(nxt s (stN s n)).map (num s.1)
def steps (s:Sy):List (List Int):=tab (ZiJ s) (szn s.1)
theorem ZiK {s:Sy} {st:List Int} (h:valid s):(nxt s st).length≤8:=Nat.le_trans Zig h.2.1
theorem ZiL {s:Sy} {st:List Int}:∀x∈nxt s st,inR s.1 x:=Zii
theorem ZiM {α β:Type} {l:List α} {g:α→β} {j:Nat} {d:α} (h:j<l.length):(l.take j).map g++[g (l.getD j d)]=(l.take (j+1)).map g:=by
 rw [←ZhY (d:=d) h];simp
theorem ZiN (s:Sy) (hs:ZI s) (h:valid s) (Q:List AV→Prop):mc.C Zbw [⟨L V3,s.1⟩,⟨L TR,s.2⟩] Q=Q [⟨L (L I),steps s⟩]:=by
 have hz:=ZM h
 have h5:=h.1.2
 have hv:=h.2.2.1
 refine Mc.Ends.c (mc.ends Zfo ?_)
 simp+contextual(maxSteps:=1000000)(disch:=omega)only[↓Sd,↓So,↓Sk,↓den,↓Z0,Sa,Sb,Sc,Se,O1.d,O2.d,O3.d,cmI,arI,Z1,Z2,↓reduceIte,Nat.reduceLT,Nat.reduceSub,Nat.reduceAdd,Int.reduceAdd,Int.reduceEq,Int.reduceLT,Int.reduceLE,ZD,ZE,Zdt]
 refine mc.lp_for (List (List Int)) (fun i o=>[⟨I,(i:Int)⟩,⟨L V3,s.1⟩,⟨L TR,s.2⟩,⟨L (L I),o⟩]) (fun i o=>o=tab (ZiJ s) i) (szn s.1) 0 [] _ rfl (Nat.zero_le _) rfl ?_ ?_
 ·rintro i o hi rfl
  have hin:=ZiI h hi
  have hst:Ziw s.1 (i:Int)=stN s i:=rfl
  have hl:=@ZiK s (stN s i) h
  have htl:(tab (ZiJ s) i).length=i:=ZK
  simp+contextual(maxSteps:=1000000)(disch:=omega)only[↓Sd,↓So,↓Sk,↓den,↓Z0,Sa,Sb,Sc,Se,O1.d,O2.d,O3.d,cmI,arI,Z1,Z2,↓reduceIte,Nat.reduceLT,Nat.reduceSub,Nat.reduceAdd,Int.reduceAdd,Int.reduceEq,Int.reduceLT,Int.reduceLE,ZD,ZE,Zhv s hs,h,ZiD s i hs h (by omega),hst,Zij s (stN s i) h hin]
  refine mc.lp_for (List Int) (fun j o=>[⟨I,(i:Int)⟩,⟨I,(j:Int)⟩,⟨L V3,s.1⟩,⟨L TR,s.2⟩,⟨L (L I),tab (ZiJ s) i⟩,⟨L (L I),nxt s (stN s i)⟩,⟨L I,o⟩]) (fun j o=>o=((nxt s (stN s i)).take j).map (num s.1)) (nxt s (stN s i)).length 0 [] _ rfl (Nat.zero_le _) rfl ?_ ?_
  ·rintro j o hj rfl
   have hx:=ZiL _ (ZH (d:=[]) hj)
   have hol:(((nxt s (stN s i)).take j).map (num s.1)).length≤8:=by simp;omega
   simp+contextual(maxSteps:=1000000)(disch:=omega)only[↓Sd,↓So,↓Sk,↓den,↓Z0,Sa,Sb,Sc,Se,O1.d,O2.d,O3.d,cmI,arI,Z1,Z2,↓reduceIte,Nat.reduceLT,Nat.reduceSub,Nat.reduceAdd,Int.reduceAdd,Int.reduceEq,Int.reduceLT,Int.reduceLE,ZD,ZE,Ziu s _ h5 hv hx]
   exact ZiM hj
  ·rintro o rfl
   rw [List.take_length]
   simp+contextual(maxSteps:=1000000)(disch:=omega)only[↓Sd,↓So,↓Sk,↓den,↓Z0,Sa,Sb,Sc,Se,O1.d,O2.d,O3.d,cmI,arI,Z1,Z2,↓reduceIte,Nat.reduceLT,Nat.reduceSub,Nat.reduceAdd,Int.reduceAdd,Int.reduceEq,Int.reduceLT,Int.reduceLE,ZD,ZE,]
   exact ZiE
 ·rintro o rfl
  simp+contextual(maxSteps:=1000000)(disch:=omega)only[↓Sd,↓So,↓Sk,↓den,↓Z0,Sa,Sb,Sc,Se,O1.d,O2.d,O3.d,cmI,arI,Z1,Z2,↓reduceIte,Nat.reduceLT,Nat.reduceSub,Nat.reduceAdd,Int.reduceAdd,Int.reduceEq,Int.reduceLT,Int.reduceLE,ZD,ZE,Zhv s hs,h]
  rfl
theorem ZiO (s:Sy) (h:valid s) (Q:List AV→Prop):mc.C Zc8 [⟨L V3,s.1⟩,⟨L TR,s.2⟩] Q=Q [⟨L (L I),steps s⟩]:=by
 have hz:=ZM h
 have h5:=h.1.2
 have hv:=h.2.2.1
 refine Mc.Ends.c (mc.ends Zg0 ?_)
 simp+contextual(maxSteps:=1000000)(disch:=omega)only[↓Sd,↓So,↓Sk,↓den,↓Z0,Sa,Sb,Sc,Se,O1.d,O2.d,O3.d,cmI,arI,Z1,Z2,↓reduceIte,Nat.reduceLT,Nat.reduceSub,Nat.reduceAdd,Int.reduceAdd,Int.reduceEq,Int.reduceLT,Int.reduceLE,ZD,ZE,Ze5,Zht s.1 h5 hv,←hz.1,List.length_replicate]
 refine mc.lp_for (List (List Int)) (fun i o=>[⟨I,(szn s.1:Int)⟩,⟨I,(i:Int)⟩,⟨L V3,s.1⟩,⟨L TR,s.2⟩,⟨L (L I),o⟩]) (fun i o=>o=tab (ZiJ s) i++List.replicate (szn s.1 - i) []) (szn s.1) 0 (List.replicate (szn s.1) []) _ rfl (Nat.zero_le _) rfl ?_ ?_
 ·rintro i o hi rfl
  have hin:=ZiI h hi
  have hst:Ziw s.1 (i:Int)=stN s i:=rfl
  have hl:=@ZiK s (stN s i) h
  simp+contextual(maxSteps:=1000000)(disch:=omega)only[↓Sd,↓So,↓Sk,↓den,↓Z0,Sa,Sb,Sc,Se,O1.d,O2.d,O3.d,cmI,arI,Z1,Z2,↓reduceIte,Nat.reduceLT,Nat.reduceSub,Nat.reduceAdd,Int.reduceAdd,Int.reduceEq,Int.reduceLT,Int.reduceLE,ZD,ZE,ZiC s i h5 hv (by omega),hst,Zil s (stN s i) h hin]
  rw [ZhP hi,List.replicate_succ]
  refine mc.lp_for (List Int) (fun j o=>[⟨I,(i:Int)⟩,⟨I,(szn s.1:Int)⟩,⟨I,(i:Int)⟩,⟨I,((nxt s (stN s i)).length:Int)⟩,⟨I,(j:Int)⟩,⟨L V3,s.1⟩,⟨L TR,s.2⟩,⟨L (L I),tab (ZiJ s) i++o::List.replicate (szn s.1 - (i+1)) []⟩,⟨L (L I),nxt s (stN s i)⟩]) (fun j o=>o=((nxt s (stN s i)).take j).map (num s.1)) (nxt s (stN s i)).length 0 [] _ rfl (Nat.zero_le _) rfl ?_ ?_
  ·rintro j o hj rfl
   have hx:=ZiL _ (ZH (d:=[]) hj)
   have hol:(((nxt s (stN s i)).take j).map (num s.1)).length≤8:=by simp;omega
   have hlen:(tab (ZiJ s) i++((nxt s (stN s i)).take j).map (num s.1)::List.replicate (szn s.1 - (i+1)) []).length=szn s.1:=by simp [ZK];omega
   simp+contextual(maxSteps:=1000000)(disch:=omega)only[↓Sd,↓So,↓Sk,↓den,↓Z0,Sa,Sb,Sc,Se,O1.d,O2.d,O3.d,cmI,arI,Z1,Z2,↓reduceIte,Nat.reduceLT,Nat.reduceSub,Nat.reduceAdd,Int.reduceAdd,Int.reduceEq,Int.reduceLT,Int.reduceLE,ZD,ZE,Ziv s _ h5 hv hx,ZiH,ZiG,ZK,List.length_replicate]
   exact ⟨_,rfl,ZiM hj⟩
  ·rintro o rfl
   rw [List.take_length]
   simp+contextual(maxSteps:=1000000)(disch:=omega)only[↓Sd,↓So,↓Sk,↓den,↓Z0,Sa,Sb,Sc,Se,O1.d,O2.d,O3.d,cmI,arI,Z1,Z2,↓reduceIte,Nat.reduceLT,Nat.reduceSub,Nat.reduceAdd,Int.reduceAdd,Int.reduceEq,Int.reduceLT,Int.reduceLE,ZD,ZE,]
   rw [←ZiE,List.append_assoc];rfl
 ·rintro o rfl
  simp+contextual(maxSteps:=1000000)(disch:=omega)only[↓Sd,↓So,↓Sk,↓den,↓Z0,Sa,Sb,Sc,Se,O1.d,O2.d,O3.d,cmI,arI,Z1,Z2,↓reduceIte,Nat.reduceLT,Nat.reduceSub,Nat.reduceAdd,Int.reduceAdd,Int.reduceEq,Int.reduceLT,Int.reduceLE,ZD,ZE,]
  simp [steps]
def ZiP (s:Sy) (l:List Tm) (n:Nat):Bool:=evl l (stN s n)==1
theorem ZiQ (s:Sy) (l:List Tm) (h:valid s) (hl:kf l s.1.length≠0) (Q:List AV→Prop):mc.C ZcN [⟨L V3,s.1⟩,⟨L TR,s.2⟩,⟨L T4,l⟩] Q=Q [⟨L B,tab (ZiP s l) (szn s.1)⟩]:=by
 have hz:=ZM h
 have h5:=h.1.2
 have hv:=h.2.2.1
 refine Mc.Ends.c (mc.ends ZgG ?_)
 simp+contextual(maxSteps:=1000000)(disch:=omega)only[↓Sd,↓So,↓Sk,↓den,↓Z0,Sa,Sb,Sc,Se,O1.d,O2.d,O3.d,cmI,arI,Z1,Z2,↓reduceIte,Nat.reduceLT,Nat.reduceSub,Nat.reduceAdd,Int.reduceAdd,Int.reduceEq,Int.reduceLT,Int.reduceLE,ZD,ZE,ZeL,Zht s.1 h5 hv,←hz.1,List.length_replicate]
 refine mc.lp_for (List Bool) (fun i o=>[⟨L T4,l⟩,⟨I,(szn s.1:Int)⟩,⟨I,(i:Int)⟩,⟨L V3,s.1⟩,⟨L TR,s.2⟩,⟨L B,o⟩]) (fun i o=>o=tab (ZiP s l) i++List.replicate (szn s.1 - i) false) (szn s.1) 0 (List.replicate (szn s.1) false) _ rfl (Nat.zero_le _) rfl ?_ ?_
 ·rintro i o hi rfl
  have hin:=ZiI h hi
  have hst:Ziw s.1 (i:Int)=stN s i:=rfl
  simp+contextual(maxSteps:=1000000)(disch:=omega)only[↓Sd,↓So,↓Sk,↓den,↓Z0,Sa,Sb,Sc,Se,O1.d,O2.d,O3.d,cmI,arI,Z1,Z2,↓reduceIte,Nat.reduceLT,Nat.reduceSub,Nat.reduceAdd,Int.reduceAdd,Int.reduceEq,Int.reduceLT,Int.reduceLE,ZD,ZE,ZiC s i h5 hv (by omega),hst,ZhQ l (stN s i) s.1.length hl (hin.bds hv) (by rw [hin.1]),ZK,List.length_replicate]
  exact ZiF hi rfl
 ·rintro o rfl
  simp+contextual(maxSteps:=1000000)(disch:=omega)only[↓Sd,↓So,↓Sk,↓den,↓Z0,Sa,Sb,Sc,Se,O1.d,O2.d,O3.d,cmI,arI,Z1,Z2,↓reduceIte,Nat.reduceLT,Nat.reduceSub,Nat.reduceAdd,Int.reduceAdd,Int.reduceEq,Int.reduceLT,Int.reduceLE,ZD,ZE,]
  simp
def ZN (p:Nat→Bool):Nat→List Int
 | 0=>[]
 | n+1=>if p n=true then ZN p n++[(n:Int)] else ZN p n
theorem ZiR {p:Nat→Bool} {n:Nat} (h:p n=true):ZN p (n+1)=ZN p n++[(n:Int)]:=by rw [ZN,if_pos h]
theorem ZiS {p:Nat→Bool} {n:Nat} (h:¬p n=true):ZN p (n+1)=ZN p n:=by rw [ZN,if_neg h]
theorem ZO {p:Nat→Bool}:∀{n:Nat},(ZN p n).length≤n
 | 0=>Nat.le_refl _
 | n+1=>by
  have:=@ZO p n
  simp only [ZN]
  split
  ·simp;omega
  ·omega
theorem ZP {p:Nat→Bool} {x:Int}:∀{n:Nat},x∈ZN p n↔∃k,k<n∧x=(k:Int)∧p k=true
 | 0=>by simp [ZN]
 | n+1=>by
  have ih:=@ZP p x n
  simp only [ZN]
  constructor
  ·intro h
   split at h
   ·rename_i hp
    rcases List.mem_append.1 h with h | h
    ·obtain ⟨k,h1,h2⟩:=ih.1 h;exact ⟨k,by omega,h2⟩
    ·exact ⟨n,by omega,by simpa using h,hp⟩
   ·obtain ⟨k,h1,h2⟩:=ih.1 h;exact ⟨k,by omega,h2⟩
  ·rintro ⟨k,h1,h2,h3⟩
   rcases Nat.lt_succ_iff_lt_or_eq.1 h1 with h4 | rfl
   ·have h5:=ih.2 ⟨k,h4,h2,h3⟩
    split
    ·exact List.mem_append_left _ h5
    ·exact h5
   ·rw [if_pos h3,h2];simp
theorem ZiT {p q:Nat→Bool}:∀{n:Nat},(∀k,k<n→p k=q k)→ZN p n=ZN q n
 | 0,_=>rfl
 | n+1,h=>by simp only [ZN];rw [h n (by omega),ZiT fun k hk=>h k (by omega)]
theorem ZiU (s:Sy) (l:List Tm) (hs:ZI s) (hf:Few l) (h:valid s) (hl:kf l s.1.length=2) (Q:List AV→Prop):mc.C ZcR [⟨L V3,s.1⟩,⟨L TR,s.2⟩,⟨L T4,l⟩] Q=Q [⟨L I,ZN (ZiP s l) (szn s.1)⟩]:=by
 have hz:=ZM h
 have h5:=h.1.2
 have hv:=h.2.2.1
 refine Mc.Ends.c (mc.ends ZgK ?_)
 simp+contextual(maxSteps:=1000000)(disch:=omega)only[↓Sd,↓So,↓Sk,↓den,↓Z0,Sa,Sb,Sc,Se,O1.d,O2.d,O3.d,cmI,arI,Z1,Z2,↓reduceIte,Nat.reduceLT,Nat.reduceSub,Nat.reduceAdd,Int.reduceAdd,Int.reduceEq,Int.reduceLT,Int.reduceLE,ZD,ZE,ZeP,Zhs s hs,h,Zha l s.1.length 2 hf (by omega),hl]
 refine mc.lp_for (List Int) (fun i o=>[⟨L T4,l⟩,⟨I,(i:Int)⟩,⟨L V3,s.1⟩,⟨L TR,s.2⟩,⟨L I,o⟩]) (fun i o=>o=ZN (ZiP s l) i) (szn s.1) 0 [] _ rfl (Nat.zero_le _) rfl ?_ ?_
 ·rintro i o hi rfl
  have hin:=ZiI h hi
  have hst:Ziw s.1 (i:Int)=stN s i:=rfl
  have hlen:=@ZO (ZiP s l) i
  simp+contextual(maxSteps:=1000000)(disch:=omega)only[↓Sd,↓So,↓Sk,↓den,↓Z0,Sa,Sb,Sc,Se,O1.d,O2.d,O3.d,cmI,arI,Z1,Z2,↓reduceIte,Nat.reduceLT,Nat.reduceSub,Nat.reduceAdd,Int.reduceAdd,Int.reduceEq,Int.reduceLT,Int.reduceLE,ZD,ZE,↓ZF,Zhv s hs,h,ZiD s i hs h (by omega),hst,ZhM l (stN s i) s.1.length (by omega) (hin.bds hv) (by rw [hin.1])]
  exact ⟨fun g=>(ZiR (by rw [ZiP,g];rfl)).symm,fun g=>(ZiS (by simpa [ZiP] using g)).symm⟩
 ·rintro o rfl
  simp+contextual(maxSteps:=1000000)(disch:=omega)only[↓Sd,↓So,↓Sk,↓den,↓Z0,Sa,Sb,Sc,Se,O1.d,O2.d,O3.d,cmI,arI,Z1,Z2,↓reduceIte,Nat.reduceLT,Nat.reduceSub,Nat.reduceAdd,Int.reduceAdd,Int.reduceEq,Int.reduceLT,Int.reduceLE,ZD,ZE,Zhv s hs,h]
def bn (n:Int):Int:=if n≤1 then 0 else if n≤2 then 1 else if n≤4 then 2 else if n≤8 then 3 else if n≤16 then 4 else 5
def bw (l:List Vr) (i:Nat):Int:=bn (wd (l.getD i (0,0,0)))
noncomputable def dB (p:Prop):Bool:=@decide p (Classical.propDecidable p)
theorem ZiV {p:Prop}:dB p=true↔p:=@decide_eq_true_iff p (Classical.propDecidable p)
theorem ZQ {p:Prop} (h:p):dB p=true:=ZiV.2 h
theorem ZR {p:Prop} (h:¬p):dB p=false:=by cases h1:dB p with | false=>rfl | true=>exact absurd (ZiV.1 h1) h
theorem ZiW {p q:Prop} (h:p↔q):dB p=dB q:=by rw [propext h]
theorem dB_eq {p:Prop} [Decidable p]:dB p=decide p:=by by_cases h:p<;>simp [h,dB]
theorem ZS {α:Type} {f g:Nat→α} {n:Nat} (h:∀k,k<n→f k=g k):tab f n=tab g n:=by
 unfold tab
 exact List.map_congr_left fun k hk=>h k (List.mem_range.1 hk)
theorem ZiX {α:Type} {f:Nat→α} {n j:Nat} {x:α}:(tab f n).set j x=tab (fun k=>if k=j then x else f k) n:=by
 apply List.ext_getElem
 ·simp [tab]
 ·intro i h1 h2
  simp only [tab,List.length_set,List.length_map,List.length_range] at h1 h2
  rw [List.getElem_set]
  simp only [tab,List.getElem_map,List.getElem_range]
  by_cases h:j=i
  ·rw [if_pos h,if_pos h.symm]
  ·rw [if_neg h,if_neg (fun e=>h e.symm)]
theorem ZiY {α:Type} {z:α} {n:Nat}:List.replicate n z=tab (fun _=>z) n:=by
 apply List.ext_getElem<;>simp [tab]
def ZT (l:List Int) (n:Int):Prop:=∀i,i<l.length→(0≤l.getD i 0∧l.getD i 0≤n - 1)∧(0<i→l.getD (i - 1) 0<l.getD i 0)
instance (l : List Int) (n : Int) : Decidable (ZT l n) := by unfold ZT; infer_instance
theorem ZiZ {l:List Int} {n:Int} (h:ZT l n):∀x∈l,0≤x∧x<n:=by
 intro x hx
 obtain ⟨i,hi,rfl⟩:=List.getElem_of_mem hx
 have:=(h i hi).1
 rw [getD_lt hi] at this
 omega
theorem Zi_ {l:List Int} {n:Int} (h:ZT l n):∀i,i<l.length→(i:Int)≤l.getD i 0:=by
 intro i
 induction i with
 | zero=>intro hi;exact (h 0 hi).1.1
 | succ i ih =>
  intro hi
  have h1:=ih (by omega)
  have h2:=(h (i+1) hi).2 (by omega)
  simp only [Nat.add_sub_cancel] at h2
  omega
theorem Zj0 {l:List Int} {n:Int} (h:ZT l n) (hn:0≤n):(l.length:Int)≤n:=by
 rcases Nat.eq_zero_or_pos l.length with h0 | h0
 ·omega
 ·have h1:=Zi_ h (l.length - 1) (by omega)
  have h2:=(h (l.length - 1) (by omega)).1.2
  omega
theorem Zj1 {l:List Int} {n x:Int} (h:ZT l n) (hx:0≤x∧x<n) (hl:∀y∈l,y<x):ZT (l++[x]) n:=by
 intro i hi
 simp only [List.length_append,List.length_cons,List.length_nil,Nat.zero_add] at hi
 rw [ZhG,ZhG]
 by_cases h1:i<l.length
 ·rw [if_pos h1,if_pos (by omega)];exact h i h1
 ·have h2:i=l.length:=by omega
  rw [if_neg h1,if_pos h2]
  refine ⟨by omega,fun h3=>?_⟩
  rw [if_pos (by omega)]
  exact hl _ (ZH (by omega))
theorem Zj2 {p:Nat→Bool} {n:Nat}:∀x∈ZN p n,x<n:=fun x hx=>by obtain ⟨k,h1,h2,_⟩:=ZP.1 hx;omega
theorem Zj3 {p:Nat→Bool} {m:Nat}:∀{n:Nat},n≤m→ZT (ZN p n) m
 | 0,_=>fun i hi=>absurd hi (Nat.not_lt_zero _)
 | n+1,h=>by
  simp only [ZN]
  split
  ·exact Zj1 (Zj3 (by omega)) (by omega) Zj2
  ·exact Zj3 (by omega)
theorem ZU {l:List Int} {i:Nat} {x:Int} (h:i<l.length):x∈l.take (i+1)↔x∈l.take i∨x=l.getD i 0:=by
 rw [←ZhY (d:=0) h];simp
theorem Zj4 (l:List Int) (n:Nat) (hn:n≤1048576) (hl:l.length≤1048576) (h:∀x∈l,0≤x∧x<n) (Q:List AV→Prop):mc.C Zby [⟨L I,l⟩,⟨I,(n:Int)⟩] Q=Q [⟨L B,tab (fun k=>dB ((k:Int)∈l)) n⟩]:=by
 refine Mc.Ends.c (mc.ends Zfq ?_)
 simp+contextual(maxSteps:=1000000)(disch:=omega)only[↓Sd,↓So,↓Sk,↓den,↓Z0,Sa,Sb,Sc,Se,O1.d,O2.d,O3.d,cmI,arI,Z1,Z2,↓reduceIte,Nat.reduceLT,Nat.reduceSub,Nat.reduceAdd,Int.reduceAdd,Int.reduceEq,Int.reduceLT,Int.reduceLE,ZD,ZE,Zdv]
 refine mc.lp_for (List Bool) (fun i o=>[⟨L I,l⟩,⟨I,(i:Int)⟩,⟨L B,o⟩]) (fun i o=>o=tab (fun k=>dB ((k:Int)∈l.take i)) n) l.length 0 (List.replicate n false) _ rfl (Nat.zero_le _) ?_ ?_ ?_
 ·rw [ZiY];exact ZS fun k _=>(ZR (by simp)).symm
 ·rintro i o hi rfl
  have hx:=h _ (ZH (d:=0) hi)
  simp+contextual(maxSteps:=1000000)(disch:=omega)only[↓Sd,↓So,↓Sk,↓den,↓Z0,Sa,Sb,Sc,Se,O1.d,O2.d,O3.d,cmI,arI,Z1,Z2,↓reduceIte,Nat.reduceLT,Nat.reduceSub,Nat.reduceAdd,Int.reduceAdd,Int.reduceEq,Int.reduceLT,Int.reduceLE,ZD,ZE,ZK,ZiX]
  refine ZS fun k hk=>?_
  by_cases hk2:k=(l.getD i 0).toNat
  ·rw [if_pos hk2,ZQ];exact (ZU hi).2 (.inr (by omega))
  ·rw [if_neg hk2];refine ZiW ?_
   rw [ZU hi]
   exact ⟨.inl,fun h=>h.elim id fun h=>absurd h (by omega)⟩
 ·rintro o rfl
  rw [List.take_length]
  simp+contextual(maxSteps:=1000000)(disch:=omega)only[↓Sd,↓So,↓Sk,↓den,↓Z0,Sa,Sb,Sc,Se,O1.d,O2.d,O3.d,cmI,arI,Z1,Z2,↓reduceIte,Nat.reduceLT,Nat.reduceSub,Nat.reduceAdd,Int.reduceAdd,Int.reduceEq,Int.reduceLT,Int.reduceLE,ZD,ZE,]
theorem Zj5 (l:List Int) (m:Int) (n:Nat) (e:m=n) (hn:n≤1048576) (hl:l.length≤1048576) (h:∀x∈l,0≤x∧x<n) (Q:List AV→Prop):mc.C Zby [⟨L I,l⟩,⟨I,m⟩] Q=Q [⟨L B,tab (fun k=>dB ((k:Int)∈l)) n⟩]:=e▸Zj4 l n hn hl h Q
theorem Zj6 (l:List Bool) (hl:l.length≤1048576) (Q:List AV→Prop):mc.C ZcW [⟨L B,l⟩] Q=Q [⟨L I,ZN (fun k=>l.getD k false) l.length⟩]:=by
 refine Mc.Ends.c (mc.ends ZgP ?_)
 simp+contextual(maxSteps:=1000000)(disch:=omega)only[↓Sd,↓So,↓Sk,↓den,↓Z0,Sa,Sb,Sc,Se,O1.d,O2.d,O3.d,cmI,arI,Z1,Z2,↓reduceIte,Nat.reduceLT,Nat.reduceSub,Nat.reduceAdd,Int.reduceAdd,Int.reduceEq,Int.reduceLT,Int.reduceLE,ZD,ZE,ZeU]
 refine mc.lp_for (List Int) (fun i o=>[⟨L B,l⟩,⟨I,(i:Int)⟩,⟨L I,o⟩]) (fun i o=>o=ZN (fun k=>l.getD k false) i) l.length 0 [] _ rfl (Nat.zero_le _) rfl ?_ ?_
 ·rintro i o hi rfl
  have h1:=@ZO (fun k=>l.getD k false) i
  simp+contextual(maxSteps:=1000000)(disch:=omega)only[↓Sd,↓So,↓Sk,↓den,↓Z0,Sa,Sb,Sc,Se,O1.d,O2.d,O3.d,cmI,arI,Z1,Z2,↓reduceIte,Nat.reduceLT,Nat.reduceSub,Nat.reduceAdd,Int.reduceAdd,Int.reduceEq,Int.reduceLT,Int.reduceLE,ZD,ZE,↓ZF,]
  exact ⟨fun g=>(ZiR g).symm,fun g=>(ZiS g).symm⟩
 ·rintro o rfl
  simp+contextual(maxSteps:=1000000)(disch:=omega)only[↓Sd,↓So,↓Sk,↓den,↓Z0,Sa,Sb,Sc,Se,O1.d,O2.d,O3.d,cmI,arI,Z1,Z2,↓reduceIte,Nat.reduceLT,Nat.reduceSub,Nat.reduceAdd,Int.reduceAdd,Int.reduceEq,Int.reduceLT,Int.reduceLE,ZD,ZE,]
theorem Zj7 (p:Nat→Bool) (n:Nat) (hn:n≤1048576) (Q:List AV→Prop):mc.C ZcW [⟨L B,tab p n⟩] Q=Q [⟨L I,ZN p n⟩]:=by
 rw [Zj6 _ (by rw [ZK];exact hn),ZK,ZiT fun k hk=>ZL hk]
def behind (T:List (List Int)) (p:Nat→Bool) (n:Nat) (k:Nat):Prop:=∃a,a<n∧p a=true∧(k:Int)∈T.getD a []
theorem Zj8 (l:List Int) (hl:l.length≤1048576) (Q:List AV→Prop):mc.C ZcS [⟨L I,l⟩] Q=Q [⟨B,decide (ZT l 400)⟩]:=by
 refine Mc.Ends.c (mc.ends ZgL ?_)
 generalize hK:decide (ZT l 400)=K
 simp+contextual(maxSteps:=1000000)(disch:=omega)only[↓Sd,↓So,↓Sk,↓den,↓Z0,Sa,Sb,Sc,Se,O1.d,O2.d,O3.d,cmI,arI,Z1,Z2,↓reduceIte,Nat.reduceLT,Nat.reduceSub,Nat.reduceAdd,Int.reduceAdd,Int.reduceEq,Int.reduceLT,Int.reduceLE,ZD,ZE,ZeQ]
 refine ZgT (fun i=>[⟨L I,l⟩,⟨I,(i:Int)⟩]) (fun i=>(0≤l.getD i 0∧l.getD i 0≤400 - 1)∧(0<i→l.getD (i - 1) 0<l.getD i 0)) l.length _ rfl ?_ ?_
 ·intro i hi
  have hno:¬((0≤l.getD i 0∧l.getD i 0≤400 - 1)∧(0<i→l.getD (i - 1) 0<l.getD i 0))→false=K:=fun h=>by rw [←hK,decide_eq_false];exact fun h1=>h (h1 i hi)
  simp+contextual(maxSteps:=1000000)(disch:=omega)only[↓Sd,↓So,↓Sk,↓den,↓Z0,Sa,Sb,Sc,Se,O1.d,O2.d,O3.d,cmI,arI,Z1,Z2,↓reduceIte,Nat.reduceLT,Nat.reduceSub,Nat.reduceAdd,Int.reduceAdd,Int.reduceEq,Int.reduceLT,Int.reduceLE,ZD,ZE,↓ZF,ZgX]
  grind
 ·intro h
  simp+contextual(maxSteps:=1000000)(disch:=omega)only[↓Sd,↓So,↓Sk,↓den,↓Z0,Sa,Sb,Sc,Se,O1.d,O2.d,O3.d,cmI,arI,Z1,Z2,↓reduceIte,Nat.reduceLT,Nat.reduceSub,Nat.reduceAdd,Int.reduceAdd,Int.reduceEq,Int.reduceLT,Int.reduceLE,ZD,ZE,]
  rw [←hK,decide_eq_true];exact h
theorem Zj9 {p q:Nat→Bool} {N M:Nat} (h:N≤M) (h1:∀k,k<N→p k=q k) (h2:∀k,N≤k→k<M→p k=false):ZN p M=ZN q N:=by
 induction M with
 | zero => have : N = 0 := by omega
           subst this;rfl
 | succ M ih =>
  rcases Nat.lt_or_eq_of_le h with h3 | rfl
  ·rw [ZiS (by rw [h2 M (by omega) (by omega)];simp)]
   exact ih (by omega) fun k h4 h5=>h2 k h4 (by omega)
  ·exact ZiT h1
theorem Zja {p:Nat→Bool} {n k:Nat}:dB ((k:Int)∈ZN p n)=(decide (k<n)&&p k):=by
 by_cases h:k<n∧p k=true
 ·rw [ZQ (ZP.2 ⟨k,h.1,rfl,h.2⟩)];simp [h]
 ·rw [ZR]
  ·by_cases h1:k<n
   ·have:p k=false:=by cases h2:p k with | false=>rfl | true=>exact absurd ⟨h1,h2⟩ h
    simp [this]
   ·simp [h1]
  ·intro h1
   obtain ⟨j,h2,h3,h4⟩:=ZP.1 h1
   have:k=j:=by omega
   subst this
   exact h ⟨h2,h4⟩
theorem Zjb {p q:Nat→Bool}:∀{n:Nat},(∀k,k<n→p k=true→q k=true)→(ZN p n).length≤(ZN q n).length∧((ZN q n).length≤(ZN p n).length→∀k,k<n→q k=true→p k=true)
 | 0,_=>⟨Nat.le_refl _,fun _ k hk=>absurd hk (Nat.not_lt_zero _)⟩
 | n+1,h=>by
  obtain ⟨h1,h2⟩:=Zjb (n:=n) fun k hk=>h k (by omega)
  by_cases hp:p n=true
  ·have hq:=h n (by omega) hp
   rw [ZiR hp,ZiR hq]
   simp only [List.length_append,List.length_cons,List.length_nil]
   refine ⟨by omega,fun h3 k hk hqk=>?_⟩
   rcases Nat.lt_succ_iff_lt_or_eq.1 hk with h4 | rfl
   ·exact h2 (by omega) k h4 hqk
   ·exact hp
  ·rw [ZiS hp]
   by_cases hq:q n=true
   ·rw [ZiR hq]
    simp only [List.length_append,List.length_cons,List.length_nil]
    exact ⟨by omega,fun h3=>absurd h3 (by omega)⟩
   ·rw [ZiS hq]
    refine ⟨h1,fun h3 k hk hqk=>?_⟩
    rcases Nat.lt_succ_iff_lt_or_eq.1 hk with h4 | rfl
    ·exact h2 h3 k h4 hqk
    ·exact absurd hqk hq
theorem Zjc (a b:List Int) (N:Nat) (hN:N=400) (ha:ZT a 400) (hb:ZT b 400) (Q:List AV→Prop):mc.C ZcT [⟨L I,a⟩,⟨L I,b⟩,⟨I,2⟩] Q=Q [⟨L I,ZN (fun k=>dB ((k:Int)∈a)&&!dB ((k:Int)∈b)) N⟩]:=by
 have la:=Zj0 ha (by omega)
 have lb:=Zj0 hb (by omega)
 have ma:=ZiZ ha
 have mb:=ZiZ hb
 refine Mc.Ends.c (mc.ends ZgM ?_)
 simp+contextual(maxSteps:=1000000)(disch:=omega)only[↓Sd,↓So,↓Sk,↓den,↓Z0,Sa,Sb,Sc,Se,O1.d,O2.d,O3.d,cmI,arI,Z1,Z2,↓reduceIte,Nat.reduceLT,Nat.reduceSub,Nat.reduceAdd,Int.reduceAdd,Int.reduceEq,Int.reduceLT,Int.reduceLE,ZD,ZE,ZeR,Zj8 a (by omega),Zj8 b (by omega),ha,hb,Zj5 a 400 N (by omega) (by omega) (by omega) (fun x hx=>by have:=ma x hx;omega),Zj5 b 400 N (by omega) (by omega) (by omega) (fun x hx=>by have:=mb x hx;omega)]
 refine mc.lp_for (List Int) (fun i o=>[⟨I,2⟩,⟨I,(i:Int)⟩,⟨L I,o⟩,⟨L B,tab (fun k=>dB ((k:Int)∈a)) N⟩,⟨L B,tab (fun k=>dB ((k:Int)∈b)) N⟩]) (fun i o=>o=ZN (fun k=>dB ((k:Int)∈a)&&!dB ((k:Int)∈b)) i) N 0 [] _ rfl (Nat.zero_le _) rfl ?_ ?_
 ·rintro i o hi rfl
  have hl:=@ZO (fun k=>dB ((k:Int)∈a)&&!dB ((k:Int)∈b)) i
  simp+contextual(maxSteps:=1000000)(disch:=omega)only[↓Sd,↓So,↓Sk,↓den,↓Z0,Sa,Sb,Sc,Se,O1.d,O2.d,O3.d,cmI,arI,Z1,Z2,↓reduceIte,Nat.reduceLT,Nat.reduceSub,Nat.reduceAdd,Int.reduceAdd,Int.reduceEq,Int.reduceLT,Int.reduceLE,ZD,ZE,]
  refine mc.wp_join (fun us=>us=[⟨I,2⟩,⟨I,(i:Int)⟩,⟨L I,ZN (fun k=>dB ((k:Int)∈a)&&!dB ((k:Int)∈b)) (i+1)⟩,⟨L B,tab (fun k=>dB ((k:Int)∈a)) N⟩,⟨L B,tab (fun k=>dB ((k:Int)∈b)) N⟩]) ?_ (by rintro _ rfl;simp+contextual(maxSteps:=1000000)(disch:=omega)only[↓Sd,↓So,↓Sk,↓den,↓Z0,Sa,Sb,Sc,Se,O1.d,O2.d,O3.d,cmI,arI,Z1,Z2,↓reduceIte,Nat.reduceLT,Nat.reduceSub,Nat.reduceAdd,Int.reduceAdd,Int.reduceEq,Int.reduceLT,Int.reduceLE,ZD,ZE,])
  simp only [ZN]
  simp+contextual(maxSteps:=1000000)(disch:=omega)only[↓Sd,↓So,↓Sk,↓den,↓Z0,Sa,Sb,Sc,Se,O1.d,O2.d,O3.d,cmI,arI,Z1,Z2,↓reduceIte,Nat.reduceLT,Nat.reduceSub,Nat.reduceAdd,Int.reduceAdd,Int.reduceEq,Int.reduceLT,Int.reduceLE,ZD,ZE,ZK,ZL hi,Bool.and_eq_true,Bool.not_eq_true',Bool.true_and,Bool.and_true,Bool.and_false,Bool.false_and,Bool.not_false,Bool.not_true]
 ·rintro o rfl
  simp+contextual(maxSteps:=1000000)(disch:=omega)only[↓Sd,↓So,↓Sk,↓den,↓Z0,Sa,Sb,Sc,Se,O1.d,O2.d,O3.d,cmI,arI,Z1,Z2,↓reduceIte,Nat.reduceLT,Nat.reduceSub,Nat.reduceAdd,Int.reduceAdd,Int.reduceEq,Int.reduceLT,Int.reduceLE,ZD,ZE,]
theorem Zjd (a b:List Int) (ha:ZT a 400) (hb:ZT b 400) (Q:List AV→Prop):mc.C ZcU [⟨L I,a⟩,⟨L I,b⟩] Q=Q [⟨L I,ZN (fun k=>dB ((k:Int)∈a)&&!dB ((k:Int)∈b)) 400⟩]:=by
 refine Mc.Ends.c (mc.ends ZgN ?_)
 obtain ⟨N,hN⟩:∃N:Nat,N=400:=⟨_,rfl⟩
 rw [←hN]
 simp+contextual(maxSteps:=1000000)(disch:=omega)only[↓Sd,↓So,↓Sk,↓den,↓Z0,Sa,Sb,Sc,Se,O1.d,O2.d,O3.d,cmI,arI,Z1,Z2,↓reduceIte,Nat.reduceLT,Nat.reduceSub,Nat.reduceAdd,Int.reduceAdd,Int.reduceEq,Int.reduceLT,Int.reduceLE,ZD,ZE,ZeS,Zjc a b N hN ha hb]
theorem Zje {p q:Nat→Bool} {n:Nat} (h:n≤400):ZN (fun k=>dB ((k:Int)∈ZN p n)&&!dB ((k:Int)∈ZN q n)) 400=ZN (fun k=>p k&&!q k) n :=
 Zj9 h (fun k hk=>by simp [Zja,hk]) fun k h1 _=>by have:¬k<n:=(by omega);simp [Zja,this]
inductive Rch (T:List (List Int)) (F:List Int):Nat→Prop
 | base {k:Nat}:(k:Int)∈F→Rch T F k
 | step {a k:Nat}:Rch T F a→(k:Int)∈T.getD a []→Rch T F k
def Tbl (T:List (List Int)) (n:Nat):Prop:=T.length=n∧∀r∈T,r.length≤1048576∧∀x∈r,0≤x∧x<n
theorem Tbl.row {T:List (List Int)} {n i:Nat} (h:Tbl T n):∀x∈T.getD i [],0≤x∧x<n:=by
 intro x hx
 by_cases hi:i<T.length
 ·exact (h.2 _ (ZH hi)).2 x hx
 ·rw [List.getD_eq_getElem?_getD,List.getElem?_eq_none (by omega)] at hx
  cases hx
theorem Rch.lt {T:List (List Int)} {F:List Int} {n k:Nat} (h:Tbl T n) (hF:∀x∈F,x<n) (hk:Rch T F k):k<n:=by
 induction hk with
 | base h1=>have:=hF _ h1;omega
 | step _ h1=>have:=h.row _ h1;omega
theorem Zjf {s:Sy} (h:valid s):Tbl (steps s) (szn s.1):=by
 have hz:=ZM h
 refine ⟨ZK,fun r hr=>?_⟩
 simp only [steps,tab,List.mem_map,List.mem_range] at hr
 obtain ⟨i,hi,rfl⟩:=hr
 refine ⟨by simp only [ZiJ,List.length_map];exact Nat.le_trans (ZiK h) (by omega),fun x hx=>?_⟩
 simp only [ZiJ,List.mem_map] at hx
 obtain ⟨y,hy,rfl⟩:=hx
 have:=Zit h.2.2.1 (ZiL y hy)
 omega
theorem Zjg {T:List (List Int)} {F:List Int} {n:Nat} {p:Nat→Bool} (h:Tbl T n) (hF:∀x∈F,0≤x∧x<n) (h1:∀k,k<n→(k:Int)∈F→p k=true) (h2:∀k,k<n→p k=true→Rch T F k)
  (h3:∀a,a<n→p a=true→∀k:Nat,(k:Int)∈T.getD a []→p k=true):∀k,k<n→p k=dB (Rch T F k):=by
 have key:∀k,Rch T F k→k<n∧p k=true:=by
  intro k hk
  induction hk with
  | base h4=>have:=hF _ h4;exact ⟨by omega,h1 _ (by omega) h4⟩
  | step _ h4 ih=>have:=h.row _ h4;exact ⟨by omega,h3 _ ih.1 ih.2 _ h4⟩
 intro k hk
 by_cases h4:p k=true
 ·rw [h4,ZQ (h2 k hk h4)]
 ·rw [ZR fun h5=>h4 (key k h5).2];simpa using h4
theorem Zjh {c:Prop} [Decidable c] {b:Bool} (h:b=true):(if c then true else b)=true:=by
 split
 ·rfl
 ·exact h
def cntF (p:Nat→Bool) (n:Nat):Nat:=(ZN (fun k=>!p k) n).length
theorem Zji {p:Nat→Bool} {n:Nat}:cntF p n≤n:=ZO
theorem Zjj {p:Nat→Bool} {j:Nat} (hp:p j=false):∀{n:Nat},j<n→cntF (fun k=>if k=j then true else p k) n+1=cntF p n
 | 0,h=>absurd h (Nat.not_lt_zero _)
 | n+1,h=>by
  unfold cntF
  by_cases hj:n=j
  ·subst hj
   rw [ZiS (by simp),ZiR (by simp [hp]),ZiT (q:=fun k=>!p k) fun k hk=>by
    have:¬k=n:=by omega
    simp [this]]
   simp
  ·have ih:(ZN (fun k=>!(if k=j then true else p k)) n).length+1=(ZN (fun k=>!p k) n).length:=Zjj hp (by omega)
   by_cases hq:p n=true
   ·rw [ZiS (by simp [hj,hq]),ZiS (by simp [hq])];exact ih
   ·rw [ZiR (by simp [hj,hq]),ZiR (by simp [hq])]
    simp only [List.length_append,List.length_cons,List.length_nil]
    omega
theorem Zjk (T:List (List Int)) (F:List Int) (n:Nat) (hn:n≤1000) (ht:Tbl T n) (hF:∀x∈F,0≤x∧x<n) (hFl:F.length≤1000) (Q:List AV→Prop):mc.C ZcI [⟨L (L I),T⟩,⟨L I,F⟩] Q=Q [⟨L B,tab (fun k=>dB (Rch T F k)) n⟩]:=by
 have hl:=ht.1
 refine Mc.Ends.c (mc.ends ZgB ?_)
 simp+contextual(maxSteps:=1000000)(disch:=omega)only[↓Sd,↓So,↓Sk,↓den,↓Z0,Sa,Sb,Sc,Se,O1.d,O2.d,O3.d,cmI,arI,Z1,Z2,↓reduceIte,Nat.reduceLT,Nat.reduceSub,Nat.reduceAdd,Int.reduceAdd,Int.reduceEq,Int.reduceLT,Int.reduceLE,ZD,ZE,ZeG,hl]
 refine mc.lp_for (List Bool) (fun i o=>[⟨L (L I),T⟩,⟨L I,F⟩,⟨I,(F.length:Int)⟩,⟨I,(i:Int)⟩,⟨L B,o⟩,⟨L I,F⟩]) (fun i o=>o=tab (fun k=>dB ((k:Int)∈F.take i)) n) F.length 0 (List.replicate n false) _ rfl (Nat.zero_le _) ?_ ?_ ?_
 ·rw [ZiY];exact ZS fun k _=>(ZR (by simp)).symm
 ·rintro i o hi rfl
  have hx:=hF _ (ZH (d:=0) hi)
  simp+contextual(maxSteps:=1000000)(disch:=omega)only[↓Sd,↓So,↓Sk,↓den,↓Z0,Sa,Sb,Sc,Se,O1.d,O2.d,O3.d,cmI,arI,Z1,Z2,↓reduceIte,Nat.reduceLT,Nat.reduceSub,Nat.reduceAdd,Int.reduceAdd,Int.reduceEq,Int.reduceLT,Int.reduceLE,ZD,ZE,ZK,ZiX]
  refine ZS fun k hk=>?_
  by_cases hk2:k=(F.getD i 0).toNat
  ·rw [if_pos hk2,ZQ];exact (ZU hi).2 (.inr (by omega))
  ·rw [if_neg hk2];refine ZiW ?_
   rw [ZU hi]
   exact ⟨.inl,fun h=>h.elim id fun h=>absurd h (by omega)⟩
 rintro o rfl
 rw [List.take_length]
 simp+contextual(maxSteps:=1000000)(disch:=omega)only[↓Sd,↓So,↓Sk,↓den,↓Z0,Sa,Sb,Sc,Se,O1.d,O2.d,O3.d,cmI,arI,Z1,Z2,↓reduceIte,Nat.reduceLT,Nat.reduceSub,Nat.reduceAdd,Int.reduceAdd,Int.reduceEq,Int.reduceLT,Int.reduceLE,ZD,ZE,]
 refine mc.lp_inv (fun j us=>∃(p:Nat→Bool) (q:List Int),us=[⟨L (L I),T⟩,⟨L B,tab p n⟩,⟨L I,q⟩]∧(∀x∈q,(0≤x∧x<n)∧p x.toNat=true)∧(∀k,k<n→(k:Int)∈F→p k=true)∧(∀k,k<n→p k=true→Rch T F k) ∧
  (∀a,a<n→p a=true→(a:Int)∉q→∀k:Nat,(k:Int)∈T.getD a []→p k=true)∧q.length+cntF p n≤2000∧j=2 * cntF p n+q.length) _ _
  ⟨fun k=>dB ((k:Int)∈F),F,rfl,?_,fun k _ h=>ZQ h,fun k _ h=>.base (ZiV.1 h),fun a _ h1 h2=>absurd (ZiV.1 h1) h2,?_,rfl⟩ ?_
 ·intro x hx
  have:=hF x hx
  exact ⟨this,ZQ (by rw [show ((x.toNat:Nat):Int)=x by omega];exact hx)⟩
 ·have:=@Zji (fun k=>dB ((k:Int)∈F)) n;omega
 rintro j us ⟨p,q,rfl,i1,i2,i3,i4,i5,rfl⟩
 cases q with
 | nil =>
  simp+contextual(maxSteps:=1000000)(disch:=omega)only[↓Sd,↓So,↓Sk,↓den,↓Z0,Sa,Sb,Sc,Se,O1.d,O2.d,O3.d,cmI,arI,Z1,Z2,↓reduceIte,Nat.reduceLT,Nat.reduceSub,Nat.reduceAdd,Int.reduceAdd,Int.reduceEq,Int.reduceLT,Int.reduceLE,ZD,ZE,]
  exact ZS (Zjg ht hF i2 i3 fun a ha hp k hk=>i4 a ha hp (by simp) k hk)
 | cons x q =>
  obtain ⟨⟨hx0,hx1⟩,hxp⟩:=i1 x (List.mem_cons_self ..)
  have hrow:=ht.row (i:=x.toNat)
  have hrl:(T.getD x.toNat []).length≤1048576:=(ht.2 _ (ZH (by omega))).1
  simp only [List.length_cons] at i5
  obtain ⟨row,hr⟩:∃row,T.getD x.toNat []=row:=⟨_,rfl⟩
  rw [hr] at hrow hrl
  simp+contextual(maxSteps:=1000000)(disch:=omega)only[↓Sd,↓So,↓Sk,↓den,↓Z0,Sa,Sb,Sc,Se,O1.d,O2.d,O3.d,cmI,arI,Z1,Z2,↓reduceIte,Nat.reduceLT,Nat.reduceSub,Nat.reduceAdd,Int.reduceAdd,Int.reduceEq,Int.reduceLT,Int.reduceLE,ZD,ZE,hl,hr,List.drop_succ_cons,List.drop_zero]
  refine mc.lp_for ((Nat→Bool)×List Int) (fun j s=>[⟨L (L I),T⟩,⟨L I,row⟩,⟨I,(row.length:Int)⟩,⟨I,(j:Int)⟩,⟨L B,tab s.1 n⟩,⟨L I,s.2⟩]) (fun j s=>(∀x∈s.2,(0≤x∧x<n)∧s.1 x.toNat=true)∧(∀k,k<n→p k=true→s.1 k=true)∧(∀k,k<n→s.1 k=true→Rch T F k) ∧
   (∀k:Nat,(k:Int)∈row.take j→s.1 k=true)∧(∀a,a<n→s.1 a=true→(a:Int)∉s.2→(a:Int)≠x→∀k:Nat,(k:Int)∈T.getD a []→s.1 k=true)∧s.2.length+cntF s.1 n≤q.length+cntF p n∧cntF s.1 n≤cntF p n) row.length 0 (p,q) _ rfl (Nat.zero_le _)
   ⟨fun y hy=>i1 y (List.mem_cons_of_mem _ hy),fun _ _ h=>h,i3,by simp,fun a h1 h2 h3 h4=>i4 a h1 h2 (by simp only [List.mem_cons,not_or];exact ⟨h4,h3⟩),Nat.le_refl _,Nat.le_refl _⟩ ?_ ?_
  ·rintro j ⟨p',q'⟩ hj ⟨a1,a2,a3,a4,a5,a6,a7⟩
   simp only at a1 a2 a3 a4 a5 a6 a7
   have hy:=hrow _ (ZH (d:=0) hj)
   obtain ⟨y,hy2⟩:∃y:Nat,row.getD j 0=y:=⟨(row.getD j 0).toNat,by omega⟩
   have hyn:y<n:=by omega
   have hyr:Rch T F y:=.step (i3 x.toNat (by omega) hxp) (by rw [hr,←hy2];exact ZH hj)
   simp+contextual(maxSteps:=1000000)(disch:=omega)only[↓Sd,↓So,↓Sk,↓den,↓Z0,Sa,Sb,Sc,Se,O1.d,O2.d,O3.d,cmI,arI,Z1,Z2,↓reduceIte,Nat.reduceLT,Nat.reduceSub,Nat.reduceAdd,Int.reduceAdd,Int.reduceEq,Int.reduceLT,Int.reduceLE,ZD,ZE,↓ZF,hy2,ZK,ZL hyn,ZiX]
   refine ⟨fun g=>?_,fun g=>?_⟩
   ·have hc:=Zjj g hyn
    refine ⟨(fun k=>if k=y then true else p' k,q'++[(y:Int)]),⟨rfl,rfl⟩,?_,?_,?_,?_,?_,?_,?_⟩
    ·intro z hz
     rcases List.mem_append.1 hz with h | h
     ·have:=a1 z h;exact ⟨this.1,Zjh this.2⟩
     ·simp only [List.mem_singleton] at h;subst h;exact ⟨by omega,by simp⟩
    ·intro k hk h;exact Zjh (a2 k hk h)
    ·intro k hk h
     by_cases hky:k=y
     ·rw [hky];exact hyr
     ·exact a3 k hk (by simpa [hky] using h)
    ·intro k hk
     simp only []
     split
     ·rfl
     ·rename_i hky
      rcases (ZU hj).1 hk with h | h
      ·exact a4 k h
      ·exact absurd (by omega) hky
    ·intro a ha h1 h2 h3 k hk
     simp only [List.mem_append,List.mem_singleton,not_or] at h2
     have hay:¬a=y:=fun h=>h2.2 (by rw [h])
     simp only []
     split
     ·rfl
     ·exact a5 a ha (by simpa [hay] using h1) h2.1 h3 k hk
    ·simp only [List.length_append,List.length_cons,List.length_nil];omega
    ·simp only [];omega
   ·refine ⟨(p',q'),⟨rfl,rfl⟩,a1,a2,a3,fun k hk=>?_,a5,a6,a7⟩
    rcases (ZU hj).1 hk with h | h
    ·exact a4 k h
    ·rw [show k=y by omega];simpa using g
  ·rintro ⟨p',q'⟩ ⟨a1,a2,a3,a4,a5,a6,a7⟩
   rw [List.take_length] at a4
   simp only at a6 a7
   simp+contextual(maxSteps:=1000000)(disch:=omega)only[↓Sd,↓So,↓Sk,↓den,↓Z0,Sa,Sb,Sc,Se,O1.d,O2.d,O3.d,cmI,arI,Z1,Z2,↓reduceIte,Nat.reduceLT,Nat.reduceSub,Nat.reduceAdd,Int.reduceAdd,Int.reduceEq,Int.reduceLT,Int.reduceLE,ZD,ZE,]
   refine ⟨_,?_,p',q',⟨rfl,rfl⟩,a1,fun k hk h=>a2 k hk (i2 k hk h),a3,fun a ha h1 h2 k hk=>?_,by omega,rfl⟩
   ·omega
   ·by_cases hax:(a:Int)=x
    ·rw [←hr] at a4;exact a4 k (by rw [←hax];exact hk)
    ·exact a5 a ha h1 h2 hax k hk
theorem Zjl (s:Sy) (l:List Tm) (hs:ZI s) (hf:Few l) (Q:List AV→Prop):mc.C ZcM [⟨L V3,s.1⟩,⟨L TR,s.2⟩,⟨L T4,l⟩] Q=Q [⟨B,decide (valid s∧kf l s.1.length=2)⟩]:=by
 refine Mc.Ends.c (mc.ends ZgF ?_)
 generalize hK:decide (valid s∧kf l s.1.length=2)=K
 simp+contextual(maxSteps:=1000000)(disch:=omega)only[↓Sd,↓So,↓Sk,↓den,↓Z0,Sa,Sb,Sc,Se,O1.d,O2.d,O3.d,cmI,arI,Z1,Z2,↓reduceIte,Nat.reduceLT,Nat.reduceSub,Nat.reduceAdd,Int.reduceAdd,Int.reduceEq,Int.reduceLT,Int.reduceLE,ZD,ZE,ZeK,Zhu s hs,Zhc l _ hf]<;>grind
theorem Zjm {p:Nat→Bool} {n:Nat}:(ZN p n).length=0↔∀k,k<n→p k=false:=by
 constructor
 ·intro h k hk
  cases hp:p k with
  | false=>rfl
  | true =>
   have:=(ZP (p:=p) (n:=n) (x:=k)).2 ⟨k,hk,rfl,hp⟩
   rw [List.eq_nil_of_length_eq_zero h] at this
   cases this
 ·intro h
  cases hl:ZN p n with
  | nil=>rfl
  | cons x l =>
   obtain ⟨k,h1,_,h3⟩:=(ZP (p:=p) (n:=n) (x:=x)).1 (by rw [hl];simp)
   rw [h k h1] at h3
   cases h3
theorem Zjn (l:List Bool) (hl:l.length≤1048576) (Q:List AV→Prop):mc.C Zci [⟨L B,l⟩] Q=Q [⟨L I,ZN (fun k=>l.getD k false) l.length⟩]:=by
 refine Mc.Ends.c (mc.ends Zga ?_)
 simp+contextual(maxSteps:=1000000)(disch:=omega)only[↓Sd,↓So,↓Sk,↓den,↓Z0,Sa,Sb,Sc,Se,O1.d,O2.d,O3.d,cmI,arI,Z1,Z2,↓reduceIte,Nat.reduceLT,Nat.reduceSub,Nat.reduceAdd,Int.reduceAdd,Int.reduceEq,Int.reduceLT,Int.reduceLE,ZD,ZE,Zef]
 refine mc.lp_for (List Int) (fun i o=>[⟨L B,l⟩,⟨I,(l.length:Int)⟩,⟨I,(i:Int)⟩,⟨L I,o⟩]) (fun i o=>o=ZN (fun k=>l.getD k false) i) l.length 0 [] _ rfl (Nat.zero_le _) rfl ?_ ?_
 ·rintro i o hi rfl
  have h1:=@ZO (fun k=>l.getD k false) i
  simp+contextual(maxSteps:=1000000)(disch:=omega)only[↓Sd,↓So,↓Sk,↓den,↓Z0,Sa,Sb,Sc,Se,O1.d,O2.d,O3.d,cmI,arI,Z1,Z2,↓reduceIte,Nat.reduceLT,Nat.reduceSub,Nat.reduceAdd,Int.reduceAdd,Int.reduceEq,Int.reduceLT,Int.reduceLE,ZD,ZE,↓ZF,]
  exact ⟨fun g=>(ZiR g).symm,fun g=>(ZiS g).symm⟩
 ·rintro o rfl
  have h1:=@ZO (fun k=>l.getD k false) l.length
  simp+contextual(maxSteps:=1000000)(disch:=omega)only[↓Sd,↓So,↓Sk,↓den,↓Z0,Sa,Sb,Sc,Se,O1.d,O2.d,O3.d,cmI,arI,Z1,Z2,↓reduceIte,Nat.reduceLT,Nat.reduceSub,Nat.reduceAdd,Int.reduceAdd,Int.reduceEq,Int.reduceLT,Int.reduceLE,ZD,ZE,ZhU (ZN (fun k=>l.getD k false) l.length) (by omega)]
theorem Zjo (p:Nat→Bool) (n:Nat) (hn:n≤1048576) (Q:List AV→Prop):mc.C Zci [⟨L B,tab p n⟩] Q=Q [⟨L I,ZN p n⟩]:=by
 rw [Zjn _ (by rw [ZK];exact hn),ZK,ZiT fun k hk=>ZL hk]
theorem Zjp (l:List Int) (m:Int) (hm:0≤m∧m≤1048576) (hl:l.length≤1048576) (Q:List AV→Prop):mc.C ZbS [⟨L I,l⟩,⟨I,m⟩] Q=Q [⟨B,decide (ZT l m)⟩]:=by
 refine Mc.Ends.c (mc.ends ZfK ?_)
 generalize hK:decide (ZT l m)=K
 simp+contextual(maxSteps:=1000000)(disch:=omega)only[↓Sd,↓So,↓Sk,↓den,↓Z0,Sa,Sb,Sc,Se,O1.d,O2.d,O3.d,cmI,arI,Z1,Z2,↓reduceIte,Nat.reduceLT,Nat.reduceSub,Nat.reduceAdd,Int.reduceAdd,Int.reduceEq,Int.reduceLT,Int.reduceLE,ZD,ZE,ZdP]
 refine ZgT (fun i=>[⟨L I,l⟩,⟨I,m⟩,⟨L I,l⟩,⟨I,(l.length:Int)⟩,⟨I,(i:Int)⟩]) (fun i=>(0≤l.getD i 0∧l.getD i 0≤m - 1)∧(0<i→l.getD (i - 1) 0<l.getD i 0)) l.length _ rfl ?_ ?_
 ·intro i hi
  have hno:¬((0≤l.getD i 0∧l.getD i 0≤m - 1)∧(0<i→l.getD (i - 1) 0<l.getD i 0))→false=K:=fun h=>by rw [←hK,decide_eq_false];exact fun h1=>h (h1 i hi)
  simp+contextual(maxSteps:=1000000)(disch:=omega)only[↓Sd,↓So,↓Sk,↓den,↓Z0,Sa,Sb,Sc,Se,O1.d,O2.d,O3.d,cmI,arI,Z1,Z2,↓reduceIte,Nat.reduceLT,Nat.reduceSub,Nat.reduceAdd,Int.reduceAdd,Int.reduceEq,Int.reduceLT,Int.reduceLE,ZD,ZE,↓ZF,ZgY]
  grind
 ·intro h
  simp+contextual(maxSteps:=1000000)(disch:=omega)only[↓Sd,↓So,↓Sk,↓den,↓Z0,Sa,Sb,Sc,Se,O1.d,O2.d,O3.d,cmI,arI,Z1,Z2,↓reduceIte,Nat.reduceLT,Nat.reduceSub,Nat.reduceAdd,Int.reduceAdd,Int.reduceEq,Int.reduceLT,Int.reduceLE,ZD,ZE,]
  rw [←hK,decide_eq_true];exact h
def Zjq (s:Sy) (l:List Int):Prop:=valid s∧ZT l (sz s.1)
instance (s : Sy) (l : List Int) : Decidable (Zjq s l) := by unfold Zjq; infer_instance
theorem Zjq.n {s:Sy} {l:List Int} (h:Zjq s l):ZT l (szn s.1):=by rw [(ZM h.1).1];exact h.2
theorem Zjq.len {s:Sy} {l:List Int} (h:Zjq s l):l.length≤400:=by
 have h1:=Zj0 h.n (by omega)
 have h2:=ZM h.1
 omega
theorem Zjq.mem {s:Sy} {l:List Int} (h:Zjq s l):∀x∈l,0≤x∧x<(szn s.1:Int):=ZiZ h.n
theorem Zjr {s:Sy} (h:valid s):1≤sz s.1∧sz s.1≤400:=by have:=ZM h;omega
theorem Zjs (s:Sy) (l:List Int) (hs:ZI s) (hl:l.length≤1048576) (Q:List AV→Prop):mc.C Zbg [⟨L V3,s.1⟩,⟨L TR,s.2⟩,⟨L I,l⟩] Q=Q [⟨B,decide (Zjq s l)⟩]:=by
 refine Mc.Ends.c (mc.ends Zf8 ?_)
 generalize hK:decide (Zjq s l)=K
 simp+contextual(maxSteps:=1000000)(disch:=omega)only[↓Sd,↓So,↓Sk,↓den,↓Z0,Sa,Sb,Sc,Se,O1.d,O2.d,O3.d,cmI,arI,Z1,Z2,↓reduceIte,Nat.reduceLT,Nat.reduceSub,Nat.reduceAdd,Int.reduceAdd,Int.reduceEq,Int.reduceLT,Int.reduceLE,ZD,ZE,Zdd,Zhv s hs]
 obtain ⟨m,hm⟩:∃m:Int,(if valid s then sz s.1 else 0)=m:=⟨_,rfl⟩
 have hb:0≤m∧m≤400:=by
  rw [←hm]
  split
  ·rename_i h;have:=Zjr h;omega
  ·omega
 have hiff:Zjq s l↔(ZT l m∧0<m):=by
  rw [←hm]
  by_cases h:valid s
  ·have:=Zjr h
   rw [if_pos h];exact ⟨fun g=>⟨g.2,by omega⟩,fun g=>⟨h,g.1⟩⟩
  ·rw [if_neg h];exact ⟨fun g=>absurd g.1 h,fun g=>by omega⟩
 rw [hm]
 refine ZgT (fun i=>[⟨L I,l⟩,⟨I,m⟩,⟨I,(i:Int)⟩]) (fun i=>(0≤l.getD i 0∧l.getD i 0≤m - 1)∧(0<i→l.getD (i - 1) 0<l.getD i 0)) l.length _ rfl ?_ ?_
 ·intro i hi
  have hno:¬((0≤l.getD i 0∧l.getD i 0≤m - 1)∧(0<i→l.getD (i - 1) 0<l.getD i 0))→false=K:=fun h=>by rw [←hK,decide_eq_false];exact fun h1=>h ((hiff.1 h1).1 i hi)
  simp+contextual(maxSteps:=1000000)(disch:=omega)only[↓Sd,↓So,↓Sk,↓den,↓Z0,Sa,Sb,Sc,Se,O1.d,O2.d,O3.d,cmI,arI,Z1,Z2,↓reduceIte,Nat.reduceLT,Nat.reduceSub,Nat.reduceAdd,Int.reduceAdd,Int.reduceEq,Int.reduceLT,Int.reduceLE,ZD,ZE,↓ZF,ZgX]
  grind
 ·intro h
  simp+contextual(maxSteps:=1000000)(disch:=omega)only[↓Sd,↓So,↓Sk,↓den,↓Z0,Sa,Sb,Sc,Se,O1.d,O2.d,O3.d,cmI,arI,Z1,Z2,↓reduceIte,Nat.reduceLT,Nat.reduceSub,Nat.reduceAdd,Int.reduceAdd,Int.reduceEq,Int.reduceLT,Int.reduceLE,ZD,ZE,]
  rw [←hK]
  exact decide_eq_decide.2 ⟨fun g=>hiff.2 ⟨h,g⟩,fun g=>(hiff.1 g).2⟩
def Zjt (T:List (List Int)) (k:Nat):Nat→List Int
 | 0=>[]
 | m+1=>Zjt T k m++List.replicate ((T.getD m []).count (k:Int)) (m:Int)
theorem Zju {T:List (List Int)} {k:Nat} {x:Int}:∀{m:Nat},x∈Zjt T k m↔∃a,a<m∧x=(a:Int)∧(k:Int)∈T.getD a []
 | 0=>by simp [Zjt]
 | m+1=>by
  simp only [Zjt,List.mem_append,List.mem_replicate,Zju (m:=m)]
  constructor
  ·rintro (⟨a,h1,h2,h3⟩ | ⟨h1,h2⟩)
   ·exact ⟨a,by omega,h2,h3⟩
   ·exact ⟨m,by omega,h2,List.count_pos_iff.1 (by omega)⟩
  ·rintro ⟨a,h1,h2,h3⟩
   rcases Nat.lt_succ_iff_lt_or_eq.1 h1 with h | rfl
   ·exact .inl ⟨a,h,h2,h3⟩
   ·exact .inr ⟨by have:=List.count_pos_iff.2 h3;omega,h2⟩
theorem Zjv {T:List (List Int)} {k:Nat} (h:∀r∈T,r.length≤8):∀{m:Nat},(Zjt T k m).length≤8 * m
 | 0=>by simp [Zjt]
 | m+1=>by
  have ih:=Zjv (k:=k) h (m:=m)
  have h1:(T.getD m []).count (k:Int)≤(T.getD m []).length:=List.count_le_length
  have h2:(T.getD m []).length≤8:=by
   by_cases hm:m<T.length
   ·exact h _ (ZH hm)
   ·rw [List.getD_eq_getElem?_getD,List.getElem?_eq_none (by omega)];simp
  simp only [Zjt,List.length_append,List.length_replicate]
  omega
def Tb8 (T:List (List Int)) (n:Nat):Prop:=Tbl T n∧n≤400∧∀r∈T,r.length≤8
theorem Zjw {s:Sy} (h:valid s):Tb8 (steps s) (szn s.1):=by
 refine ⟨Zjf h,(ZM h).2.2,fun r hr=>?_⟩
 simp only [steps,tab,List.mem_map,List.mem_range] at hr
 obtain ⟨i,hi,rfl⟩:=hr
 simp only [ZiJ,List.length_map]
 exact ZiK h
theorem Zjx {l:List Int} {j:Nat} {x:Int} (h:j<l.length):(l.take (j+1)).count x=(l.take j).count x+if l.getD j 0=x then 1 else 0:=by
 rw [←ZhY (d:=0) h,List.count_append,List.count_singleton]
 by_cases h1:l.getD j 0=x
 ·simp [h1]
 ·simp [h1]
def Zjy (T:List (List Int)) (n:Nat):List (List Int):=tab (fun k=>Zjt T k n) n
theorem Zjz (T:List (List Int)) (n:Nat) (ht:Tb8 T n) (Q:List AV→Prop):mc.C ZcG [⟨L (L I),T⟩] Q=Q [⟨L (L I),Zjy T n⟩]:=by
 obtain ⟨ht,hn,h8⟩:=ht
 have hl:=ht.1
 refine Mc.Ends.c (mc.ends Zgz ?_)
 simp+contextual(maxSteps:=1000000)(disch:=omega)only[↓Sd,↓So,↓Sk,↓den,↓Z0,Sa,Sb,Sc,Se,O1.d,O2.d,O3.d,cmI,arI,Z1,Z2,↓reduceIte,Nat.reduceLT,Nat.reduceSub,Nat.reduceAdd,Int.reduceAdd,Int.reduceEq,Int.reduceLT,Int.reduceLE,ZD,ZE,ZeE,hl]
 refine mc.lp_for (List (List Int)) (fun i o=>[⟨L (L I),T⟩,⟨I,(n:Int)⟩,⟨I,(i:Int)⟩,⟨L (L I),o⟩]) (fun i o=>o=tab (fun k=>Zjt T k i) n) n 0 (List.replicate n []) _ rfl (Nat.zero_le _) ?_ ?_ ?_
 ·rw [ZiY];rfl
 ·rintro i o hi rfl
  have hrow:=ht.row (i:=i)
  have hrl:(T.getD i []).length≤8:=h8 _ (ZH (by omega))
  simp+contextual(maxSteps:=1000000)(disch:=omega)only[↓Sd,↓So,↓Sk,↓den,↓Z0,Sa,Sb,Sc,Se,O1.d,O2.d,O3.d,cmI,arI,Z1,Z2,↓reduceIte,Nat.reduceLT,Nat.reduceSub,Nat.reduceAdd,Int.reduceAdd,Int.reduceEq,Int.reduceLT,Int.reduceLE,ZD,ZE,hl]
  refine mc.lp_for (List (List Int)) (fun j o=>[⟨I,(i:Int)⟩,⟨L (L I),T⟩,⟨I,(n:Int)⟩,⟨I,(i:Int)⟩,⟨L I,T.getD i []⟩,⟨I,((T.getD i []).length:Int)⟩,⟨I,(j:Int)⟩,⟨L (L I),o⟩]) (fun j o=>o=tab (fun k=>Zjt T k i++List.replicate (((T.getD i []).take j).count (k:Int)) (i:Int)) n) (T.getD i []).length 0 _ _ rfl (Nat.zero_le _) ?_ ?_ ?_
  ·exact ZS fun k _=>by simp
  ·rintro j o hj rfl
   have hx:=hrow _ (ZH (d:=0) hj)
   obtain ⟨x,hxe⟩:∃x:Nat,(T.getD i []).getD j 0=x:=⟨((T.getD i []).getD j 0).toNat,by omega⟩
   have hxn:x<n:=by omega
   have hpl:=Zjv (k:=x) h8 (m:=i)
   have hc:((T.getD i []).take j).count (x:Int)≤8:=Nat.le_trans List.count_le_length (by rw [List.length_take];omega)
   have hlen:(Zjt T x i).length+(List.replicate (((T.getD i []).take j).count (x:Int)) (i:Int)).length≤4000:=by
    rw [List.length_replicate];omega
   simp+contextual(maxSteps:=1000000)(disch:=omega)only[↓Sd,↓So,↓Sk,↓den,↓Z0,Sa,Sb,Sc,Se,O1.d,O2.d,O3.d,cmI,arI,Z1,Z2,↓reduceIte,Nat.reduceLT,Nat.reduceSub,Nat.reduceAdd,Int.reduceAdd,Int.reduceEq,Int.reduceLT,Int.reduceLE,ZD,ZE,hxe,ZK,ZL hxn,ZiX]
   refine ZS fun k hk=>?_
   rw [Zjx hj,hxe]
   by_cases hkx:k=x
   ·subst hkx;rw [if_pos rfl,if_pos rfl,List.replicate_succ',List.append_assoc]
   ·rw [if_neg hkx,if_neg (by omega),Nat.add_zero]
  ·rintro o rfl
   rw [List.take_length]
   simp+contextual(maxSteps:=1000000)(disch:=omega)only[↓Sd,↓So,↓Sk,↓den,↓Z0,Sa,Sb,Sc,Se,O1.d,O2.d,O3.d,cmI,arI,Z1,Z2,↓reduceIte,Nat.reduceLT,Nat.reduceSub,Nat.reduceAdd,Int.reduceAdd,Int.reduceEq,Int.reduceLT,Int.reduceLE,ZD,ZE,]
   rfl
 ·rintro o rfl
  simp+contextual(maxSteps:=1000000)(disch:=omega)only[↓Sd,↓So,↓Sk,↓den,↓Z0,Sa,Sb,Sc,Se,O1.d,O2.d,O3.d,cmI,arI,Z1,Z2,↓reduceIte,Nat.reduceLT,Nat.reduceSub,Nat.reduceAdd,Int.reduceAdd,Int.reduceEq,Int.reduceLT,Int.reduceLE,ZD,ZE,]
  rfl
theorem ZjA {T:List (List Int)} {n k:Nat} (h:k<n):(Zjy T n).getD k []=Zjt T k n:=ZL h
theorem ZjB {T:List (List Int)} {n:Nat} (h:Tb8 T n):Tbl (Zjy T n) n:=by
 refine ⟨ZK,fun r hr=>?_⟩
 simp only [Zjy,tab,List.mem_map,List.mem_range] at hr
 obtain ⟨k,hk,rfl⟩:=hr
 have h1:=Zjv (k:=k) h.2.2 (m:=n)
 have h2:=h.2.1
 refine ⟨by omega,fun x hx=>?_⟩
 obtain ⟨a,h3,rfl,_⟩:=Zju.1 hx
 omega
def ahead (T:List (List Int)) (p:Nat→Bool) (n:Nat) (k:Nat):Prop:=∃b,b<n∧p b=true∧(b:Int)∈T.getD k []
theorem ZjC (T:List (List Int)) (p:Nat→Bool) (n:Nat) (hn:n≤1048576) (ht:Tbl T n) (Q:List AV→Prop):mc.C ZcV [⟨L (L I),T⟩,⟨L B,tab p n⟩] Q=Q [⟨L B,tab (fun k=>dB (ahead T p n k)) n⟩]:=by
 have hT:=ht.1
 refine Mc.Ends.c (mc.ends ZgO ?_)
 simp+contextual(maxSteps:=1000000)(disch:=omega)only[↓Sd,↓So,↓Sk,↓den,↓Z0,Sa,Sb,Sc,Se,O1.d,O2.d,O3.d,cmI,arI,Z1,Z2,↓reduceIte,Nat.reduceLT,Nat.reduceSub,Nat.reduceAdd,Int.reduceAdd,Int.reduceEq,Int.reduceLT,Int.reduceLE,ZD,ZE,ZeT,hT]
 refine mc.lp_for (List Bool) (fun i o=>[⟨L (L I),T⟩,⟨L B,tab p n⟩,⟨I,(i:Int)⟩,⟨L B,o⟩]) (fun i o=>o=tab (fun k=>decide (k<i)&&dB (ahead T p n k)) n) n 0 (List.replicate n false) _ rfl (Nat.zero_le _) ?_ ?_ ?_
 ·rw [ZiY];exact ZS fun k _=>by simp
 ·rintro i o hi rfl
  have hrow:=ht.row (i:=i)
  have hrl:(T.getD i []).length≤1048576:=(ht.2 _ (ZH (by omega))).1
  simp+contextual(maxSteps:=1000000)(disch:=omega)only[↓Sd,↓So,↓Sk,↓den,↓Z0,Sa,Sb,Sc,Se,O1.d,O2.d,O3.d,cmI,arI,Z1,Z2,↓reduceIte,Nat.reduceLT,Nat.reduceSub,Nat.reduceAdd,Int.reduceAdd,Int.reduceEq,Int.reduceLT,Int.reduceLE,ZD,ZE,hT]
  refine mc.lp_for (List Bool) (fun j o=>[⟨L (L I),T⟩,⟨L B,tab p n⟩,⟨I,(i:Int)⟩,⟨I,(j:Int)⟩,⟨L B,o⟩]) (fun j o=>o=tab (fun k=>(decide (k<i)&&dB (ahead T p n k))||decide (k=i)&&dB (∃b,b<n∧p b=true∧(b:Int)∈(T.getD i []).take j)) n) (T.getD i []).length 0 _ _ rfl (Nat.zero_le _) ?_ ?_ ?_
  ·exact ZS fun k _=>by rw [ZR (p:=∃b,b<n∧p b=true∧(b:Int)∈(T.getD i []).take 0) (by simp)];simp
  ·rintro j o hj rfl
   have hy:=hrow _ (ZH (d:=0) hj)
   obtain ⟨y,hye⟩:∃y:Nat,(T.getD i []).getD j 0=y:=⟨((T.getD i []).getD j 0).toNat,by omega⟩
   have hyn:y<n:=by omega
   simp+contextual(maxSteps:=1000000)(disch:=omega)only[↓Sd,↓So,↓Sk,↓den,↓Z0,Sa,Sb,Sc,Se,O1.d,O2.d,O3.d,cmI,arI,Z1,Z2,↓reduceIte,Nat.reduceLT,Nat.reduceSub,Nat.reduceAdd,Int.reduceAdd,Int.reduceEq,Int.reduceLT,Int.reduceLE,ZD,ZE,↓ZF,hT,hye,ZK,ZL hyn,ZiX]
   refine ⟨fun g=>ZS fun k hk=>?_,fun g=>ZS fun k hk=>?_⟩
   ·by_cases hki:k=i
    ·subst hki
     rw [if_pos rfl,ZQ (p:=∃b,b<n∧p b=true∧(b:Int)∈(T.getD k []).take (j+1)) ⟨y,hyn,g,(ZU hj).2 (.inr hye.symm)⟩]
     simp
    ·simp [hki]
   ·congr 2
    refine ZiW ⟨fun ⟨b,h1,h2,h3⟩=>⟨b,h1,h2,(ZU hj).2 (.inl h3)⟩,fun ⟨b,h1,h2,h3⟩=>⟨b,h1,h2,?_⟩⟩
    rcases (ZU hj).1 h3 with h | h
    ·exact h
    ·have:b=y:=by omega
     subst this;exact absurd h2 g
  ·rintro o rfl
   rw [List.take_length]
   simp+contextual(maxSteps:=1000000)(disch:=omega)only[↓Sd,↓So,↓Sk,↓den,↓Z0,Sa,Sb,Sc,Se,O1.d,O2.d,O3.d,cmI,arI,Z1,Z2,↓reduceIte,Nat.reduceLT,Nat.reduceSub,Nat.reduceAdd,Int.reduceAdd,Int.reduceEq,Int.reduceLT,Int.reduceLE,ZD,ZE,hT]
   refine ZS fun k hk=>?_
   by_cases hki:k=i
   ·subst hki;simp;rfl
   ·by_cases hlt:k<i
    ·simp [hki,hlt,show k<i+1 by omega]
    ·simp [hki,hlt,show ¬k<i+1 by omega]
 ·rintro o rfl
  simp+contextual(maxSteps:=1000000)(disch:=omega)only[↓Sd,↓So,↓Sk,↓den,↓Z0,Sa,Sb,Sc,Se,O1.d,O2.d,O3.d,cmI,arI,Z1,Z2,↓reduceIte,Nat.reduceLT,Nat.reduceSub,Nat.reduceAdd,Int.reduceAdd,Int.reduceEq,Int.reduceLT,Int.reduceLE,ZD,ZE,hT]
  exact ZS fun k hk=>by simp [hk]
theorem ZjD (l:List Int) (x:Int) (hl:l.length≤1048576) (Q:List AV→Prop):mc.C Zbz [⟨L I,l⟩,⟨I,x⟩] Q=Q [⟨B,dB (x∈l)⟩]:=by
 refine Mc.Ends.c (mc.ends Zfr ?_)
 generalize hK:dB (x∈l)=K
 simp+contextual(maxSteps:=1000000)(disch:=omega)only[↓Sd,↓So,↓Sk,↓den,↓Z0,Sa,Sb,Sc,Se,O1.d,O2.d,O3.d,cmI,arI,Z1,Z2,↓reduceIte,Nat.reduceLT,Nat.reduceSub,Nat.reduceAdd,Int.reduceAdd,Int.reduceEq,Int.reduceLT,Int.reduceLE,ZD,ZE,Zdw]
 refine ZgT (fun i=>[⟨L I,l⟩,⟨I,x⟩,⟨I,(i:Int)⟩]) (fun i=>¬l.getD i 0=x) l.length _ rfl ?_ ?_
 ·intro i hi
  simp+contextual(maxSteps:=1000000)(disch:=omega)only[↓Sd,↓So,↓Sk,↓den,↓Z0,Sa,Sb,Sc,Se,O1.d,O2.d,O3.d,cmI,arI,Z1,Z2,↓reduceIte,Nat.reduceLT,Nat.reduceSub,Nat.reduceAdd,Int.reduceAdd,Int.reduceEq,Int.reduceLT,Int.reduceLE,ZD,ZE,]
  intro h
  rw [←hK,ZQ]
  rw [←h];exact ZH hi
 ·intro h
  simp+contextual(maxSteps:=1000000)(disch:=omega)only[↓Sd,↓So,↓Sk,↓den,↓Z0,Sa,Sb,Sc,Se,O1.d,O2.d,O3.d,cmI,arI,Z1,Z2,↓reduceIte,Nat.reduceLT,Nat.reduceSub,Nat.reduceAdd,Int.reduceAdd,Int.reduceEq,Int.reduceLT,Int.reduceLE,ZD,ZE,]
  rw [←hK,ZR]
  intro hx
  obtain ⟨i,hi,rfl⟩:=List.getElem_of_mem hx
  exact h i hi (getD_lt hi)
def ZjE (T:List (List Int)) (n:Nat):List (List Int):=tab (fun k=>ZN (fun m=>(T.getD m []).contains (k:Int)) n) n
theorem ZjF {T:List (List Int)} {n:Nat} (hn:n≤1048576):Tbl (ZjE T n) n:=by
 refine ⟨ZK,fun r hr=>?_⟩
 simp only [ZjE,tab,List.mem_map,List.mem_range] at hr
 obtain ⟨k,hk,rfl⟩:=hr
 refine ⟨Nat.le_trans ZO hn,fun x hx=>?_⟩
 obtain ⟨a,h3,rfl,_⟩:=ZP.1 hx
 omega
theorem ZjG {T:List (List Int)} {n k a:Nat} (h:k<n):(a:Int)∈(ZjE T n).getD k []↔a<n∧(k:Int)∈T.getD a []:=by
 rw [ZjE,ZL h,ZP]
 constructor
 ·rintro ⟨b,h1,h2,h3⟩
  have:a=b:=by omega
  subst this
  exact ⟨h1,by simpa using h3⟩
 ·rintro ⟨h1,h2⟩
  exact ⟨a,h1,rfl,by simpa using h2⟩
theorem ZjH {l:List Int} {x:Int}:dB (x∈l)=l.contains x:=by
 by_cases h:x∈l
 ·rw [ZQ h];simp [h]
 ·rw [ZR h];simp [h]
end Go.Proofs.YtknlennollmgeaaGreat
