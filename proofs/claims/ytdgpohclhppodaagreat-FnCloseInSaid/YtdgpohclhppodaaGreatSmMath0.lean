/- What the trees come to: plain mathematics; no condition. -/
import Derived.Test.YtdgpohclhppodaaGreatSmTrees0
set_option linter.unusedSimpArgs false
set_option linter.unusedVariables false
namespace Go.Proofs.YtdgpohclhppodaaGreat
open Go Go.Sm Go.Sm.Q
abbrev Tm:=Int×Int×Int×Int
abbrev Vr:=Int×Int×Int
abbrev Ru:=List Tm×List Int×List (List Tm)
abbrev Sy:=List Vr×List Ru
def Few {α:Type} (l:List α):Prop:=l.length≤1048576
theorem getD_lt {α:Type} {l:List α} {i:Nat} {d:α} (h:i<l.length):l.getD i d=l[i]:=by simp [h]
theorem ZJ {α:Type} {l:List α} {i:Nat} {d:α} (h:i<l.length):l.getD i d∈l:=by rw [getD_lt h];exact List.getElem_mem h
theorem Zis {M:Mc} {b:Tr} {Q:Out→Prop} (mk:Nat→List AV) (p:Nat→Prop) (N:Nat) (us:List AV) (hus:us=mk 0)
  (hb:∀i,i<N→M.wp b (Z1 (mk i)) (onJ (fun us=>us=mk (i+1)∧p i) Q))
  (he:(∀i,i<N→p i)→M.wp b (Z1 (mk N)) (onJ (fun _=>False) Q)):M.LP b us Q:=by
 refine M.lp_for Unit (fun i _=>mk i) (fun i _=>∀j,j<i→p j) N 0 () us hus (Yf _) (fun j hj=>absurd hj (Nat.not_lt_zero _)) ?_ ?_
 ·rintro i - hi hp
  refine M.wp_mono _ _ _ _ (Zbe (fun us hu=>⟨(),hu.1,fun j hj=>?_⟩) fun o h=>h) (hb i hi)
  rcases Nat.lt_succ_iff_lt_or_eq.1 hj with h | rfl
  ·exact hp j h
  ·exact hu.2
 ·rintro - hp
  exact he hp
def Zit {α:Type} (l:List α):Prop:=l.length≤9223372036854775807
def Ziu (r:Ru):Prop:=Few r.1∧Few r.2.1∧Few r.2.2∧∀x∈r.2.2,Few x
def ZK (s:Sy):Prop:=Few s.1∧Few s.2∧∀x∈s.2,Ziu x
theorem Ziv {α:Type} {l:List α} (h:Few l):(l.length:Int)≤1048576:=by unfold Few at h;omega
theorem Ziw (n a b:Int) (Q:List AV→Prop):mc.C Zbt [⟨I,n⟩,⟨I,a⟩,⟨I,b⟩] Q=Q [⟨B,decide (a≤n∧n≤b)⟩]:=by
 refine Mc.Ends.c (mc.ends Zgc ?_)
 simp+contextual(maxSteps:=9^6)(disch:=omega)only[↓YR,↓den,↓Z0,YS,O1.d,O2.d,O3.d,cmI,arI,Z1,Z2,seval,ZF,ZG,ZdR]<;>grind
theorem Zix (n a b:Int) (Q:List AV→Prop):mc.C ZbM [⟨I,n⟩,⟨I,a⟩,⟨I,b⟩] Q=Q [⟨B,decide (a≤n∧n≤b)⟩]:=by
 refine Mc.Ends.c (mc.ends Zgv ?_)
 simp+contextual(maxSteps:=9^6)(disch:=omega)only[↓YR,↓den,↓Z0,YS,O1.d,O2.d,O3.d,cmI,arI,Z1,Z2,seval,ZF,ZG,Ze9]<;>grind
theorem Ziy (n:Int) (Q:List AV→Prop):mc.C Zbu [⟨I,n⟩] Q=Q [⟨B,decide (n=7)⟩]:=by
 refine Mc.Ends.c (mc.ends Zgd ?_)
 simp+contextual(maxSteps:=9^6)(disch:=omega)only[↓YR,↓den,↓Z0,YS,O1.d,O2.d,O3.d,cmI,arI,Z1,Z2,seval,ZF,ZG,ZdS]
 grind
theorem Ziz (n:Int) (Q:List AV→Prop):mc.C ZbP [⟨I,n⟩] Q=Q [⟨I,if 2≤n∧n≤9 then (if n=7 then 1 else 2) else 0⟩,⟨I,if 2≤n∧n≤9 then (if 7≤n then 2 else 1) else 0⟩,⟨I,if 5≤n∧n≤9 then 2 else 1⟩]:=by
 refine Mc.Ends.c (mc.ends Zgy ?_)
 simp+contextual(maxSteps:=9^6)(disch:=omega)only[↓YR,↓den,↓Z0,YS,O1.d,O2.d,O3.d,cmI,arI,Z1,Z2,seval,ZF,ZG,Zec]
 intro h1 h2 h3 h4 h5 h6 h7 h8
 rw [if_neg (by omega),if_neg (by omega),if_neg (by omega)];exact ⟨rfl,rfl,rfl⟩
def kd (t:Tm) (ks:List Int) (vars:Int):Int :=
 if t.1=0 then (if -9999≤t.2.1∧t.2.1≤9999∧t.2.2.1=0∧t.2.2.2=0 then 1 else 0)
 else if t.1=1 then (if 0≤t.2.1∧t.2.1≤vars - 1∧t.2.2.1=0∧t.2.2.2=0 then 1 else 0)
 else if 2≤t.1∧t.1≤9∧t.2.1=0∧(0≤t.2.2.1∧t.2.2.1<ks.length)∧(0≤t.2.2.2∧t.2.2.2<ks.length) ∧
   ks.getD t.2.2.1.toNat 0=(if 7≤t.1 then 2 else 1)∧ks.getD t.2.2.2.toNat 0=(if 7≤t.1 then 2 else 1)∧(t.1=7→t.2.2.2=t.2.2.1) then (if 5≤t.1 then 2 else 1)
 else 0
theorem ZiA {t:Tm} {ks:List Int} {vars:Int} (h:kd t ks vars≠0):kd t ks vars=if 5≤t.1∧t.1≤9 then 2 else 1:=by
 unfold kd at h ⊢
 grind
def kds (vars:Int):List Tm→List Int→Option (List Int)
 | [],ks=>some ks
 | t::l,ks=>if kd t ks vars=0 then none else kds vars l (ks++[kd t ks vars])
def ZiB (l:List Tm) (vars:Int):List Int:=if (0≤vars∧vars≤5)∧1≤l.length∧l.length≤40 then (kds vars l []).getD [] else []
def kf (l:List Tm) (vars:Int):Int:=(ZiB l vars).getLastD 0
theorem ZiC {vars:Int}:∀{l:List Tm} {ks o:List Int},kds vars l ks=some o→o.length=ks.length+l.length
 | [],ks,o,h=>by cases h;simp
 | t::l,ks,o,h=>by
  simp only [kds] at h
  split at h
  ·cases h
  ·have:=ZiC h
   simp only [Y7,YA,List.length_nil] at this ⊢
   omega
theorem ZiD {α:Type} {l:List α} {i:Nat} {d:α} (h:i<l.length):l.drop i=l.getD i d::l.drop (i+1):=by
 rw [getD_lt h];exact List.drop_eq_getElem_cons h
def Nt (p:Prop):Prop:=¬p
theorem ZiE {o n a b vars w:Int} {ks:List Int} (hw:(if 7≤o then (2:Int) else 1)=w) (h3:2≤o∧o≤9) (h4:n=0) (h5:0≤a∧a<ks.length) (h6:0≤b∧b<ks.length) :
  kd (o,n,a,b) ks vars=if ks.getD a.toNat 0=w∧ks.getD b.toNat 0=w∧(o=7→b=a) then (if 5≤o then 2 else 1) else 0:=by
 simp only [kd,hw]
 rw [if_neg (by omega),if_neg (by omega)]
 simp only [h3,h4,h5,h6,true_and]
theorem ZiF (t:Tm) (ks:List Int) (vars:Int) (hv:0≤vars∧vars≤5) (hk:ks.length≤40) (Q:List AV→Prop) :
  mc.C Zbv [⟨I,t.1⟩,⟨I,t.2.1⟩,⟨I,t.2.2.1⟩,⟨I,t.2.2.2⟩,⟨L I,ks⟩,⟨I,vars⟩] Q=Q [⟨I,kd t ks vars⟩]:=by
 refine Mc.Ends.c (mc.ends Zge ?_)
 obtain ⟨o,n,a,b⟩:=t
 generalize hK:kd (o,n,a,b) ks vars=K
 simp+contextual(maxSteps:=9^6)(disch:=omega)only[↓YR,↓den,↓Z0,YS,O1.d,O2.d,O3.d,cmI,arI,Z1,Z2,seval,ZF,ZG,ZdT,Ziw,Ziy]
 refine mc.wp_join (fun us=>us=[⟨L I,ks⟩,⟨I,vars⟩,⟨I,o⟩,⟨I,n⟩,⟨I,a⟩,⟨I,b⟩]∧Nt (o=0 ∧ -9999≤n∧n≤9999∧a=0∧b=0)) ?_ ?_
 ·simp+contextual(maxSteps:=9^6)(disch:=omega)only[↓YR,↓den,↓Z0,YS,O1.d,O2.d,O3.d,cmI,arI,Z1,Z2,seval,ZF,ZG,Ziw,Ziy]
  simp only [kd,Nt] at hK ⊢
  grind
 rintro _ ⟨rfl,h1⟩
 refine mc.wp_join (fun us=>us=[⟨L I,ks⟩,⟨I,o⟩,⟨I,n⟩,⟨I,a⟩,⟨I,b⟩]∧Nt (o=1∧0≤n∧n≤vars - 1∧a=0∧b=0)) ?_ ?_
 ·simp+contextual(maxSteps:=9^6)(disch:=omega)only[↓YR,↓den,↓Z0,YS,O1.d,O2.d,O3.d,cmI,arI,Z1,Z2,seval,ZF,ZG,Ziw,Ziy]
  simp only [kd,Nt] at hK ⊢
  grind
 rintro _ ⟨rfl,h2⟩
 simp+contextual(maxSteps:=9^6)(disch:=omega)only[↓YR,↓den,↓Z0,YS,O1.d,O2.d,O3.d,cmI,arI,Z1,Z2,seval,ZF,ZG,Ziw,Ziy]
 refine ⟨fun h3=>?_,fun h3=>⟨fun h4=>?_,fun h4=>⟨fun h5=>?_,fun h5=>⟨fun h6=>?_,fun h6=>?_⟩⟩⟩⟩
 ·unfold Nt at h1 h2;simp only [kd] at hK;grind
 ·unfold Nt at h1 h2;simp only [kd] at hK;grind
 ·unfold Nt at h1 h2;simp only [kd] at hK;grind
 ·unfold Nt at h1 h2;simp only [kd] at hK;grind
 clear h1 h2
 generalize hw:(if 7≤o then (2:Int) else 1)=w
 rw [ZiE hw (by omega) (by omega) (by omega) (by omega)] at hK
 refine mc.wp_join (fun us=>us=[⟨L I,ks⟩,⟨I,w⟩,⟨I,o⟩,⟨I,n⟩,⟨I,a⟩,⟨I,b⟩]) ?_ ?_
 ·simp+contextual(maxSteps:=9^6)(disch:=omega)only[↓YR,↓den,↓Z0,YS,O1.d,O2.d,O3.d,cmI,arI,Z1,Z2,seval,ZF,ZG,]
  exact ⟨fun h=>⟨by rw [←hw,if_pos h],h4.symm⟩,fun h=>⟨by rw [←hw,if_neg h],h4.symm⟩⟩
 rintro _ rfl
 refine mc.wp_join (fun us=>us=[⟨I,o⟩,⟨I,n⟩,⟨I,a⟩,⟨I,b⟩]∧ks.getD a.toNat 0=w∧ks.getD b.toNat 0=w∧(o=7→b=a)) ?_ ?_
 ·simp+contextual(maxSteps:=9^6)(disch:=omega)only[↓YR,↓den,↓Z0,YS,O1.d,O2.d,O3.d,cmI,arI,Z1,Z2,seval,ZF,ZG,Ziy]
  grind
 ·rintro _ ⟨rfl,h7,h8,h9⟩
  simp+contextual(maxSteps:=9^6)(disch:=omega)only[↓YR,↓den,↓Z0,YS,O1.d,O2.d,O3.d,cmI,arI,Z1,Z2,seval,ZF,ZG,]
  rw [if_pos ⟨h7,h8,h9⟩] at hK
  grind
theorem ZiG (l:List Tm) (vars:Int) (hl:Few l) (Q:List AV→Prop):mc.C Zbw [⟨L T4,l⟩,⟨I,vars⟩] Q=Q [⟨L I,ZiB l vars⟩]:=by
 have:=Ziv hl
 refine Mc.Ends.c (mc.ends Zgf ?_)
 simp+contextual(maxSteps:=9^6)(disch:=omega)only[↓YR,↓den,↓Z0,YS,O1.d,O2.d,O3.d,cmI,arI,Z1,Z2,seval,ZF,ZG,ZdU,Ziw]
 unfold ZiB
 refine ⟨fun h=>by rw [if_neg (by omega)],fun h1=>⟨fun h=>by rw [if_neg (by omega)],fun h2=>?_⟩⟩
 rw [if_pos (by omega)]
 refine mc.lp_for (List Int) (fun i s=>[⟨L T4,l⟩,⟨I,vars⟩,⟨I,(i:Int)⟩,⟨L I,s⟩]) (fun i s=>s.length=i∧kds vars (l.drop i) s=kds vars l []) l.length 0 [] _ rfl (Yf _) ⟨rfl,rfl⟩ ?_ ?_
 ·rintro i s hi ⟨hs,hk⟩
  simp+contextual(maxSteps:=9^6)(disch:=omega)only[↓YR,↓den,↓Z0,YS,O1.d,O2.d,O3.d,cmI,arI,Z1,Z2,seval,ZF,ZG,ZiF (l.getD i (0,0,0,0)) s vars (by omega) (by omega)]
  rw [ZiD (d:=(0,0,0,0)) hi] at hk
  simp only [kds] at hk
  refine ⟨fun h=>by rw [←hk,if_pos h];rfl,fun h=>⟨by simp [hs],?_⟩⟩
  rw [←hk,if_neg h]
 ·rintro s ⟨hs,hk⟩
  simp+contextual(maxSteps:=9^6)(disch:=omega)only[↓YR,↓den,↓Z0,YS,O1.d,O2.d,O3.d,cmI,arI,Z1,Z2,seval,ZF,ZG,]
  rw [←hk,List.drop_length]
  rfl
theorem ZiH (l:List Tm) (vars:Int):(ZiB l vars).length≤40:=by
 unfold ZiB
 split
 ·cases h:kds vars l [] with
  | none=>simp
  | some o=>have:=ZiC h;simp at this ⊢;omega
 ·simp
theorem ZiI {l:List Tm} {vars:Int} (h:0<(ZiB l vars).length):(ZiB l vars).getD ((ZiB l vars).length - 1) 0=kf l vars:=by
 rw [kf,List.getLastD_eq_getLast?,List.getLast?_eq_getElem?]
 rfl
theorem ZiJ {l:List Tm} {vars:Int} (h:¬0<(ZiB l vars).length):kf l vars=0:=by
 have:ZiB l vars=[]:=List.eq_nil_of_length_eq_zero (by omega)
 rw [kf,this];rfl
theorem ZiK (l:List Tm) (vars k:Int) (hl:Few l) (hk:k≠0) (Q:List AV→Prop):mc.C ZcF [⟨L T4,l⟩,⟨I,vars⟩,⟨I,k⟩] Q=Q [⟨B,decide (kf l vars=k)⟩]:=by
 refine Mc.Ends.c (mc.ends Zho ?_)
 have hlen:=ZiH l vars
 simp+contextual(maxSteps:=9^6)(disch:=omega)only[↓YR,↓den,↓Z0,YS,O1.d,O2.d,O3.d,cmI,arI,Z1,Z2,seval,ZF,ZG,Zf2,ZiG l vars hl]
 refine ⟨fun h=>?_,fun h=>?_⟩
 ·rw [ZiI (by omega)];rfl
 ·rw [ZiJ (by omega)];exact (decide_eq_false (Ne.symm hk)).symm
theorem ZiL (l:List Tm) (vars:Int) (hl:Few l) (Q:List AV→Prop):mc.C ZbQ [⟨L T4,l⟩,⟨I,vars⟩] Q=Q [⟨N I,ZiB l vars⟩]:=by
 have:=Ziv hl
 refine Mc.Ends.c (mc.ends Zgz ?_)
 simp+contextual(maxSteps:=9^6)(disch:=omega)only[↓YR,↓den,↓Z0,YS,O1.d,O2.d,O3.d,cmI,arI,Z1,Z2,seval,ZF,ZG,Zed,Zix]
 unfold ZiB
 refine ⟨fun h=>by rw [if_neg (by omega)],fun h1=>⟨fun h=>by rw [if_neg (by omega)],fun h2=>?_⟩⟩
 rw [if_pos (by omega)]
 have h1:0≤vars∧vars≤5:=by omega
 have h2:1≤l.length∧l.length≤40:=by omega
 refine mc.lp_for (List Int) (fun i s=>[⟨I,vars⟩,⟨L T4,l⟩,⟨I,(l.length:Int)⟩,⟨I,(i:Int)⟩,⟨L I,s⟩]) (fun i s=>s.length=i∧kds vars (l.drop i) s=kds vars l []) l.length 0 [] _ rfl (Yf _) ⟨rfl,rfl⟩ ?_ ?_
 ·rintro i s hi ⟨hs,hk⟩
  simp+contextual(maxSteps:=9^6)(disch:=omega)only[↓YR,↓den,↓Z0,YS,O1.d,O2.d,O3.d,cmI,arI,Z1,Z2,seval,ZF,ZG,Zix,Ziz]
  refine mc.wp_join (fun us=>us=[⟨I,vars⟩,⟨I,if 5≤(l.getD i (0,0,0,0)).1∧(l.getD i (0,0,0,0)).1≤9 then 2 else 1⟩,⟨B,decide (kd (l.getD i (0,0,0,0)) s vars≠0)⟩,⟨L T4,l⟩,⟨I,(l.length:Int)⟩,⟨I,(i:Int)⟩,⟨L I,s⟩]) ?_ ?_
  ·obtain ⟨o,n,a,b,ht⟩:∃o n a b,l.getD i (0,0,0,0)=(o,n,a,b):=⟨_,_,_,_,rfl⟩
   subst hs
   rw [ht]
   generalize hK:decide (kd (o,n,a,b) s vars≠0)=K
   simp+contextual(maxSteps:=9^6)(disch:=omega)only[↓YR,↓den,↓Z0,YS,O1.d,O2.d,O3.d,cmI,arI,Z1,Z2,seval,ZF,ZG,Zix,Ziz,ht]
   refine ⟨fun h0=>?_,fun h0=>⟨fun h1=>?_,fun h1=>?_⟩⟩
   ·subst h0;simp only [kd,if_pos] at hK;grind
   ·subst h1;simp only [kd,if_pos] at hK;grind
   ·rw [←hK];simp only [kd,if_neg h0,if_neg h1];clear hK hk;grind
  ·rintro _ rfl
   rw [ZiD (d:=(0,0,0,0)) hi] at hk
   simp only [kds] at hk
   simp+contextual(maxSteps:=9^6)(disch:=omega)only[↓YR,↓den,↓Z0,YS,O1.d,O2.d,O3.d,cmI,arI,Z1,Z2,seval,ZF,ZG,]
   refine ⟨fun h=>?_,fun h=>⟨by simp [hs],?_⟩⟩
   ·rw [←hk,if_pos (by simpa using h)];rfl
   ·have h:kd (l.getD i (0,0,0,0)) s vars≠0:=by simpa using h
    rw [←hk,if_neg h,ZiA h]
 ·rintro s ⟨hs,hk⟩
  simp+contextual(maxSteps:=9^6)(disch:=omega)only[↓YR,↓den,↓Z0,YS,O1.d,O2.d,O3.d,cmI,arI,Z1,Z2,seval,ZF,ZG,]
  rw [←hk,List.drop_length]
  refine ⟨?_,rfl⟩
  cases s with
  | nil=>simp at hs;omega
  | cons a s=>rfl
theorem ZiM (l:List Tm) (vars:Int) (hl:Few l) (Q:List AV→Prop):mc.C ZbR [⟨L T4,l⟩,⟨I,vars⟩] Q=Q [⟨I,kf l vars⟩]:=by
 refine Mc.Ends.c (mc.ends ZgA ?_)
 have hlen:=ZiH l vars
 simp+contextual(maxSteps:=9^6)(disch:=omega)only[↓YR,↓den,↓Z0,YS,O1.d,O2.d,O3.d,cmI,arI,Z1,Z2,seval,ZF,ZG,Zee,ZiL l vars hl,List.isEmpty_iff]
 refine ⟨fun h=>?_,fun h=>?_⟩
 ·rw [ZiJ (by rw [h];simp)]
 ·have h0:0<(ZiB l vars).length:=YJ.2 h
  simp+contextual(maxSteps:=9^6)(disch:=omega)only[↓YR,↓den,↓Z0,YS,O1.d,O2.d,O3.d,cmI,arI,Z1,Z2,seval,ZF,ZG,]
  exact ZiI h0
def vOk (v:Vr):Prop := -9999≤v.1∧v.1≤v.2.1∧v.2.1≤9999∧v.2.1 - v.1<20∧v.1≤v.2.2∧v.2.2≤v.2.1
instance (v : Vr) : Decidable (vOk v) := by unfold vOk; infer_instance
theorem ZiN (v:Vr) (Q:List AV→Prop):mc.C ZbI [⟨I,v.1⟩,⟨I,v.2.1⟩,⟨I,v.2.2⟩] Q=Q [⟨B,decide (vOk v)⟩]:=by
 refine Mc.Ends.c (mc.ends Zgr ?_)
 generalize hK:decide (vOk v)=K
 simp+contextual(maxSteps:=9^6)(disch:=omega)only[↓YR,↓den,↓Z0,YS,O1.d,O2.d,O3.d,cmI,arI,Z1,Z2,seval,ZF,ZG,Ze5,Ziw]
 simp only [vOk] at hK
 grind
theorem ZiO (v:Vr) (Q:List AV→Prop):mc.C ZbN [⟨I,v.1⟩,⟨I,v.2.1⟩,⟨I,v.2.2⟩] Q=Q [⟨B,decide (vOk v)⟩]:=by
 refine Mc.Ends.c (mc.ends Zgw ?_)
 generalize hK:decide (vOk v)=K
 simp+contextual(maxSteps:=9^6)(disch:=omega)only[↓YR,↓den,↓Z0,YS,O1.d,O2.d,O3.d,cmI,arI,Z1,Z2,seval,ZF,ZG,Zea,Zix]
 simp only [vOk] at hK
 grind
def ZiP (r:Ru) (vars:Int) (i:Nat):Prop:=(0≤r.2.1.getD i 0∧r.2.1.getD i 0≤vars - 1)∧(0<i→r.2.1.getD (i - 1) 0<r.2.1.getD i 0)∧kf (r.2.2.getD i []) vars=1
def rOk (r:Ru) (vars:Int):Prop:=kf r.1 vars=2∧r.2.1.length=r.2.2.length∧∀i,i<r.2.1.length→ZiP r vars i
instance (r : Ru) (v : Int) (i : Nat) : Decidable (ZiP r v i) := by unfold ZiP; infer_instance
instance (r : Ru) (v : Int) : Decidable (rOk r v) := by unfold rOk; infer_instance
theorem ZiQ {r:Ru} {vars:Int} (h:∀i,i<r.2.1.length→ZiP r vars i):∀i,i<r.2.1.length→(i:Int)≤r.2.1.getD i 0:=by
 intro i
 induction i with
 | zero=>intro hi;exact (h 0 hi).1.1
 | succ i ih =>
  intro hi
  have h1:=ih (by omega)
  have h2:=(h (i+1) hi).2.1 (by omega)
  simp only [Nat.add_sub_cancel] at h2
  omega
theorem ZiR {r:Ru} {vars:Int} (h:∀i,i<r.2.1.length→ZiP r vars i):(r.2.1.length:Int)≤max vars 0:=by
 rcases Nat.eq_zero_or_pos r.2.1.length with h0 | h0
 ·omega
 ·have h1:=ZiQ h (r.2.1.length - 1) (by omega)
  have h2:=(h (r.2.1.length - 1) (by omega)).1.2
  omega
theorem ZiS (r:Ru) (vars:Int) (hv:0≤vars∧vars≤5) (hr:Ziu r) (Q:List AV→Prop):mc.C ZcG [⟨L T4,r.1⟩,⟨L I,r.2.1⟩,⟨L (L T4),r.2.2⟩,⟨I,vars⟩] Q=Q [⟨B,decide (rOk r vars)⟩]:=by
 obtain ⟨h1,h2,h3,h4⟩:=hr
 have b2:=Ziv h2
 have b3:=Ziv h3
 refine Mc.Ends.c (mc.ends Zhp ?_)
 generalize hK:decide (rOk r vars)=K
 simp+contextual(maxSteps:=9^6)(disch:=omega)only[↓YR,↓den,↓Z0,YS,O1.d,O2.d,O3.d,cmI,arI,Z1,Z2,seval,ZF,ZG,Zf3,ZiK _ _ 2 h1 (by omega)]
 refine ⟨fun g=>?_,fun g1=>⟨fun g=>?_,fun g2=>⟨fun g=>?_,fun g3=>?_⟩⟩⟩
 ·rw [←hK,decide_eq_false];exact fun h=>g h.1
 ·rw [←hK,decide_eq_false];exact fun h=>g (by rw [h.2.1])
 ·rw [←hK,decide_eq_false];exact fun h=>by have:=ZiR h.2.2;omega
 refine Zis (fun i=>[⟨I,vars⟩,⟨I,(i:Int)⟩,⟨L T4,r.1⟩,⟨L I,r.2.1⟩,⟨L (L T4),r.2.2⟩]) (ZiP r vars) r.2.1.length _ rfl ?_ ?_
 ·intro i hi
  have hno:¬ZiP r vars i→false=K:=fun h=>by rw [←hK,decide_eq_false];exact fun h1=>h (h1.2.2 i hi)
  have h5:=h4 (r.2.2.getD i []) (ZJ (by omega))
  simp+contextual(maxSteps:=9^6)(disch:=omega)only[↓YR,↓den,↓Z0,YS,O1.d,O2.d,O3.d,cmI,arI,Z1,Z2,seval,ZF,ZG,↓ZH,Ziw,ZiK _ _ 1 h5 (by omega)]
  simp only [ZiP] at hno ⊢
  grind
 ·intro h
  simp+contextual(maxSteps:=9^6)(disch:=omega)only[↓YR,↓den,↓Z0,YS,O1.d,O2.d,O3.d,cmI,arI,Z1,Z2,seval,ZF,ZG,]
  rw [←hK,decide_eq_true];exact ⟨g1,by omega,h⟩
theorem ZiT (r:Ru) (vars:Int) (hv:0≤vars∧vars≤5) (hr:Ziu r) (Q:List AV→Prop):mc.C ZbS [⟨L T4,r.1⟩,⟨L I,r.2.1⟩,⟨L (L T4),r.2.2⟩,⟨I,vars⟩] Q=Q [⟨B,decide (rOk r vars)⟩]:=by
 obtain ⟨h1,h2,h3,h4⟩:=hr
 have b2:=Ziv h2
 have b3:=Ziv h3
 refine Mc.Ends.c (mc.ends ZgB ?_)
 generalize hK:decide (rOk r vars)=K
 simp+contextual(maxSteps:=9^6)(disch:=omega)only[↓YR,↓den,↓Z0,YS,O1.d,O2.d,O3.d,cmI,arI,Z1,Z2,seval,ZF,ZG,Zef,ZiM _ _ h1]
 refine ⟨fun g=>?_,fun g1=>⟨fun g=>?_,fun g2=>?_⟩⟩
 ·rw [←hK,decide_eq_false];exact fun h=>g h.1
 ·rw [←hK,decide_eq_false];exact fun h=>g (by rw [h.2.1])
 refine Zis (fun i=>[⟨I,vars⟩,⟨L I,r.2.1⟩,⟨I,(r.2.2.length:Int)⟩,⟨I,(i:Int)⟩,⟨L T4,r.1⟩,⟨L I,r.2.1⟩,⟨L (L T4),r.2.2⟩]) (ZiP r vars) r.2.1.length _ rfl ?_ ?_
 ·intro i hi
  have hno:¬ZiP r vars i→false=K:=fun h=>by rw [←hK,decide_eq_false];exact fun h1=>h (h1.2.2 i hi)
  have h5:=h4 (r.2.2.getD i []) (ZJ (by omega))
  simp+contextual(maxSteps:=9^6)(disch:=omega)only[↓YR,↓den,↓Z0,YS,O1.d,O2.d,O3.d,cmI,arI,Z1,Z2,seval,ZF,ZG,↓ZH,Zix,ZiM _ _ h5]
  simp only [ZiP] at hno ⊢
  grind
 ·intro h
  simp+contextual(maxSteps:=9^6)(disch:=omega)only[↓YR,↓den,↓Z0,YS,O1.d,O2.d,O3.d,cmI,arI,Z1,Z2,seval,ZF,ZG,]
  rw [←hK,decide_eq_true];exact ⟨g1,by omega,h⟩
def wd (v:Vr):Int:=v.2.1 - v.1+1
def sz (l:List Vr):Int:=l.foldl (fun n v=>n * wd v) 1
def valid (s:Sy):Prop:=(1≤s.1.length∧s.1.length≤5)∧s.2.length≤8∧(∀v∈s.1,vOk v)∧(∀r∈s.2,rOk r s.1.length)∧sz s.1≤400
instance (s : Sy) : Decidable (valid s) := by unfold valid; infer_instance
theorem ZiU {v:Vr} (h:vOk v):1≤wd v∧wd v≤20:=by unfold vOk at h;unfold wd;omega
theorem szN (l:List Vr) (n:Nat):sz (l.take (n+1))=sz (l.take n) * (match l[n]? with | some v=>wd v | none=>1):=by
 unfold sz
 rw [List.take_add_one,List.foldl_append]
 cases l[n]?<;>simp
theorem ZiV {l:List Vr} {i:Nat} {d:Vr} (h:i<l.length):sz (l.take (i+1))=sz (l.take i) * wd (l.getD i d):=by
 rw [szN,List.getElem?_eq_getElem h,getD_lt h]
theorem ZiW {a b:Int} {p:Nat} (h1:1≤a) (h2:a≤20 ^ p) (h3:1≤b∧b≤20):1≤a * b∧a * b≤20 ^ (p+1):=by
 constructor
 ·have:=Int.mul_le_mul h1 h3.1 (by omega) (by omega);simpa using this
 ·rw [Int.pow_succ];exact Int.mul_le_mul h2 h3.2 (by omega) (by have:(0:Int)<20 ^ p:=Int.pow_pos (by omega);omega)
theorem ZiX:∀(l:List Vr),(∀v∈l,vOk v)→∀i,i≤l.length→1≤sz (l.take i)∧sz (l.take i)≤20 ^ i:=by
 intro l hl i
 induction i with
 | zero=>intro _;simp [sz]
 | succ i ih =>
  intro hi
  rw [ZiV (d:=(0,0,0)) (by omega)]
  exact ZiW (ih (by omega)).1 (ih (by omega)).2 (ZiU (hl _ (ZJ (by omega))))
theorem ZiY {a b:Int} (h1:1≤a∧a≤3200000) (h3:1≤b∧b≤20):1≤a * b∧a * b≤64000000:=by
 constructor
 ·have:=Int.mul_le_mul h1.1 h3.1 (by omega) (by omega);simpa using this
 ·have:=Int.mul_le_mul h1.2 h3.2 (by omega) (by omega);omega
theorem ZiZ {i:Nat} (h:i≤5):(20:Int) ^ i≤3200000:=by
 have:i=0∨i=1∨i=2∨i=3∨i=4∨i=5:=by omega
 rcases this with rfl | rfl | rfl | rfl | rfl | rfl<;>decide
theorem Zi_ {α:Type} {l:List α} {p:α→Prop} {d:α} (h:∀i,i<l.length→p (l.getD i d)):∀x∈l,p x:=by
 intro x hx
 obtain ⟨i,hi,rfl⟩:=List.getElem_of_mem hx
 have:=h i hi
 rwa [getD_lt hi] at this
theorem Zj0 {l:List Vr} {i:Nat} (h5:l.length≤5) (hi:i≤l.length) (h:∀j,j<i→vOk (l.getD j (0,0,0))):1≤sz (l.take i)∧sz (l.take i)≤3200000:=by
 have h1:=ZiX (l.take i) (fun v hv=>by
  obtain ⟨j,hj,rfl⟩:=List.getElem_of_mem hv
  rw [Yb] at hj
  have:=h j (by omega)
  rw [getD_lt (by omega)] at this
  simpa using this) i (by simp;omega)
 rw [List.take_take,Nat.min_self] at h1
 have:=ZiZ (i:=i) (by omega)
 omega
theorem Zj1 (s:Sy) (hs:ZK s) (Q:List AV→Prop):mc.C ZcH [⟨L V3,s.1⟩,⟨L TR,s.2⟩] Q=Q [⟨B,decide (valid s)⟩]:=by
 obtain ⟨h1,h2,h3⟩:=hs
 have b1:=Ziv h1
 have b2:=Ziv h2
 refine Mc.Ends.c (mc.ends Zhq ?_)
 generalize hK:decide (valid s)=K
 simp+contextual(maxSteps:=9^6)(disch:=omega)only[↓YR,↓den,↓Z0,YS,O1.d,O2.d,O3.d,cmI,arI,Z1,Z2,seval,ZF,ZG,Zf4,Ziw]
 refine ⟨fun g=>?_,fun g1=>⟨fun g=>?_,fun g2=>?_⟩⟩
 ·rw [←hK,decide_eq_false];exact fun h=>g (by have:=h.1;omega)
 ·rw [←hK,decide_eq_false];exact fun h=>by have:=h.2.1;omega
 refine mc.lp_for Int (fun i n=>[⟨I,n⟩,⟨I,(i:Int)⟩,⟨L V3,s.1⟩,⟨L TR,s.2⟩]) (fun i n=>n=sz (s.1.take i)∧∀j,j<i→vOk (s.1.getD j (0,0,0))) s.1.length 0 1 _ rfl (Yf _) ⟨rfl,fun j hj=>absurd hj (Nat.not_lt_zero _)⟩ ?_ ?_
 ·rintro i n hi ⟨rfl,hv⟩
  have hn:=Zj0 (by omega) (by omega) hv
  have hno:¬vOk (s.1.getD i (0,0,0))→false=K:=fun h=>by rw [←hK,decide_eq_false];exact fun h1=>h (h1.2.2.1 _ (ZJ hi))
  simp+contextual(maxSteps:=9^6)(disch:=omega)only[↓YR,↓den,↓Z0,YS,O1.d,O2.d,O3.d,cmI,arI,Z1,Z2,seval,ZF,ZG,ZiN]
  refine ⟨hno,fun hy=>?_⟩
  have hw:=ZiU hy
  have hm:=ZiY hn hw
  have hw2:=hy
  unfold vOk at hw2
  unfold wd at hm
  simp+contextual(maxSteps:=9^6)(disch:=omega)only[↓YR,↓den,↓Z0,YS,O1.d,O2.d,O3.d,cmI,arI,Z1,Z2,seval,ZF,ZG,]
  refine ⟨by rw [ZiV (d:=(0,0,0)) hi];rfl,fun j hj=>?_⟩
  rcases Nat.lt_succ_iff_lt_or_eq.1 hj with h | rfl
  ·exact hv j h
  ·exact hy
 ·rintro n ⟨rfl,hv⟩
  rw [Yu]
  have hn:=Zj0 (by omega) (Yh _) hv
  rw [Yu] at hn
  simp+contextual(maxSteps:=9^6)(disch:=omega)only[↓YR,↓den,↓Z0,YS,O1.d,O2.d,O3.d,cmI,arI,Z1,Z2,seval,ZF,ZG,]
  refine Zis (fun i=>[⟨I,sz s.1⟩,⟨I,(i:Int)⟩,⟨L V3,s.1⟩,⟨L TR,s.2⟩]) (fun i=>rOk (s.2.getD i ([],[],[])) s.1.length) s.2.length _ rfl ?_ ?_
  ·intro i hi
   have hno:¬rOk (s.2.getD i ([],[],[])) s.1.length→false=K:=fun h=>by rw [←hK,decide_eq_false];exact fun h1=>h (h1.2.2.2.1 _ (ZJ hi))
   have h4:=h3 _ (ZJ (d:=([],[],[])) hi)
   simp+contextual(maxSteps:=9^6)(disch:=omega)only[↓YR,↓den,↓Z0,YS,O1.d,O2.d,O3.d,cmI,arI,Z1,Z2,seval,ZF,ZG,ZiS (s.2.getD i ([],[],[])) (s.1.length:Int) (by omega) h4]
   exact hno
  ·intro h
   simp+contextual(maxSteps:=9^6)(disch:=omega)only[↓YR,↓den,↓Z0,YS,O1.d,O2.d,O3.d,cmI,arI,Z1,Z2,seval,ZF,ZG,]
   rw [←hK]
   have a1:=Zi_ hv
   have a2:=Zi_ (p:=fun r=>rOk r s.1.length) h
   by_cases h4:sz s.1≤400
   ·rw [decide_eq_true h4,decide_eq_true];exact ⟨by omega,by omega,a1,a2,h4⟩
   ·rw [decide_eq_false h4,decide_eq_false];exact fun h=>h4 h.2.2.2.2
theorem Zj2 (l:List Vr) (h5:l.length≤5) (hv:∀v∈l,vOk v) (Q:List AV→Prop):mc.C ZbO [⟨L V3,l⟩] Q=Q [⟨I,sz l⟩]:=by
 refine Mc.Ends.c (mc.ends Zgx ?_)
 simp+contextual(maxSteps:=9^6)(disch:=omega)only[↓YR,↓den,↓Z0,YS,O1.d,O2.d,O3.d,cmI,arI,Z1,Z2,seval,ZF,ZG,Zeb]
 refine mc.lp_for Int (fun i n=>[⟨I,n⟩,⟨L V3,l⟩,⟨I,(l.length:Int)⟩,⟨I,(i:Int)⟩]) (fun i n=>n=sz (l.take i)) l.length 0 1 _ rfl (Yf _) rfl ?_ ?_
 ·rintro i n hi rfl
  have hn:=Zj0 (l:=l) h5 (by omega) fun j hj=>hv _ (ZJ (Nat.lt_trans hj hi))
  have hy:=hv _ (ZJ (d:=(0,0,0)) hi)
  have hw:=ZiU hy
  have hm:=ZiY hn hw
  unfold vOk at hy
  unfold wd at hm
  simp+contextual(maxSteps:=9^6)(disch:=omega)only[↓YR,↓den,↓Z0,YS,O1.d,O2.d,O3.d,cmI,arI,Z1,Z2,seval,ZF,ZG,]
  rw [ZiV (d:=(0,0,0)) hi];rfl
 ·rintro n rfl
  simp+contextual(maxSteps:=9^6)(disch:=omega)only[↓YR,↓den,↓Z0,YS,O1.d,O2.d,O3.d,cmI,arI,Z1,Z2,seval,ZF,ZG,]
  rw [Yu]
theorem Zj3 (s:Sy) (hs:ZK s) (Q:List AV→Prop):mc.C ZbT [⟨L V3,s.1⟩,⟨L TR,s.2⟩] Q=Q [⟨B,decide (valid s)⟩]:=by
 obtain ⟨h1,h2,h3⟩:=hs
 have b1:=Ziv h1
 have b2:=Ziv h2
 refine Mc.Ends.c (mc.ends ZgC ?_)
 generalize hK:decide (valid s)=K
 simp+contextual(maxSteps:=9^6)(disch:=omega)only[↓YR,↓den,↓Z0,YS,O1.d,O2.d,O3.d,cmI,arI,Z1,Z2,seval,ZF,ZG,Zeg]
 refine mc.wp_join (fun us=>us=[⟨L V3,s.1⟩,⟨L TR,s.2⟩]∧(1≤s.1.length∧s.1.length≤5)∧s.2.length≤8∧(∀v∈s.1,vOk v)∧sz s.1≤400) ?_ ?_
 ·simp+contextual(maxSteps:=9^6)(disch:=omega)only[↓YR,↓den,↓Z0,YS,O1.d,O2.d,O3.d,cmI,arI,Z1,Z2,seval,ZF,ZG,Zix]
  refine ⟨fun g=>?_,fun g1=>⟨fun g=>?_,fun g2=>?_⟩⟩
  ·rw [←hK,decide_eq_false];exact fun h=>g (by have:=h.1;omega)
  ·rw [←hK,decide_eq_false];exact fun h=>by have:=h.2.1;omega
  refine Zis (fun i=>[⟨L V3,s.1⟩,⟨I,(s.1.length:Int)⟩,⟨I,(i:Int)⟩,⟨L V3,s.1⟩,⟨L TR,s.2⟩]) (fun i=>vOk (s.1.getD i (0,0,0))) s.1.length _ rfl ?_ ?_
  ·intro i hi
   have hno:¬vOk (s.1.getD i (0,0,0))→false=K:=fun h=>by rw [←hK,decide_eq_false];exact fun h1=>h (h1.2.2.1 _ (ZJ hi))
   simp+contextual(maxSteps:=9^6)(disch:=omega)only[↓YR,↓den,↓Z0,YS,O1.d,O2.d,O3.d,cmI,arI,Z1,Z2,seval,ZF,ZG,ZiO]
   exact hno
  ·intro hv
   have hv:=Zi_ hv
   simp+contextual(maxSteps:=9^6)(disch:=omega)only[↓YR,↓den,↓Z0,YS,O1.d,O2.d,O3.d,cmI,arI,Z1,Z2,seval,ZF,ZG,Zj2 s.1 (by omega) hv]
   refine ⟨fun h=>?_,fun h=>⟨by omega,by omega,hv,by omega⟩⟩
   rw [←hK,decide_eq_false];exact fun h1=>by have:=h1.2.2.2.2;omega
 rintro _ ⟨rfl,g1,g2,g3,g4⟩
 simp+contextual(maxSteps:=9^6)(disch:=omega)only[↓YR,↓den,↓Z0,YS,O1.d,O2.d,O3.d,cmI,arI,Z1,Z2,seval,ZF,ZG,]
 refine Zis (fun i=>[⟨L TR,s.2⟩,⟨I,(s.2.length:Int)⟩,⟨I,(i:Int)⟩,⟨L V3,s.1⟩,⟨L TR,s.2⟩]) (fun i=>rOk (s.2.getD i ([],[],[])) s.1.length) s.2.length _ rfl ?_ ?_
 ·intro i hi
  have hno:¬rOk (s.2.getD i ([],[],[])) s.1.length→false=K:=fun h=>by rw [←hK,decide_eq_false];exact fun h1=>h (h1.2.2.2.1 _ (ZJ hi))
  have h4:=h3 _ (ZJ (d:=([],[],[])) hi)
  simp+contextual(maxSteps:=9^6)(disch:=omega)only[↓YR,↓den,↓Z0,YS,O1.d,O2.d,O3.d,cmI,arI,Z1,Z2,seval,ZF,ZG,ZiT (s.2.getD i ([],[],[])) (s.1.length:Int) (by omega) h4]
  intro h
  have:=hno h
  have h0:(i:Int)≥0:=by omega
  simpa [h0] using this
 ·intro h
  simp+contextual(maxSteps:=9^6)(disch:=omega)only[↓YR,↓den,↓Z0,YS,O1.d,O2.d,O3.d,cmI,arI,Z1,Z2,seval,ZF,ZG,]
  rw [←hK]
  have a2:=Zi_ (p:=fun r=>rOk r s.1.length) h
  rw [decide_eq_true (show valid s from ⟨g1,g2,g3,a2,g4⟩)]
  rfl
theorem Zj4 (s:Sy) (hs:ZK s) (Q:List AV→Prop):mc.C ZcI [⟨L V3,s.1⟩,⟨L TR,s.2⟩] Q=Q [⟨I,if valid s then sz s.1 else 0⟩]:=by
 refine Mc.Ends.c (mc.ends Zhr ?_)
 simp+contextual(maxSteps:=9^6)(disch:=omega)only[↓YR,↓den,↓Z0,YS,O1.d,O2.d,O3.d,cmI,arI,Z1,Z2,seval,ZF,ZG,Zf5,Zj1 s hs]
 intro h
 obtain ⟨h5,-,hv,-⟩:=h
 refine mc.lp_for Int (fun i n=>[⟨I,n⟩,⟨I,(i:Int)⟩,⟨L V3,s.1⟩,⟨L TR,s.2⟩]) (fun i n=>n=sz (s.1.take i)) s.1.length 0 1 _ rfl (Yf _) rfl ?_ ?_
 ·rintro i n hi rfl
  have hn:=Zj0 (l:=s.1) h5.2 (by omega) fun j hj=>hv _ (ZJ (Nat.lt_trans hj hi))
  have hy:=hv _ (ZJ (d:=(0,0,0)) hi)
  have hw:=ZiU hy
  have hm:=ZiY hn hw
  unfold vOk at hy
  unfold wd at hm
  simp+contextual(maxSteps:=9^6)(disch:=omega)only[↓YR,↓den,↓Z0,YS,O1.d,O2.d,O3.d,cmI,arI,Z1,Z2,seval,ZF,ZG,]
  rw [ZiV (d:=(0,0,0)) hi];rfl
 ·rintro n rfl
  simp+contextual(maxSteps:=9^6)(disch:=omega)only[↓YR,↓den,↓Z0,YS,O1.d,O2.d,O3.d,cmI,arI,Z1,Z2,seval,ZF,ZG,]
  rw [Yu]
def hd (n:Int):Int:=if n > 9999 then 9999 else if n < -9999 then -9999 else n
def doM (o a b:Int):Int :=
 if o=2 then hd (a+b) else if o=3 then hd (a - b) else if o=4 then hd (a * b)
 else if o=5 then (if a<b then 1 else 0) else if o=6 then (if a=b then 1 else 0)
 else if o=7 then 1 - a else if o=8 then a * b else (if a+b > 0 then 1 else 0)
def Bd4 (n:Int):Prop := -9999≤n∧n≤9999
def Bit (n:Int):Prop:=n=0∨n=1
theorem Zj5 (n:Int):Bd4 (hd n):=by
 unfold hd Bd4
 split
 ·omega
 ·split<;>omega
theorem Zj6 {a b:Int} (ha:Bd4 a) (hb:Bd4 b) : -100000000≤a * b∧a * b≤100000000:=by
 unfold Bd4 at ha hb
 have h1:a.natAbs≤9999:=by omega
 have h2:b.natAbs≤9999:=by omega
 have h3:(a * b).natAbs≤9999 * 9999:=by rw [Int.natAbs_mul];exact Nat.mul_le_mul h1 h2
 omega
theorem Zj7 (n:Int) (Q:List AV→Prop):mc.C ZcM [⟨I,n⟩] Q=Q [⟨I,hd n⟩]:=by
 refine Mc.Ends.c (mc.ends Zhv ?_)
 generalize hK:hd n=K
 simp+contextual(maxSteps:=9^6)(disch:=omega)only[↓YR,↓den,↓Z0,YS,O1.d,O2.d,O3.d,cmI,arI,Z1,Z2,seval,ZF,ZG,Zf9]
 unfold hd at hK
 grind
theorem Zj8 (n:Int) (Q:List AV→Prop):mc.C ZbW [⟨I,n⟩] Q=Q [⟨I,hd n⟩]:=by
 refine Mc.Ends.c (mc.ends ZgF ?_)
 generalize hK:hd n=K
 simp+contextual(maxSteps:=9^6)(disch:=omega)only[↓YR,↓den,↓Z0,YS,O1.d,O2.d,O3.d,cmI,arI,Z1,Z2,seval,ZF,ZG,Zej]
 unfold hd at hK
 grind
theorem Zj9 (b:Bool) (Q:List AV→Prop):mc.C ZcN [⟨B,b⟩] Q=Q [⟨I,if b=true then 1 else 0⟩]:=by
 refine Mc.Ends.c (mc.ends Zhw ?_)
 generalize hK:(if b=true then (1:Int) else 0)=K
 simp+contextual(maxSteps:=9^6)(disch:=omega)only[↓YR,↓den,↓Z0,YS,O1.d,O2.d,O3.d,cmI,arI,Z1,Z2,seval,ZF,ZG,Zfa]
 grind
theorem Zja (b:Bool) (Q:List AV→Prop):mc.C ZbX [⟨B,b⟩] Q=Q [⟨I,if b=true then 1 else 0⟩]:=by
 refine Mc.Ends.c (mc.ends ZgG ?_)
 generalize hK:(if b=true then (1:Int) else 0)=K
 simp+contextual(maxSteps:=9^6)(disch:=omega)only[↓YR,↓den,↓Z0,YS,O1.d,O2.d,O3.d,cmI,arI,Z1,Z2,seval,ZF,ZG,Zek]
 grind
theorem Zjb (o a b:Int) (ha:Bd4 a) (hb:Bd4 b) (Q:List AV→Prop):mc.C ZcO [⟨I,o⟩,⟨I,a⟩,⟨I,b⟩] Q=Q [⟨I,doM o a b⟩]:=by
 have hm:=Zj6 ha hb
 unfold Bd4 at ha hb
 refine Mc.Ends.c (mc.ends Zhx ?_)
 generalize hK:doM o a b=K
 simp+contextual(maxSteps:=9^6)(disch:=omega)only[↓YR,↓den,↓Z0,YS,O1.d,O2.d,O3.d,cmI,arI,Z1,Z2,seval,ZF,ZG,Zfb,Zj7,Zj9]
 unfold doM at hK
 grind (splits:=30)
theorem Zjc (o a b:Int) (ha:Bd4 a) (hb:Bd4 b) (ho:2≤o∧o≤9) (h8:8≤o→Bit a∧Bit b) (Q:List AV→Prop):mc.C ZbY [⟨I,o⟩,⟨I,a⟩,⟨I,b⟩] Q=Q [⟨I,doM o a b⟩]:=by
 have hm:=Zj6 ha hb
 unfold Bd4 at ha hb
 refine Mc.Ends.c (mc.ends ZgH ?_)
 generalize hK:doM o a b=K
 simp+contextual(maxSteps:=9^6)(disch:=omega)only[↓YR,↓den,↓Z0,YS,O1.d,O2.d,O3.d,cmI,arI,Z1,Z2,seval,ZF,ZG,Zel,Zj8,Zja]
 unfold doM at hK
 unfold Bit at h8
 grind (splits:=30)
theorem Zjd {o a b:Int} (ha:Bd4 a) (hb:Bd4 b) (h7:7≤o→Bit a∧Bit b):Bd4 (doM o a b):=by
 unfold doM
 have h1:=Zj5 (a+b);have h2:=Zj5 (a - b);have h3:=Zj5 (a * b)
 unfold Bd4 Bit at *
 grind (splits:=30)
theorem Zje {o a b:Int} (ho:5≤o) (h7:7≤o→Bit a∧Bit b):Bit (doM o a b):=by
 unfold doM
 unfold Bit at *
 grind
def ev1 (st:List Int) (t:Tm) (vs:List Int):Int :=
 if t.1=0 then t.2.1 else if t.1=1 then st.getD t.2.1.toNat 0 else doM t.1 (vs.getD t.2.2.1.toNat 0) (vs.getD t.2.2.2.toNat 0)
def evs (st:List Int):List Tm→List Int→List Int
 | [],vs=>vs
 | t::l,vs=>evs st l (vs++[ev1 st t vs])
def evl (l:List Tm) (st:List Int):Int:=(evs st l []).getD (l.length - 1) 0
def KV (ks vs:List Int):Prop:=ks.length=vs.length∧∀j,j<vs.length→Bd4 (vs.getD j 0)∧(ks.getD j 0=2→Bit (vs.getD j 0))
def Bds (st:List Int):Prop:=∀j,j<st.length→Bd4 (st.getD j 0)
theorem Zjf {l:List Int} {x:Int} {j:Nat}:(l++[x]).getD j 0=if j<l.length then l.getD j 0 else if j=l.length then x else 0:=by
 simp only [Y8,List.getElem?_append]
 by_cases h1:j<l.length
 ·simp [h1]
 ·by_cases h2:j=l.length
  ·simp [h2]
  ·have:(j - l.length)≠0:=by omega
   simp [h1,h2,List.getElem?_singleton,this]
theorem Zjg {p:Prop} [Decidable p] {x:Int} (h:(if p then x else 0)≠0):p:=Classical.byContradiction fun hn=>h (if_neg hn)
theorem Zjh {t:Tm} {ks:List Int} {vars:Int} (h:kd t ks vars≠0):(t.1=0∧Bd4 t.2.1)∨(t.1=1∧0≤t.2.1∧t.2.1<vars) ∨
  ((2≤t.1∧t.1≤9)∧(0≤t.2.2.1∧t.2.2.1<ks.length)∧(0≤t.2.2.2∧t.2.2.2<ks.length)∧(7≤t.1→ks.getD t.2.2.1.toNat 0=2∧ks.getD t.2.2.2.toNat 0=2)):=by
 unfold kd at h
 split at h
 ·rename_i h0
  split at h
  ·rename_i h1;exact .inl ⟨h0,h1.1,h1.2.1⟩
  ·exact absurd rfl h
 ·split at h
  ·rename_i h0
   split at h
   ·rename_i h1;exact .inr (.inl ⟨h0,h1.1,by omega⟩)
   ·exact absurd rfl h
  ·obtain ⟨a1,a2,a3,a4,a5,a6,a7,a8⟩:=Zjg h
   exact .inr (.inr ⟨⟨a1,a2⟩,a4,a5,fun h7=>by rw [if_pos h7] at a6 a7;exact ⟨a6,a7⟩⟩)
theorem KV.args {ks vs st:List Int} {t:Tm} (hkv:KV ks vs) (h:(2≤t.1∧t.1≤9)∧(0≤t.2.2.1∧t.2.2.1<ks.length)∧(0≤t.2.2.2∧t.2.2.2<ks.length)∧(7≤t.1→ks.getD t.2.2.1.toNat 0=2∧ks.getD t.2.2.2.toNat 0=2)) :
  Bd4 (vs.getD t.2.2.1.toNat 0)∧Bd4 (vs.getD t.2.2.2.toNat 0)∧(7≤t.1→Bit (vs.getD t.2.2.1.toNat 0)∧Bit (vs.getD t.2.2.2.toNat 0)):=by
 obtain ⟨h1,h2,h3,h4⟩:=h
 have hl:=hkv.1
 have g1:=hkv.2 t.2.2.1.toNat (by omega)
 have g2:=hkv.2 t.2.2.2.toNat (by omega)
 exact ⟨g1.1,g2.1,fun h7=>⟨g1.2 (h4 h7).1,g2.2 (h4 h7).2⟩⟩
theorem KV.next {ks vs st:List Int} {t:Tm} {vars:Int} (hkv:KV ks vs) (hst:Bds st) (hv:vars=st.length) (h:kd t ks vars≠0):KV (ks++[kd t ks vars]) (vs++[ev1 st t vs]):=by
 have hk:=ZiA h
 have hlen:=hkv.1
 refine ⟨by simp [hkv.1],fun j hj=>?_⟩
 simp only [Y7,YA,List.length_nil,Nat.zero_add] at hj
 rw [Zjf,Zjf,hkv.1]
 by_cases h1:j<vs.length
 ·rw [if_pos h1,if_pos h1];exact hkv.2 j h1
 ·have h2:j=vs.length:=by omega
  rw [if_neg h1,if_neg h1,if_pos h2,if_pos h2,hk]
  rcases Zjh h with ⟨e,h3⟩ | ⟨e,h3,h4⟩ | h3
  ·unfold ev1;rw [if_pos e];exact ⟨h3,by intro h;rw [if_neg (by omega)] at h;omega⟩
  ·unfold ev1;rw [if_neg (by omega),if_pos e];exact ⟨hst _ (by omega),by intro h;rw [if_neg (by omega)] at h;omega⟩
  ·obtain ⟨a1,a2,a3⟩:=hkv.args (st:=st) h3
   unfold ev1;rw [if_neg (by omega),if_neg (by omega)]
   exact ⟨Zjd a1 a2 a3,fun h5=>Zje (by split at h5<;>omega) a3⟩
theorem Zji {st:List Int}:∀{l:List Tm} {vs:List Int},(evs st l vs).length=vs.length+l.length
 | [],vs=>by simp [evs]
 | t::l,vs=>by simp only [evs,Zji,Y7,YA,List.length_nil];omega
theorem KV.all {st:List Int} {vars:Int} (hst:Bds st) (hv:vars=st.length):∀{l:List Tm} {ks vs o:List Int},KV ks vs→kds vars l ks=some o→KV o (evs st l vs)
 | [],ks,vs,o,h,e=>by cases e;exact h
 | t::l,ks,vs,o,h,e=>by
  simp only [kds] at e
  split at e
  ·cases e
  ·rename_i h0
   show KV o (evs st l (vs++[ev1 st t vs]))
   exact KV.all hst hv (h.next hst hv h0) e
theorem KV.nil:KV [] []:=⟨rfl,fun j hj=>absurd hj (Nat.not_lt_zero _)⟩
theorem Zjj {l:List Tm} {vars:Int} (h:kf l vars≠0):∃o,kds vars l []=some o∧(1≤l.length∧l.length≤40)∧kf l vars=o.getD (l.length - 1) 0:=by
 unfold kf ZiB at h ⊢
 split at h
 ·rename_i h1
  rw [if_pos h1]
  cases ho:kds vars l [] with
  | none=>rw [ho] at h;exact absurd rfl h
  | some o =>
   refine ⟨o,rfl,h1.2,?_⟩
   have:=ZiC ho
   simp only [List.length_nil,Nat.zero_add] at this
   rw [Option.getD_some,List.getLastD_eq_getLast?,List.getLast?_eq_getElem?,this]
   rfl
 ·exact absurd rfl h
theorem Zjk {l:List Tm} {vars:Int} {st:List Int} (h:kf l vars=2) (hst:Bds st) (hv:vars=st.length):Bit (evl l st):=by
 obtain ⟨o,h1,h2,h3⟩:=Zjj (l:=l) (vars:=vars) (by omega)
 have:=KV.all hst hv KV.nil h1
 exact (this.2 _ (by rw [Zji];simp;omega)).2 (by rw [←h3];exact h)
theorem Zjl (l:List Tm) (st:List Int) (vars:Int) (h:kf l vars≠0) (hst:Bds st) (hv:vars=st.length) (Q:List AV→Prop):mc.C ZcP [⟨L T4,l⟩,⟨L I,st⟩] Q=Q [⟨L I,evs st l []⟩]:=by
 obtain ⟨o,h1,h2,h3⟩:=Zjj h
 refine Mc.Ends.c (mc.ends Zhy ?_)
 simp+contextual(maxSteps:=9^6)(disch:=omega)only[↓YR,↓den,↓Z0,YS,O1.d,O2.d,O3.d,cmI,arI,Z1,Z2,seval,ZF,ZG,Zfc]
 refine mc.lp_for (List Int) (fun i vs=>[⟨L T4,l⟩,⟨L I,st⟩,⟨I,(i:Int)⟩,⟨L I,vs⟩]) (fun i vs=>vs.length=i∧evs st (l.drop i) vs=evs st l []∧∃ks,KV ks vs∧kds vars (l.drop i) ks=some o) l.length 0 [] _ rfl (Yf _) ⟨rfl,rfl,[],KV.nil,h1⟩ ?_ ?_
 ·rintro i vs hi ⟨hl,hs,ks,hkv,hk⟩
  rw [ZiD (d:=(0,0,0,0)) hi] at hs hk
  simp only [evs,kds] at hs hk
  split at hk
  ·cases hk
  rename_i h0
  have hn:=hkv.next hst hv h0
  have ha:=Zjh h0
  have hkl:=hkv.1
  obtain ⟨t,ht⟩:∃t,l.getD i (0,0,0,0)=t:=⟨_,rfl⟩
  rw [ht] at hs hk h0 hn ha
  have hvs:(vs.length:Int)≤40:=by omega
  simp+contextual(maxSteps:=9^6)(disch:=omega)only[↓YR,↓den,↓Z0,YS,O1.d,O2.d,O3.d,cmI,arI,Z1,Z2,seval,ZF,ZG,]
  refine mc.wp_join (fun us=>us=[⟨L T4,l⟩,⟨L I,st⟩,⟨I,(i:Int)⟩,⟨L I,vs++[ev1 st t vs]⟩]) ?_ ?_
  ·rcases ha with ⟨e,h3⟩ | ⟨e,h3,h4⟩ | h3
   ·simp+contextual(maxSteps:=9^6)(disch:=omega)only[↓YR,↓den,↓Z0,YS,O1.d,O2.d,O3.d,cmI,arI,Z1,Z2,seval,ZF,ZG,ht,e,ev1]
   ·have e':¬t.1=0:=by omega
    simp+contextual(maxSteps:=9^6)(disch:=omega)only[↓YR,↓den,↓Z0,YS,O1.d,O2.d,O3.d,cmI,arI,Z1,Z2,seval,ZF,ZG,ht,e,ev1]
   ·obtain ⟨a1,a2,a3⟩:=hkv.args (st:=st) h3
    have e1:¬t.1=0:=by omega
    have e2:¬t.1=1:=by omega
    simp+contextual(maxSteps:=9^6)(disch:=omega)only[↓YR,↓den,↓Z0,YS,O1.d,O2.d,O3.d,cmI,arI,Z1,Z2,seval,ZF,ZG,ht,e1,e2,ev1,Zjb _ _ _ a1 a2]
  ·rintro _ rfl
   simp+contextual(maxSteps:=9^6)(disch:=omega)only[↓YR,↓den,↓Z0,YS,O1.d,O2.d,O3.d,cmI,arI,Z1,Z2,seval,ZF,ZG,]
   exact ⟨by simp [hl],hs,_,hn,hk⟩
 ·rintro vs ⟨hl,hs,-⟩
  simp+contextual(maxSteps:=9^6)(disch:=omega)only[↓YR,↓den,↓Z0,YS,O1.d,O2.d,O3.d,cmI,arI,Z1,Z2,seval,ZF,ZG,]
  rw [List.drop_length] at hs
  exact hs
theorem Zjm (l:List Tm) (st:List Int) (vars:Int) (h:kf l vars≠0) (hst:Bds st) (hv:vars=st.length) (Q:List AV→Prop):mc.C ZcQ [⟨L T4,l⟩,⟨L I,st⟩] Q=Q [⟨I,evl l st⟩]:=by
 obtain ⟨o,h1,h2,h3⟩:=Zjj h
 have hlen:(evs st l []).length=l.length:=by rw [Zji];simp
 refine Mc.Ends.c (mc.ends Zhz ?_)
 simp+contextual(maxSteps:=9^6)(disch:=omega)only[↓YR,↓den,↓Z0,YS,O1.d,O2.d,O3.d,cmI,arI,Z1,Z2,seval,ZF,ZG,Zfd,Zjl l st vars h hst hv]
 rfl
theorem Zjn {l:List Int} {k j:Nat}:(l++List.replicate k 0).getD j 0=l.getD j 0:=by
 simp only [Y8,List.getElem?_append]
 by_cases h1:j<l.length
 ·simp [h1]
 ·simp only [h1,if_false]
  rw [Yz (by omega:l.length≤j),List.getElem?_replicate]
  split<;>rfl
theorem Zjo {α:Type} {l:List α} {k:Nat} {x z:α}:(l++List.replicate (k+1) z).set l.length x=(l++[x])++List.replicate k z:=by
 rw [List.set_append_right _ _ (Yh _),Nat.sub_self,List.replicate_succ,List.set_cons_zero,Ym];rfl
theorem Zjp {n i:Nat} (h:i<n):n - i=(n - (i+1))+1:=by omega
theorem Zjq (l:List Tm) (st:List Int) (vars:Int) (h:kf l vars≠0) (hst:Bds st) (hv:vars=st.length) (Q:List AV→Prop):mc.C ZbZ [⟨L T4,l⟩,⟨L I,st⟩] Q=Q [⟨I,evl l st⟩]:=by
 obtain ⟨o,h1,h2,h3⟩:=Zjj h
 refine Mc.Ends.c (mc.ends ZgI ?_)
 simp+contextual(maxSteps:=9^6)(disch:=omega)only[↓YR,↓den,↓Z0,YS,O1.d,O2.d,O3.d,cmI,arI,Z1,Z2,seval,ZF,ZG,Zem]
 refine mc.lp_for (List Int) (fun i vs=>[⟨L I,st⟩,⟨L T4,l⟩,⟨I,(l.length:Int)⟩,⟨I,(i:Int)⟩,⟨L I,vs++List.replicate (l.length - i) 0⟩]) (fun i vs=>vs.length=i∧evs st (l.drop i) vs=evs st l []∧∃ks,KV ks vs∧kds vars (l.drop i) ks=some o) l.length 0 [] _ rfl (Yf _) ⟨rfl,rfl,[],KV.nil,h1⟩ ?_ ?_
 ·rintro i vs hi ⟨hl,hs,ks,hkv,hk⟩
  rw [ZiD (d:=(0,0,0,0)) hi] at hs hk
  simp only [evs,kds] at hs hk
  split at hk
  ·cases hk
  rename_i h0
  have hn:=hkv.next hst hv h0
  have ha:=Zjh h0
  have hkl:=hkv.1
  obtain ⟨t,ht⟩:∃t,l.getD i (0,0,0,0)=t:=⟨_,rfl⟩
  rw [ht] at hs hk h0 hn ha
  have hvs:(vs.length:Int)≤40:=by omega
  have hlen:(vs++List.replicate (l.length - i) (0:Int)).length=l.length:=by simp;omega
  have hset:∀x:Int,(vs++List.replicate (l.length - i) 0).set i x=(vs++[x])++List.replicate (l.length - (i+1)) 0:=by
   intro x;subst hl;rw [Zjp hi,Zjo]
  simp+contextual(maxSteps:=9^6)(disch:=omega)only[↓YR,↓den,↓Z0,YS,O1.d,O2.d,O3.d,cmI,arI,Z1,Z2,seval,ZF,ZG,]
  refine mc.wp_join (fun us=>us=[⟨L I,st⟩,⟨L T4,l⟩,⟨I,(l.length:Int)⟩,⟨I,(i:Int)⟩,⟨L I,(vs++[ev1 st t vs])++List.replicate (l.length - (i+1)) 0⟩]) ?_ ?_
  ·rcases ha with ⟨e,h3⟩ | ⟨e,h3,h4⟩ | h3
   ·simp+contextual(maxSteps:=9^6)(disch:=omega)only[↓YR,↓den,↓Z0,YS,O1.d,O2.d,O3.d,cmI,arI,Z1,Z2,seval,ZF,ZG,ht,e,ev1,hlen,hset]
   ·have e':¬t.1=0:=by omega
    simp+contextual(maxSteps:=9^6)(disch:=omega)only[↓YR,↓den,↓Z0,YS,O1.d,O2.d,O3.d,cmI,arI,Z1,Z2,seval,ZF,ZG,ht,e,ev1,hlen,hset]
   ·obtain ⟨a1,a2,a3⟩:=hkv.args (st:=st) h3
    have e1:¬t.1=0:=by omega
    have e2:¬t.1=1:=by omega
    simp+contextual(maxSteps:=9^6)(disch:=omega)only[↓YR,↓den,↓Z0,YS,O1.d,O2.d,O3.d,cmI,arI,Z1,Z2,seval,ZF,ZG,ht,e1,e2,ev1,hlen,hset,Zjn,Zjc _ _ _ a1 a2 h3.1 fun h=>a3 (by omega)]
  ·rintro _ rfl
   simp+contextual(maxSteps:=9^6)(disch:=omega)only[↓YR,↓den,↓Z0,YS,O1.d,O2.d,O3.d,cmI,arI,Z1,Z2,seval,ZF,ZG,]
   exact ⟨_,rfl,by simp [hl],hs,_,hn,hk⟩
 ·rintro vs ⟨hl,hs,-⟩
  rw [List.drop_length] at hs
  simp only [evs] at hs
  subst hs
  rw [Nat.sub_self,List.replicate_zero,Yx]
  simp+contextual(maxSteps:=9^6)(disch:=omega)only[↓YR,↓den,↓Z0,YS,O1.d,O2.d,O3.d,cmI,arI,Z1,Z2,seval,ZF,ZG,]
  rw [hl];rfl
def inR (vs:List Vr) (st:List Int):Prop:=st.length=vs.length∧∀i,i<vs.length→(vs.getD i (0,0,0)).1≤st.getD i 0∧st.getD i 0≤(vs.getD i (0,0,0)).2.1
instance (vs : List Vr) (st : List Int) : Decidable (inR vs st) := by unfold inR; infer_instance
theorem inR.bds {vs:List Vr} {st:List Int} (h:inR vs st) (hv:∀v∈vs,vOk v):Bds st:=by
 intro j hj
 have h1:=h.2 j (by rw [←h.1];exact hj)
 have h2:=hv _ (ZJ (d:=(0,0,0)) (by rw [←h.1];exact hj))
 unfold vOk at h2
 unfold Bd4
 omega
theorem Zjr (s:Sy) (st:List Int) (h5:s.1.length≤5) (hl:st.length≤1048576) (Q:List AV→Prop):mc.C ZcV [⟨L V3,s.1⟩,⟨L TR,s.2⟩,⟨L I,st⟩] Q=Q [⟨B,decide (inR s.1 st)⟩]:=by
 refine Mc.Ends.c (mc.ends ZhE ?_)
 generalize hK:decide (inR s.1 st)=K
 simp+contextual(maxSteps:=9^6)(disch:=omega)only[↓YR,↓den,↓Z0,YS,O1.d,O2.d,O3.d,cmI,arI,Z1,Z2,seval,ZF,ZG,Zfi]
 refine ⟨fun g=>?_,fun g1=>?_⟩
 ·rw [←hK,decide_eq_false];exact fun h=>g (by rw [h.1])
 refine Zis (fun i=>[⟨L I,st⟩,⟨I,(i:Int)⟩,⟨L V3,s.1⟩,⟨L TR,s.2⟩]) (fun i=>(s.1.getD i (0,0,0)).1≤st.getD i 0∧st.getD i 0≤(s.1.getD i (0,0,0)).2.1) s.1.length _ rfl ?_ ?_
 ·intro i hi
  have hno:¬((s.1.getD i (0,0,0)).1≤st.getD i 0∧st.getD i 0≤(s.1.getD i (0,0,0)).2.1)→false=K:=fun h=>by rw [←hK,decide_eq_false];exact fun h1=>h (h1.2 i hi)
  simp+contextual(maxSteps:=9^6)(disch:=omega)only[↓YR,↓den,↓Z0,YS,O1.d,O2.d,O3.d,cmI,arI,Z1,Z2,seval,ZF,ZG,Ziw]
  exact hno
 ·intro h
  simp+contextual(maxSteps:=9^6)(disch:=omega)only[↓YR,↓den,↓Z0,YS,O1.d,O2.d,O3.d,cmI,arI,Z1,Z2,seval,ZF,ZG,]
  rw [←hK,decide_eq_true];exact ⟨by omega,h⟩
theorem Zjs (s:Sy) (st:List Int) (h5:s.1.length≤5) (hl:st.length≤1048576) (Q:List AV→Prop):mc.C Zc4 [⟨L V3,s.1⟩,⟨L TR,s.2⟩,⟨L I,st⟩] Q=Q [⟨B,decide (inR s.1 st)⟩]:=by
 refine Mc.Ends.c (mc.ends ZgO ?_)
 generalize hK:decide (inR s.1 st)=K
 simp+contextual(maxSteps:=9^6)(disch:=omega)only[↓YR,↓den,↓Z0,YS,O1.d,O2.d,O3.d,cmI,arI,Z1,Z2,seval,ZF,ZG,Zes]
 refine ⟨fun g=>?_,fun g1=>?_⟩
 ·rw [←hK,decide_eq_false];exact fun h=>g (by rw [h.1])
 refine Zis (fun i=>[⟨L I,st⟩,⟨L V3,s.1⟩,⟨I,(s.1.length:Int)⟩,⟨I,(i:Int)⟩]) (fun i=>(s.1.getD i (0,0,0)).1≤st.getD i 0∧st.getD i 0≤(s.1.getD i (0,0,0)).2.1) s.1.length _ rfl ?_ ?_
 ·intro i hi
  have hno:¬((s.1.getD i (0,0,0)).1≤st.getD i 0∧st.getD i 0≤(s.1.getD i (0,0,0)).2.1)→false=K:=fun h=>by rw [←hK,decide_eq_false];exact fun h1=>h (h1.2 i hi)
  simp+contextual(maxSteps:=9^6)(disch:=omega)only[↓YR,↓den,↓Z0,YS,O1.d,O2.d,O3.d,cmI,arI,Z1,Z2,seval,ZF,ZG,Zix]
  exact hno
 ·intro h
  simp+contextual(maxSteps:=9^6)(disch:=omega)only[↓YR,↓den,↓Z0,YS,O1.d,O2.d,O3.d,cmI,arI,Z1,Z2,seval,ZF,ZG,]
  rw [←hK,decide_eq_true];exact ⟨by omega,h⟩
theorem Zjt {α:Type} {l:List α} {z:α}:Z00 (List.replicate l.length z) l=l:=by
 unfold Z00
 simp
theorem Zju (l:List Int) (hl:l.length≤1048576) (Q:List AV→Prop):mc.C Zc1 [⟨L I,l⟩] Q=Q [⟨L I,l⟩]:=by
 refine Mc.Ends.c (mc.ends ZgL ?_)
 simp+contextual(maxSteps:=9^6)(disch:=omega)only[↓YR,↓den,↓Z0,YS,O1.d,O2.d,O3.d,cmI,arI,Z1,Z2,seval,ZF,ZG,Zep,Zjt]
 intro h
 exact (List.eq_nil_of_length_eq_zero (by omega)).symm
def upR (r:Ru) (st:List Int) (n:Nat):List Int:=(List.range n).foldl (fun o i=>o.set (r.2.1.getD i 0).toNat (evl (r.2.2.getD i []) st)) st
def ZL (vs:List Vr) (r:Ru) (st:List Int):List Int:=if evl r.1 st=0 then [] else if inR vs (upR r st r.2.1.length) then upR r st r.2.1.length else []
theorem upR_next {r:Ru} {st:List Int} {n:Nat}:upR r st (n+1)=(upR r st n).set (r.2.1.getD n 0).toNat (evl (r.2.2.getD n []) st):=by
 unfold upR;rw [List.range_succ,List.foldl_append];rfl
theorem Zjv {r:Ru} {st:List Int}:∀{n:Nat},(upR r st n).length=st.length
 | 0=>rfl
 | n+1=>by rw [upR_next,YC,Zjv]
theorem Zjw {vs:List Vr} {r:Ru} {st:List Int} (h:ZL vs r st≠[]):inR vs (ZL vs r st):=by
 unfold ZL at h ⊢
 split
 ·rename_i h1;rw [if_pos h1] at h;exact absurd rfl h
 ·rename_i h1
  rw [if_neg h1] at h
  split
  ·rename_i h2;exact h2
  ·rename_i h2;rw [if_neg h2] at h;exact absurd rfl h
theorem Zjx {α:Type} {l:List α} {i:Nat} {d:α} (h:i<l.length):l.take i++[l.getD i d]=l.take (i+1):=by
 rw [getD_lt h,List.take_append_getElem h]
theorem Zjy (s:Sy) (st:List Int) (k:Nat) (h:valid s) (hst:inR s.1 st) (hk:k<s.2.length) (Q:List AV→Prop):mc.C ZcW [⟨L V3,s.1⟩,⟨L TR,s.2⟩,⟨L I,st⟩,⟨I,(k:Int)⟩] Q=Q [⟨L I,ZL s.1 (s.2.getD k ([],[],[])) st⟩]:=by
 obtain ⟨⟨g0,g1⟩,g2,g3,g4,g5⟩:=h
 have hb:=hst.bds g3
 have hl:=hst.1
 have hr:=g4 _ (ZJ (d:=([],[],[])) hk)
 refine Mc.Ends.c (mc.ends ZhF ?_)
 generalize hK:ZL s.1 (s.2.getD k ([],[],[])) st=K
 generalize ht:s.2.getD k ([],[],[])=r at hK hr
 obtain ⟨e1,e2,e3⟩:=hr
 have hf:=ZiR e3
 simp+contextual(maxSteps:=9^6)(disch:=omega)only[↓YR,↓den,↓Z0,YS,O1.d,O2.d,O3.d,cmI,arI,Z1,Z2,seval,ZF,ZG,Zfj,ht,Zjm r.1 st s.1.length (by omega) hb (by omega)]
 refine ⟨fun g=>by rw [←hK,ZL,if_pos g],fun g=>?_⟩
 refine mc.lp_for (List Int) (fun i o=>[⟨L I,st⟩,⟨I,(i:Int)⟩,⟨L V3,s.1⟩,⟨L TR,s.2⟩,⟨L T4,r.1⟩,⟨L I,r.2.1⟩,⟨L (L T4),r.2.2⟩,⟨L I,o⟩]) (fun i o=>o=st.take i) st.length 0 [] _ rfl (Yf _) rfl ?_ ?_
 ·rintro i o hi rfl
  have h1:((st.take i).length:Int)≤5:=by rw [Yb];omega
  simp+contextual(maxSteps:=9^6)(disch:=omega)only[↓YR,↓den,↓Z0,YS,O1.d,O2.d,O3.d,cmI,arI,Z1,Z2,seval,ZF,ZG,]
  exact Zjx hi
 rintro o rfl
 rw [Yu]
 simp+contextual(maxSteps:=9^6)(disch:=omega)only[↓YR,↓den,↓Z0,YS,O1.d,O2.d,O3.d,cmI,arI,Z1,Z2,seval,ZF,ZG,]
 refine mc.lp_for (List Int) (fun i o=>[⟨L I,st⟩,⟨I,(i:Int)⟩,⟨L V3,s.1⟩,⟨L TR,s.2⟩,⟨L T4,r.1⟩,⟨L I,r.2.1⟩,⟨L (L T4),r.2.2⟩,⟨L I,o⟩]) (fun i o=>o=upR r st i) r.2.1.length 0 st _ rfl (Yf _) rfl ?_ ?_
 ·rintro i o hi rfl
  obtain ⟨e4,e5,e6⟩:=e3 i hi
  have h1:((upR r st i).length:Int)=s.1.length:=by rw [Zjv];omega
  simp+contextual(maxSteps:=9^6)(disch:=omega)only[↓YR,↓den,↓Z0,YS,O1.d,O2.d,O3.d,cmI,arI,Z1,Z2,seval,ZF,ZG,Zjm (r.2.2.getD i []) st s.1.length (by omega) hb (by omega)]
  exact upR_next.symm
 rintro o rfl
 simp+contextual(maxSteps:=9^6)(disch:=omega)only[↓YR,↓den,↓Z0,YS,O1.d,O2.d,O3.d,cmI,arI,Z1,Z2,seval,ZF,ZG,Zjr s (upR r st r.2.1.length) g1 (by rw [Zjv];omega)]
 rw [←hK,ZL,if_neg g]
 exact ⟨fun h=>by rw [if_neg h],fun h=>by rw [if_pos h]⟩
theorem Zjz (s:Sy) (st:List Int) (k:Nat) (h:valid s) (hst:inR s.1 st) (hk:k<s.2.length) (Q:List AV→Prop):mc.C Zc5 [⟨L V3,s.1⟩,⟨L TR,s.2⟩,⟨L I,st⟩,⟨I,(k:Int)⟩] Q=Q [⟨L I,ZL s.1 (s.2.getD k ([],[],[])) st⟩,⟨B,decide (ZL s.1 (s.2.getD k ([],[],[])) st≠[])⟩]:=by
 obtain ⟨⟨g0,g1⟩,g2,g3,g4,g5⟩:=h
 have hb:=hst.bds g3
 have hl:=hst.1
 have hr:=g4 _ (ZJ (d:=([],[],[])) hk)
 refine Mc.Ends.c (mc.ends ZgP ?_)
 generalize hK:ZL s.1 (s.2.getD k ([],[],[])) st=K
 generalize ht:s.2.getD k ([],[],[])=r at hK hr
 obtain ⟨e1,e2,e3⟩:=hr
 have hf:=ZiR e3
 simp+contextual(maxSteps:=9^6)(disch:=omega)only[↓YR,↓den,↓Z0,YS,O1.d,O2.d,O3.d,cmI,arI,Z1,Z2,seval,ZF,ZG,Zet,ht,Zjq r.1 st s.1.length (by omega) hb (by omega),Zju st (by omega)]
 refine ⟨fun g=>by rw [←hK,ZL,if_pos g];simp,fun g=>?_⟩
 refine mc.lp_for (List Int) (fun i o=>[⟨L I,st⟩,⟨L I,r.2.1⟩,⟨I,(r.2.1.length:Int)⟩,⟨I,(i:Int)⟩,⟨L V3,s.1⟩,⟨L TR,s.2⟩,⟨L T4,r.1⟩,⟨L I,r.2.1⟩,⟨L (L T4),r.2.2⟩,⟨L I,o⟩]) (fun i o=>o=upR r st i) r.2.1.length 0 st _ rfl (Yf _) rfl ?_ ?_
 ·rintro i o hi rfl
  obtain ⟨e4,e5,e6⟩:=e3 i hi
  have h1:((upR r st i).length:Int)=s.1.length:=by rw [Zjv];omega
  simp+contextual(maxSteps:=9^6)(disch:=omega)only[↓YR,↓den,↓Z0,YS,O1.d,O2.d,O3.d,cmI,arI,Z1,Z2,seval,ZF,ZG,Zjq (r.2.2.getD i []) st s.1.length (by omega) hb (by omega)]
  exact upR_next.symm
 rintro o rfl
 simp+contextual(maxSteps:=9^6)(disch:=omega)only[↓YR,↓den,↓Z0,YS,O1.d,O2.d,O3.d,cmI,arI,Z1,Z2,seval,ZF,ZG,Zjs s (upR r st r.2.1.length) g1 (by rw [Zjv];omega)]
 rw [←hK,ZL,if_neg g]
 refine ⟨fun h=>by rw [if_neg h];simp,fun h=>?_⟩
 rw [if_pos h]
 have h1:(upR r st r.2.1.length).length=st.length:=Zjv
 refine ⟨rfl,?_⟩
 rw [eq_comm,decide_eq_true]
 intro h2
 rw [h2] at h1
 simp at h1
 omega
def cmpL:List Int→List Int→Int
 | [],[]=>0
 | [],_::_ => -1
 | _::_,[]=>1
 | a::l,b::m=>if a<b then -1 else if a > b then 1 else cmpL l m
theorem ZjA:∀l:List Int,cmpL l l=0
 | []=>rfl
 | a::l=>by simp only [cmpL];rw [if_neg (by omega),if_neg (by omega)];exact ZjA l
theorem cmpL_eq:∀{l m:List Int},cmpL l m=0→l=m
 | [],[],_=>rfl
 | [],_::_,h=>by simp [cmpL] at h
 | _::_,[],h=>by simp [cmpL] at h
 | a::l,b::m,h=>by
  simp only [cmpL] at h
  split at h
  ·omega
  ·split at h
   ·omega
   ·rw [show a=b by omega,cmpL_eq h]
theorem ZjB : ∀ {l m : List Int}, cmpL m l = - cmpL l m
 | [],[]=>rfl
 | [],_::_=>rfl
 | _::_,[]=>rfl
 | a::l,b::m=>by
  simp only [cmpL]
  by_cases h1:a<b
  ·rw [if_pos h1,if_neg (by omega),if_pos h1];rfl
  ·by_cases h2:a > b
   ·have h3:b<a:=h2
    have h4:¬b > a:=h1
    simp only [h1,h2,h3,h4,if_true,if_false]
   ·rw [if_neg h1,if_neg h2,if_neg (by omega),if_neg (by omega)];exact ZjB
theorem ZjC:∀{l m k:List Int},cmpL l m<0→cmpL m k<0→cmpL l k<0
 | [],[],_,h,_=>by simp [cmpL] at h
 | [],_::_,[],_,h=>by simp [cmpL] at h
 | [],_::_,_::_,_,_=>by simp [cmpL]
 | _::_,[],_,h,_=>by simp [cmpL] at h
 | _::_,_::_,[],_,h=>by simp [cmpL] at h
 | a::l,b::m,c::k,h1,h2=>by
  simp only [cmpL] at h1 h2 ⊢
  by_cases a1:a<b
  ·by_cases a2:b<c
   ·rw [if_pos (by omega)];omega
   ·by_cases a3:b > c
    ·rw [if_neg a2,if_pos a3] at h2;omega
    ·rw [if_pos (by omega)];omega
  ·by_cases a0:a > b
   ·rw [if_neg a1,if_pos a0] at h1;omega
   ·rw [if_neg a1,if_neg a0] at h1
    by_cases a2:b<c
    ·rw [if_pos (by omega)];omega
    ·by_cases a3:b > c
     ·rw [if_neg a2,if_pos a3] at h2;omega
     ·rw [if_neg a2,if_neg a3] at h2
      rw [if_neg (by omega),if_neg (by omega)];exact ZjC h1 h2
theorem ZjD {l m:List Int} {i:Nat} (h1:i<l.length) (h2:i<m.length):cmpL (l.drop i) (m.drop i)=if l.getD i 0<m.getD i 0 then -1 else if l.getD i 0 > m.getD i 0 then 1 else cmpL (l.drop (i+1)) (m.drop (i+1)):=by
 rw [ZiD (d:=0) h1,ZiD (d:=0) h2];rfl
def ZjE (x:List Int):List (List Int)→List (List Int)
 | []=>[x]
 | y::l=>if y=x then y::l else if cmpL x y<0 then x::y::l else y::ZjE x l
theorem ZjF {x:List Int}:∀{l:List (List Int)},(ZjE x l).length≤l.length+1
 | []=>by simp [ZjE]
 | y::l=>by
  simp only [ZjE]
  split
  ·simp
  ·split
   ·simp
   ·simp only [YA];have:=@ZjF x l;omega
theorem ZjG {x z:List Int}:∀{l:List (List Int)},z∈ZjE x l→z=x∨z∈l
 | [],h=>.inl (by simpa [ZjE] using h)
 | y::l,h=>by
  simp only [ZjE] at h
  split at h
  ·exact .inr h
  ·split at h
   ·exact Yl.1 h
   ·rcases Yl.1 h with rfl | h
    ·exact .inr (Yd ..)
    ·rcases ZjG h with h | h
     ·exact .inl h
     ·exact .inr (Yc _ h)
def Asc (l:List (List Int)):Prop:=l.Pairwise fun a b=>cmpL a b<0
theorem ZjH {x:List Int}:∀{l:List (List Int)},Asc l→Asc (ZjE x l)
 | [],_=>List.pairwise_singleton _ _
 | y::l,h=>by
  have h':=List.pairwise_cons.1 h
  simp only [ZjE]
  split
  ·exact h
  ·rename_i hne
   split
   ·rename_i hlt
    refine List.pairwise_cons.2 ⟨fun z hz=>?_,h⟩
    rcases Yl.1 hz with rfl | hz
    ·exact hlt
    ·exact ZjC hlt (h'.1 z hz)
   ·rename_i hge
    refine List.pairwise_cons.2 ⟨fun z hz=>?_,ZjH h'.2⟩
    rcases ZjG hz with rfl | hz
    ·have h1:=@ZjB y z
     have h2:cmpL y z≠0:=fun h=>hne (cmpL_eq h)
     omega
    ·exact h'.1 z hz
theorem ZjI {x:List Int}:∀{l:List (List Int)} {i:Nat},i≤l.length→(∀k,k<i→cmpL (l.getD k []) x<0)→(∀k,i≤k→k<l.length→0≤cmpL (l.getD k []) x) →
  ZjE x l=if i<l.length∧cmpL (l.getD i []) x=0 then l else l.take i++[x]++l.drop i
 | [],i,hi,_,_=>by
  have:i=0:=by simpa using hi
  subst this
  simp [ZjE]
 | y::l,0,_,_,h2=>by
  have h3:0≤cmpL y x:=h2 0 (Yh _) (by simp)
  simp only [ZjE]
  by_cases h0:cmpL y x=0
  ·rw [if_pos (cmpL_eq h0),if_pos ⟨by simp,h0⟩]
  ·have h4:¬y=x:=fun h=>h0 (by rw [h,ZjA])
   have h5:=@ZjB y x
   rw [if_neg h4,if_pos (by omega),if_neg (fun h=>h0 h.2)]
   simp
 | y::l,i+1,hi,h1,h2=>by
  have h3:cmpL y x<0:=h1 0 (by omega)
  have h4:¬y=x:=fun h=>by rw [h,ZjA] at h3;omega
  have h5:=@ZjB y x
  have ih:=ZjI (x:=x) (l:=l) (i:=i) (by simpa using hi) (fun k hk=>h1 (k+1) (by omega)) (fun k h6 h7=>h2 (k+1) (by omega) (by simpa using h7))
  simp only [ZjE]
  rw [if_neg h4,if_neg (by omega),ih]
  simp only [YA,List.getD_cons_succ,Nat.add_lt_add_iff_right]
  split
  ·rfl
  ·simp
theorem ZjJ (a b:List Int) (ha:a.length≤1048576) (hb:b.length≤1048576) (Q:List AV→Prop):mc.C ZcX [⟨L I,a⟩,⟨L I,b⟩] Q=Q [⟨B,decide (a=b)⟩]:=by
 refine Mc.Ends.c (mc.ends ZhG ?_)
 generalize hK:decide (a=b)=K
 simp+contextual(maxSteps:=9^6)(disch:=omega)only[↓YR,↓den,↓Z0,YS,O1.d,O2.d,O3.d,cmI,arI,Z1,Z2,seval,ZF,ZG,Zfk]
 refine ⟨fun g=>by rw [←hK,decide_eq_false];exact fun h=>g (by rw [h]),fun g=>?_⟩
 refine Zis (fun i=>[⟨L I,a⟩,⟨L I,b⟩,⟨I,(i:Int)⟩]) (fun i=>a.getD i 0=b.getD i 0) a.length _ rfl ?_ ?_
 ·intro i hi
  have hno:¬a.getD i 0=b.getD i 0→false=K:=fun h=>by rw [←hK,decide_eq_false];exact fun h1=>h (by rw [h1])
  simp+contextual(maxSteps:=9^6)(disch:=omega)only[↓YR,↓den,↓Z0,YS,O1.d,O2.d,O3.d,cmI,arI,Z1,Z2,seval,ZF,ZG,]
  exact hno
 ·intro h
  simp+contextual(maxSteps:=9^6)(disch:=omega)only[↓YR,↓den,↓Z0,YS,O1.d,O2.d,O3.d,cmI,arI,Z1,Z2,seval,ZF,ZG,]
  rw [←hK,decide_eq_true]
  refine List.ext_getElem (by omega) fun i h1 h2=>?_
  have:=h i h1
  rwa [getD_lt h1,getD_lt h2] at this
theorem ZjK (a b:List Int) (ha:a.length≤1048576) (hb:b.length≤1048576) (Q:List AV→Prop):mc.C ZcY [⟨L I,a⟩,⟨L I,b⟩] Q=Q [⟨B,decide (cmpL a b<0)⟩]:=by
 refine Mc.Ends.c (mc.ends ZhH ?_)
 generalize hK:decide (cmpL a b<0)=K
 simp+contextual(maxSteps:=9^6)(disch:=omega)only[↓YR,↓den,↓Z0,YS,O1.d,O2.d,O3.d,cmI,arI,Z1,Z2,seval,ZF,ZG,Zfl]
 refine mc.wp_join (fun us=>us=[⟨L I,a⟩,⟨L I,b⟩]∧K=decide (a.length<b.length)) ?_ ?_
 ·simp+contextual(maxSteps:=9^6)(disch:=omega)only[↓YR,↓den,↓Z0,YS,O1.d,O2.d,O3.d,cmI,arI,Z1,Z2,seval,ZF,ZG,]
  refine mc.lp_for Unit (fun i _=>[⟨L I,a⟩,⟨L I,b⟩,⟨I,(i:Int)⟩]) (fun i _=>i≤b.length∧cmpL (a.drop i) (b.drop i)=cmpL a b) a.length 0 () _ rfl (Yf _) ⟨Yf _,rfl⟩ ?_ ?_
  ·rintro i - hi ⟨h1,h2⟩
   simp+contextual(maxSteps:=9^6)(disch:=omega)only[↓YR,↓den,↓Z0,YS,O1.d,O2.d,O3.d,cmI,arI,Z1,Z2,seval,ZF,ZG,]
   refine ⟨fun h=>?_,fun h=>?_⟩
   ·have h3:i<b.length:=by omega
    rw [ZjD hi h3] at h2
    refine ⟨fun h4=>?_,fun h4=>⟨h3,?_⟩⟩
    ·rw [←hK,←h2]
     by_cases h5:a.getD i 0<b.getD i 0
     ·rw [if_pos h5,decide_eq_true h5];rfl
     ·rw [if_neg h5,if_pos (by omega),decide_eq_false h5];rfl
    ·rw [if_neg (by omega),if_neg (by omega)] at h2;exact h2
   ·have h3:i=b.length:=by omega
    subst h3
    rw [List.drop_length,ZiD (d:=0) hi] at h2
    rw [←hK,←h2,decide_eq_false (by simp [cmpL]),decide_eq_false (by omega)]
  ·rintro - ⟨h1, h2⟩
   rw [List.drop_length] at h2
   simp+contextual(maxSteps:=9^6)(disch:=omega)only[↓YR,↓den,↓Z0,YS,O1.d,O2.d,O3.d,cmI,arI,Z1,Z2,seval,ZF,ZG,]
   rw [←hK,←h2]
   by_cases h3:a.length<b.length
   ·rw [decide_eq_true h3,ZiD (d:=0) h3];rfl
   ·rw [decide_eq_false h3,List.drop_eq_nil_of_le (by omega)];rfl
 ·rintro _ ⟨rfl,h⟩
  simp+contextual(maxSteps:=9^6)(disch:=omega)only[↓YR,↓den,↓Z0,YS,O1.d,O2.d,O3.d,cmI,arI,Z1,Z2,seval,ZF,ZG,]
  rw [h]
  exact decide_eq_decide.2 Int.ofNat_lt
theorem ZjL (a:Int) (Q:List AV→Prop):mc.C Zc6 [⟨I,a⟩] Q=Q [⟨B,false⟩]:=by
 refine Mc.Ends.c (mc.ends ZgQ ?_)
 simp+contextual(maxSteps:=9^6)(disch:=omega)only[↓YR,↓den,↓Z0,YS,O1.d,O2.d,O3.d,cmI,arI,Z1,Z2,seval,ZF,ZG,Zeu]
 simp
theorem ZjM (a b:Int) (Q:List AV→Prop):mc.C Zc7 [⟨I,a⟩,⟨I,b⟩] Q=Q [⟨I,if a<b then -1 else if a > b then 1 else 0⟩]:=by
 refine Mc.Ends.c (mc.ends ZgR ?_)
 generalize hK:(if a<b then -1 else if a > b then 1 else 0:Int)=K
 simp+contextual(maxSteps:=9^6)(disch:=omega)only[↓YR,↓den,↓Z0,YS,O1.d,O2.d,O3.d,cmI,arI,Z1,Z2,seval,ZF,ZG,Zev,ZjL]
 grind
theorem ZjN (a b:List Int) (ha:a.length≤1048576) (hb:b.length≤1048576) (Q:List AV→Prop):mc.C Zc8 [⟨L I,a⟩,⟨L I,b⟩] Q=Q [⟨I,cmpL a b⟩]:=by
 refine Mc.Ends.c (mc.ends ZgS ?_)
 generalize hK:cmpL a b=K
 simp+contextual(maxSteps:=9^6)(disch:=omega)only[↓YR,↓den,↓Z0,YS,O1.d,O2.d,O3.d,cmI,arI,Z1,Z2,seval,ZF,ZG,Zew]
 refine mc.lp_for Unit (fun i _=>[⟨L I,a⟩,⟨L I,b⟩,⟨L I,a⟩,⟨I,(a.length:Int)⟩,⟨I,(i:Int)⟩]) (fun i _=>i≤b.length∧cmpL (a.drop i) (b.drop i)=K) a.length 0 () _ rfl (Yf _) ⟨Yf _,hK⟩ ?_ ?_
 ·rintro i - hi ⟨h1,h2⟩
  simp+contextual(maxSteps:=9^6)(disch:=omega)only[↓YR,↓den,↓Z0,YS,O1.d,O2.d,O3.d,cmI,arI,Z1,Z2,seval,ZF,ZG,ZjM]
  refine ⟨fun h=>?_,fun h=>?_⟩
  ·have h3:i=b.length:=by omega
   subst h3
   rw [List.drop_length,ZiD (d:=0) hi] at h2
   rw [←h2];rfl
  ·have h3:i<b.length:=by omega
   rw [ZjD hi h3] at h2
   refine ⟨fun h4=>?_,fun h4=>⟨h3,?_⟩⟩
   ·rw [←h2]
    by_cases h5:a.getD i 0<b.getD i 0
    ·rw [if_pos h5,if_pos h5]
    ·by_cases h6:a.getD i 0 > b.getD i 0
     ·rw [if_neg h5,if_pos h6,if_neg h5,if_pos h6]
     ·rw [if_neg h5,if_neg h6] at h4;exact absurd rfl h4
   ·by_cases h5:a.getD i 0<b.getD i 0
    ·rw [if_pos h5] at h4;omega
    ·by_cases h6:a.getD i 0 > b.getD i 0
     ·rw [if_neg h5,if_pos h6] at h4;omega
     ·rw [if_neg h5,if_neg h6] at h2;exact h2
 ·rintro - ⟨h1, h2⟩
  rw [List.drop_length] at h2
  simp+contextual(maxSteps:=9^6)(disch:=omega)only[↓YR,↓den,↓Z0,YS,O1.d,O2.d,O3.d,cmI,arI,Z1,Z2,seval,ZF,ZG,]
  refine ⟨fun h=>?_,fun h=>?_⟩
  ·rw [←h2,ZiD (d:=0) (by omega)];rfl
  ·rw [←h2,List.drop_eq_nil_of_le (by omega)];rfl
theorem ZjO (l:List (List Int)) (x:List Int) (hl:l.length≤1048576) (hx:x.length≤1048576) (hs:∀y∈l,y.length≤1048576) (Q:List AV→Prop):mc.C ZcZ [⟨L (L I),l⟩,⟨L I,x⟩] Q=Q [⟨L (L I),ZjE x l⟩]:=by
 refine Mc.Ends.c (mc.ends ZhI ?_)
 generalize hK:ZjE x l=K
 simp+contextual(maxSteps:=9^6)(disch:=omega)only[↓YR,↓den,↓Z0,YS,O1.d,O2.d,O3.d,cmI,arI,Z1,Z2,seval,ZF,ZG,Zfm]
 refine mc.lp_for (Bool×List (List Int)) (fun i s=>[⟨L (L I),l⟩,⟨L I,x⟩,⟨B,s.1⟩,⟨I,(i:Int)⟩,⟨L (L I),s.2⟩]) (fun i s=>s.2.length≤i+s.1.toNat∧(s.1=true→s.2++l.drop i=K)∧(s.1=false→s.2++ZjE x (l.drop i)=K)) l.length 0 (false,[]) _ rfl (Yf _) ⟨by simp,by simp,fun _=>hK⟩ ?_ ?_
 ·rintro i ⟨d,o⟩ hi ⟨h1,h2,h3⟩
  have hy:=hs _ (ZJ (d:=[]) hi)
  rw [ZiD (d:=[]) hi] at h2 h3
  obtain ⟨y,hg⟩:∃y,l.getD i []=y:=⟨_,rfl⟩
  rw [hg] at h2 h3 hy
  simp only at h1 h2 h3
  have h4:(o.length:Int)≤1048577:=by cases d<;>simp at h1<;>omega
  cases d with
  | true =>
   have h2:=h2 rfl
   simp+contextual(maxSteps:=9^6)(disch:=omega)only[↓YR,↓den,↓Z0,YS,O1.d,O2.d,O3.d,cmI,arI,Z1,Z2,seval,ZF,ZG,↓ZH,hg]
   exact ⟨(true,o++[y]),⟨rfl,rfl⟩,by simp at h1 ⊢;omega,fun _=>by rw [←h2];simp,fun h=>by cases h⟩
  | false =>
   have h3:=h3 rfl
   simp only [ZjE] at h3
   simp+contextual(maxSteps:=9^6)(disch:=omega)only[↓YR,↓den,↓Z0,YS,O1.d,O2.d,O3.d,cmI,arI,Z1,Z2,seval,ZF,ZG,↓ZH,hg,ZjJ y x hy hx,ZjK x y hx hy]
   refine ⟨fun h=>?_,fun h=>⟨fun h5=>?_,fun h5=>?_⟩⟩
   ·rw [if_pos h] at h3
    exact ⟨(true,o++[x]),⟨rfl,rfl⟩,by simp at h1 ⊢;omega,fun _=>by rw [←h3,←h];simp,fun h=>by cases h⟩
   ·rw [if_neg h,if_pos h5] at h3
    exact ⟨(true,o++[x]++[y]),⟨rfl,rfl⟩,by simp at h1 ⊢;omega,fun _=>by rw [←h3];simp,fun h=>by cases h⟩
   ·rw [if_neg h,if_neg h5] at h3
    exact ⟨(false,o++[y]),⟨rfl,rfl⟩,by simp at h1 ⊢;omega,fun h=>(nomatch h),fun _=>by rw [←h3];simp⟩
 ·rintro ⟨d,o⟩ ⟨h1,h2,h3⟩
  simp only [List.drop_length] at h1 h2 h3
  have h4:(o.length:Int)≤1048577:=by cases d<;>simp at h1<;>omega
  cases d with
  | true=>simp+contextual(maxSteps:=9^6)(disch:=omega)only[↓YR,↓den,↓Z0,YS,O1.d,O2.d,O3.d,cmI,arI,Z1,Z2,seval,ZF,ZG,↓ZH,];simpa using h2 rfl
  | false=>simp+contextual(maxSteps:=9^6)(disch:=omega)only[↓YR,↓den,↓Z0,YS,O1.d,O2.d,O3.d,cmI,arI,Z1,Z2,seval,ZF,ZG,↓ZH,];simpa [ZjE] using h3 rfl
def ZjP (s:Sy) (st:List Int):Nat→List (List Int)
 | 0=>[]
 | k+1=>if ZL s.1 (s.2.getD k ([],[],[])) st=[] then ZjP s st k else ZjE (ZL s.1 (s.2.getD k ([],[],[])) st) (ZjP s st k)
def nxt (s:Sy) (st:List Int):List (List Int):=ZjP s st s.2.length
theorem ZjQ {s:Sy} {st:List Int}:∀{k:Nat},(ZjP s st k).length≤k
 | 0=>Yh _
 | k+1=>by
  have:=@ZjQ s st k
  simp only [ZjP]
  split
  ·omega
  ·exact Nat.le_trans ZjF (by omega)
theorem ZjR {s:Sy} {st:List Int}:∀{k:Nat},Asc (ZjP s st k)
 | 0=>List.Pairwise.nil
 | k+1=>by
  simp only [ZjP]
  split
  ·exact ZjR
  ·exact ZjH ZjR
theorem ZjS {s:Sy} {st:List Int}:∀{k:Nat},∀x∈ZjP s st k,inR s.1 x
 | 0,x,h=>by simp [ZjP] at h
 | k+1,x,h=>by
  simp only [ZjP] at h
  split at h
  ·exact ZjS x h
  ·rename_i h1
   rcases ZjG h with rfl | h
   ·exact Zjw h1
   ·exact ZjS x h
theorem ZjT (s:Sy) (st:List Int) (h:valid s) (hst:inR s.1 st) (Q:List AV→Prop):mc.C Zc_ [⟨L V3,s.1⟩,⟨L TR,s.2⟩,⟨L I,st⟩] Q=Q [⟨L (L I),nxt s st⟩]:=by
 have h8:=h.2.1
 have h5:=h.1.2
 refine Mc.Ends.c (mc.ends ZhJ ?_)
 simp+contextual(maxSteps:=9^6)(disch:=omega)only[↓YR,↓den,↓Z0,YS,O1.d,O2.d,O3.d,cmI,arI,Z1,Z2,seval,ZF,ZG,Zfn]
 refine mc.lp_for (List (List Int)) (fun i o=>[⟨L I,st⟩,⟨I,(i:Int)⟩,⟨L V3,s.1⟩,⟨L TR,s.2⟩,⟨L (L I),o⟩]) (fun i o=>o=ZjP s st i) s.2.length 0 [] _ rfl (Yf _) rfl ?_ ?_
 ·rintro i o hi rfl
  have h1:=@ZjQ s st i
  have hin:∀x∈ZjP s st i,x.length≤1048576:=fun x hx=>by have:=(ZjS x hx).1;omega
  have hu:(ZL s.1 (s.2.getD i ([],[],[])) st).length≤1048576:=by
   by_cases h0:ZL s.1 (s.2.getD i ([],[],[])) st=[]
   ·rw [h0];simp
   ·have:=(Zjw h0).1;omega
  simp+contextual(maxSteps:=9^6)(disch:=omega)only[↓YR,↓den,↓Z0,YS,O1.d,O2.d,O3.d,cmI,arI,Z1,Z2,seval,ZF,ZG,↓ZH,Zjy s st i h hst hi,ZjO _ _ (Nat.le_trans h1 (by omega)) hu hin]
  simp only [ZjP]
  refine ⟨fun g=>?_,fun g=>?_⟩
  ·rw [if_neg (fun h0=>by rw [h0] at g;simp at g)]
  ·rw [if_pos (List.eq_nil_of_length_eq_zero (by omega))]
 ·rintro o rfl
  simp+contextual(maxSteps:=9^6)(disch:=omega)only[↓YR,↓den,↓Z0,YS,O1.d,O2.d,O3.d,cmI,arI,Z1,Z2,seval,ZF,ZG,]
  rfl
end Go.Proofs.YtdgpohclhppodaaGreat
namespace Go.Proofs.YtdgpohclhppodaaGreat
open Go Go.Sm Go.Sm.Q
theorem ZjU (l:List (List Int)) (hl:l.length≤1048576) (Q:List AV→Prop):mc.C Zca [⟨L (L I),l⟩] Q=Q [⟨L (L I),l⟩]:=by
 refine Mc.Ends.c (mc.ends ZgU ?_)
 simp+contextual(maxSteps:=9^6)(disch:=omega)only[↓YR,↓den,↓Z0,YS,O1.d,O2.d,O3.d,cmI,arI,Z1,Z2,seval,ZF,ZG,Zey,Zjt]
 intro h
 exact (List.eq_nil_of_length_eq_zero (by omega)).symm
theorem Asc.lt {l:List (List Int)} (h:Asc l) {i j:Nat} (hij:i<j) (hj:j<l.length):cmpL (l.getD i []) (l.getD j [])<0:=by
 rw [getD_lt (by omega),getD_lt hj]
 exact List.pairwise_iff_getElem.1 h i j (by omega) hj hij
theorem ZjV (s:Sy) (st:List Int) (h:valid s) (hst:inR s.1 st) (Q:List AV→Prop):mc.C Zcb [⟨L V3,s.1⟩,⟨L TR,s.2⟩,⟨L I,st⟩] Q=Q [⟨L (L I),nxt s st⟩]:=by
 have h8:=h.2.1
 have h5:=h.1.2
 refine Mc.Ends.c (mc.ends ZgV ?_)
 simp+contextual(maxSteps:=9^6)(disch:=omega)only[↓YR,↓den,↓Z0,YS,O1.d,O2.d,O3.d,cmI,arI,Z1,Z2,seval,ZF,ZG,Zez]
 refine mc.lp_for (List (List Int)) (fun i o=>[⟨L I,st⟩,⟨I,(s.2.length:Int)⟩,⟨I,(i:Int)⟩,⟨L V3,s.1⟩,⟨L TR,s.2⟩,⟨L (L I),o⟩]) (fun i o=>o=ZjP s st i) s.2.length 0 [] _ rfl (Yf _) rfl ?_ ?_
 ·rintro i o hi rfl
  have h1:=@ZjQ s st i
  have hin:∀x∈ZjP s st i,x.length≤1048576:=fun x hx=>by have:=(ZjS x hx).1;omega
  have hasc:=@ZjR s st i
  simp+contextual(maxSteps:=9^6)(disch:=omega)only[↓YR,↓den,↓Z0,YS,O1.d,O2.d,O3.d,cmI,arI,Z1,Z2,seval,ZF,ZG,]
  refine mc.wp_join (fun us=>us=[⟨L I,st⟩,⟨I,(s.2.length:Int)⟩,⟨I,(i:Int)⟩,⟨L V3,s.1⟩,⟨L TR,s.2⟩,⟨L (L I),ZjP s st (i+1)⟩]) ?_ ?_
  ·simp+contextual(maxSteps:=9^6)(disch:=omega)only[↓YR,↓den,↓Z0,YS,O1.d,O2.d,O3.d,cmI,arI,Z1,Z2,seval,ZF,ZG,Zjz s st i h hst hi]
   simp only [ZjP]
   refine ⟨fun g=>?_,fun g=>?_⟩
   ·rw [if_neg g]
    have hu:(ZL s.1 (s.2.getD i ([],[],[])) st).length≤1048576:=by have:=(Zjw g).1;omega
    generalize ZL s.1 (s.2.getD i ([],[],[])) st=x at *
    generalize ZjP s st i=l at *
    refine mc.wp_join (fun us=>∃at':Nat,at'≤l.length∧(∀k,k<at'→cmpL (l.getD k []) x<0)∧(∀k,at'≤k→k<l.length→0≤cmpL (l.getD k []) x) ∧
     us=[⟨L I,st⟩,⟨I,(at':Int)⟩,⟨B,decide (at'<l.length∧cmpL (l.getD at' []) x=0)⟩,⟨I,(s.2.length:Int)⟩,⟨I,(i:Int)⟩,⟨L V3,s.1⟩,⟨L TR,s.2⟩,⟨L (L I),l⟩,⟨L I,x⟩]) ?_ ?_
    ·simp+contextual(maxSteps:=9^6)(disch:=omega)only[↓YR,↓den,↓Z0,YS,O1.d,O2.d,O3.d,cmI,arI,Z1,Z2,seval,ZF,ZG,]
     refine mc.lp_inv (fun k us=>∃lo hi:Nat,k=hi - lo∧lo≤hi∧hi≤l.length∧(∀k,k<lo→cmpL (l.getD k []) x<0)∧(∀k,hi≤k→k<l.length→0≤cmpL (l.getD k []) x) ∧
      us=[⟨I,(l.length:Int)⟩,⟨I,(lo:Int)⟩,⟨I,(hi:Int)⟩,⟨L I,st⟩,⟨I,(s.2.length:Int)⟩,⟨I,(i:Int)⟩,⟨L (L I),l⟩,⟨L I,x⟩,⟨L V3,s.1⟩,⟨L TR,s.2⟩]) l.length _ ⟨0,l.length,rfl,Yf _,Yh _,fun k hk=>absurd hk (Nat.not_lt_zero _),fun k h1 h2=>absurd h1 (by omega),rfl⟩ ?_
     rintro k us ⟨lo,hi,rfl,a1,a2,a3,a4,rfl⟩
     obtain ⟨m,hm⟩:∃m:Nat,((lo:Int)+hi) / 2=m:=⟨((lo+hi) / 2),by omega⟩
     have hc:∀n,n<l.length→∀Q,mc.C Zc8 [⟨L I,l.getD n []⟩,⟨L I,x⟩] Q=Q [⟨I,cmpL (l.getD n []) x⟩]:=fun n hn Q=>ZjN _ _ (hin _ (ZJ hn)) hu Q
     simp+contextual(maxSteps:=9^6)(disch:=omega)only[↓YR,↓den,↓Z0,YS,O1.d,O2.d,O3.d,cmI,arI,Z1,Z2,seval,ZF,ZG,hm]
     refine ⟨fun g1=>?_,fun g1=>⟨fun g2=>?_,fun g2=>?_⟩⟩
     ·rw [hc m (by omega)]
      simp+contextual(maxSteps:=9^6)(disch:=omega)only[↓YR,↓den,↓Z0,YS,O1.d,O2.d,O3.d,cmI,arI,Z1,Z2,seval,ZF,ZG,hm]
      refine ⟨fun g2=>⟨hi - (m+1),by omega,m+1,hi,rfl,by omega,a2,fun k hk=>?_,a4,rfl,rfl⟩,fun g2=>⟨m - lo,by omega,lo,m,rfl,by omega,by omega,a3,fun k hk1 hk2=>?_,rfl,rfl⟩⟩
      ·rcases Nat.lt_succ_iff_lt_or_eq.1 hk with h3 | rfl
       ·exact ZjC (hasc.lt h3 (by omega)) g2
       ·exact g2
      ·rcases Nat.lt_or_eq_of_le hk1 with h3 | rfl
       ·exact Classical.byContradiction fun h4=>g2 (ZjC (hasc.lt h3 hk2) (by omega))
       ·omega
     ·rw [hc lo (by omega)]
      simp+contextual(maxSteps:=9^6)(disch:=omega)only[↓YR,↓den,↓Z0,YS,O1.d,O2.d,O3.d,cmI,arI,Z1,Z2,seval,ZF,ZG,]
      refine ⟨lo,by omega,a3,fun k hk1 hk2=>a4 k (by omega) hk2,rfl,?_⟩
      have:lo<l.length:=by omega
      simp [this]
      rfl
     ·refine ⟨lo,by omega,a3,fun k hk1 hk2=>a4 k (by omega) hk2,rfl,?_⟩
      have:¬lo<l.length:=by omega
      simp [this]
    ·rintro _ ⟨at',b1,b2,b3,rfl⟩
     simp+contextual(maxSteps:=9^6)(disch:=omega)only[↓YR,↓den,↓Z0,YS,O1.d,O2.d,O3.d,cmI,arI,Z1,Z2,seval,ZF,ZG,]
     rw [ZjI b1 b2 b3]
     refine ⟨fun g1=>by rw [if_neg g1],fun g1=>by rw [if_pos g1]⟩
   ·rw [if_pos (by simpa using g)]
  ·rintro _ rfl
   simp+contextual(maxSteps:=9^6)(disch:=omega)only[↓YR,↓den,↓Z0,YS,O1.d,O2.d,O3.d,cmI,arI,Z1,Z2,seval,ZF,ZG,]
 ·rintro o rfl
  simp+contextual(maxSteps:=9^6)(disch:=omega)only[↓YR,↓den,↓Z0,YS,O1.d,O2.d,O3.d,cmI,arI,Z1,Z2,seval,ZF,ZG,ZjU (ZjP s st s.2.length) (Nat.le_trans ZjQ (by omega))]
  rfl
def ZM (l:List Vr):List Int:=l.map (·.2.2)
theorem ZjW {l:List Vr} (hv:∀v∈l,vOk v):inR l (ZM l):=by
 refine ⟨by simp [ZM],fun i hi=>?_⟩
 have h:=hv _ (ZJ (d:=(0,0,0)) hi)
 have e:(ZM l).getD i 0=(l.getD i (0,0,0)).2.2:=by simp [ZM,hi]
 rw [e]
 unfold vOk at h
 omega
theorem ZjX {l:List Vr} {i:Nat} (hi:i<l.length):ZM (l.take i)++[(l.getD i (0,0,0)).2.2]=ZM (l.take (i+1)):=by
 rw [←Zjx (d:=(0,0,0)) hi];simp [ZM]
theorem ZjY (s:Sy) (h:s.1.length≤5) (Q:List AV→Prop):mc.C Zc2 [⟨L V3,s.1⟩,⟨L TR,s.2⟩] Q=Q [⟨L I,ZM s.1⟩]:=by
 refine Mc.Ends.c (mc.ends ZgM ?_)
 simp+contextual(maxSteps:=9^6)(disch:=omega)only[↓YR,↓den,↓Z0,YS,O1.d,O2.d,O3.d,cmI,arI,Z1,Z2,seval,ZF,ZG,Zeq]
 refine mc.lp_for (List Int) (fun i o=>[⟨L V3,s.1⟩,⟨I,(s.1.length:Int)⟩,⟨I,(i:Int)⟩,⟨L I,o⟩]) (fun i o=>o=ZM (s.1.take i)) s.1.length 0 [] _ rfl (Yf _) rfl ?_ ?_
 ·rintro i o hi rfl
  have h1:((ZM (s.1.take i)).length:Int)≤5:=by simp [ZM];omega
  simp+contextual(maxSteps:=9^6)(disch:=omega)only[↓YR,↓den,↓Z0,YS,O1.d,O2.d,O3.d,cmI,arI,Z1,Z2,seval,ZF,ZG,]
  exact ZjX hi
 ·rintro o rfl
  rw [Yu]
  have h1:(ZM s.1).length≤5:=by simp [ZM];omega
  simp+contextual(maxSteps:=9^6)(disch:=omega)only[↓YR,↓den,↓Z0,YS,O1.d,O2.d,O3.d,cmI,arI,Z1,Z2,seval,ZF,ZG,Zju (ZM s.1) (by omega)]
theorem ZjZ (s:Sy) (hs:ZK s) (hv:valid s) (Q:List AV→Prop):mc.C ZcJ [⟨L V3,s.1⟩,⟨L TR,s.2⟩] Q=Q [⟨L I,ZM s.1⟩]:=by
 have h:=hv.1.2
 refine Mc.Ends.c (mc.ends Zhs ?_)
 simp+contextual(maxSteps:=9^6)(disch:=omega)only[↓YR,↓den,↓Z0,YS,O1.d,O2.d,O3.d,cmI,arI,Z1,Z2,seval,ZF,ZG,Zf6]
 refine mc.wp_join (fun us=>us=[⟨L I,ZM s.1⟩]) ?_ (by rintro _ rfl;simp+contextual(maxSteps:=9^6)(disch:=omega)only[↓YR,↓den,↓Z0,YS,O1.d,O2.d,O3.d,cmI,arI,Z1,Z2,seval,ZF,ZG,])
 simp+contextual(maxSteps:=9^6)(disch:=omega)only[↓YR,↓den,↓Z0,YS,O1.d,O2.d,O3.d,cmI,arI,Z1,Z2,seval,ZF,ZG,]
 refine mc.lp_for (List Int) (fun i o=>[⟨I,(i:Int)⟩,⟨L V3,s.1⟩,⟨L TR,s.2⟩,⟨L I,o⟩]) (fun i o=>o=ZM (s.1.take i)) s.1.length 0 [] _ rfl (Yf _) rfl ?_ ?_
 ·rintro i o hi rfl
  have h1:((ZM (s.1.take i)).length:Int)≤5:=by simp [ZM];omega
  simp+contextual(maxSteps:=9^6)(disch:=omega)only[↓YR,↓den,↓Z0,YS,O1.d,O2.d,O3.d,cmI,arI,Z1,Z2,seval,ZF,ZG,Zj1 s hs,hv]
  exact ZjX hi
 ·rintro o rfl
  simp+contextual(maxSteps:=9^6)(disch:=omega)only[↓YR,↓den,↓Z0,YS,O1.d,O2.d,O3.d,cmI,arI,Z1,Z2,seval,ZF,ZG,]
  rw [Yu]
theorem Zj_ (l:List Int) (hl:l.length≤1048576) (Q:List AV→Prop):mc.C ZcK [⟨L I,l⟩] Q=Q [⟨L I,l⟩]:=by
 refine Mc.Ends.c (mc.ends Zht ?_)
 simp+contextual(maxSteps:=9^6)(disch:=omega)only[↓YR,↓den,↓Z0,YS,O1.d,O2.d,O3.d,cmI,arI,Z1,Z2,seval,ZF,ZG,Zf7]
 refine mc.lp_for (List Int) (fun i o=>[⟨L I,l⟩,⟨I,(i:Int)⟩,⟨L I,o⟩]) (fun i o=>o=l.take i) l.length 0 [] _ rfl (Yf _) rfl ?_ ?_
 ·rintro i o hi rfl
  have h1:((l.take i).length:Int)≤1048576:=by rw [Yb];omega
  simp+contextual(maxSteps:=9^6)(disch:=omega)only[↓YR,↓den,↓Z0,YS,O1.d,O2.d,O3.d,cmI,arI,Z1,Z2,seval,ZF,ZG,]
  exact Zjx hi
 ·rintro o rfl
  simp+contextual(maxSteps:=9^6)(disch:=omega)only[↓YR,↓den,↓Z0,YS,O1.d,O2.d,O3.d,cmI,arI,Z1,Z2,seval,ZF,ZG,]
  rw [Yu]
def Zk0 (l:List Vr) (st:List Int):Nat→Int
 | 0=>0
 | i+1=>Zk0 l st i * wd (l.getD i (0,0,0))+st.getD i 0 - (l.getD i (0,0,0)).1
def num (l:List Vr) (st:List Int):Int:=Zk0 l st l.length
theorem Zk1 {l:List Vr} {st:List Int} (hv:∀v∈l,vOk v) (hst:inR l st):∀{i:Nat},i≤l.length→0≤Zk0 l st i∧Zk0 l st i<sz (l.take i)
 | 0,_=>by simp [Zk0,sz]
 | i+1,hi=>by
  have ih:=Zk1 hv hst (i:=i) (by omega)
  have h1:=hst.2 i (by omega)
  have h2:=hv _ (ZJ (d:=(0,0,0)) (show i<l.length by omega))
  have h3:=ZiU h2
  rw [ZiV (d:=(0,0,0)) (by omega)]
  simp only [Zk0]
  have h4:0≤Zk0 l st i * wd (l.getD i (0,0,0)):=Int.mul_nonneg ih.1 (by omega)
  have h5:(Zk0 l st i+1) * wd (l.getD i (0,0,0))≤sz (l.take i) * wd (l.getD i (0,0,0)):=Int.mul_le_mul_of_nonneg_right (by omega) (by omega)
  rw [Int.add_mul,Int.one_mul] at h5
  have h6:wd (l.getD i (0,0,0))=(l.getD i (0,0,0)).2.1 - (l.getD i (0,0,0)).1+1:=rfl
  omega
theorem Zk2 {l:List Vr} {st:List Int} (hv:∀v∈l,vOk v) (hst:inR l st):0≤num l st∧num l st<sz l:=by
 have:=Zk1 hv hst (Yh l.length)
 rwa [Yu] at this
theorem Zk3 (s:Sy) (st:List Int) (h5:s.1.length≤5) (hv:∀v∈s.1,vOk v) (hst:inR s.1 st) (Q:List AV→Prop):mc.C ZcU [⟨L V3,s.1⟩,⟨L TR,s.2⟩,⟨L I,st⟩] Q=Q [⟨I,num s.1 st⟩]:=by
 have hl:=hst.1
 refine Mc.Ends.c (mc.ends ZhD ?_)
 simp+contextual(maxSteps:=9^6)(disch:=omega)only[↓YR,↓den,↓Z0,YS,O1.d,O2.d,O3.d,cmI,arI,Z1,Z2,seval,ZF,ZG,Zfh]
 refine mc.lp_for Int (fun i n=>[⟨L I,st⟩,⟨I,n⟩,⟨I,(i:Int)⟩,⟨L V3,s.1⟩,⟨L TR,s.2⟩]) (fun i n=>n=Zk0 s.1 st i) st.length 0 0 _ rfl (Yf _) rfl ?_ ?_
 ·rintro i n hi rfl
  have h1:=Zk1 hv hst (i:=i) (by omega)
  have h2:=Zj0 (l:=s.1) h5 (show i≤s.1.length by omega) fun j hj=>hv _ (ZJ (by omega))
  have h3:=hv _ (ZJ (d:=(0,0,0)) (show i<s.1.length by omega))
  have h4:=hst.2 i (by omega)
  have h6:0≤Zk0 s.1 st i * wd (s.1.getD i (0,0,0))∧Zk0 s.1 st i * wd (s.1.getD i (0,0,0))≤64000000:=by
   have a:=ZiU h3
   refine ⟨Int.mul_nonneg h1.1 (by omega),?_⟩
   have:=Int.mul_le_mul (show Zk0 s.1 st i≤3200000 by omega) a.2 (by omega) (by omega)
   omega
  unfold vOk at h3
  unfold wd at h6
  simp+contextual(maxSteps:=9^6)(disch:=omega)only[↓YR,↓den,↓Z0,YS,O1.d,O2.d,O3.d,cmI,arI,Z1,Z2,seval,ZF,ZG,]
  rfl
 ·rintro n rfl
  simp+contextual(maxSteps:=9^6)(disch:=omega)only[↓YR,↓den,↓Z0,YS,O1.d,O2.d,O3.d,cmI,arI,Z1,Z2,seval,ZF,ZG,]
  rw [hl];rfl
theorem Zk4 (s:Sy) (st:List Int) (h5:s.1.length≤5) (hv:∀v∈s.1,vOk v) (hst:inR s.1 st) (Q:List AV→Prop):mc.C Zc3 [⟨L V3,s.1⟩,⟨L TR,s.2⟩,⟨L I,st⟩] Q=Q [⟨I,num s.1 st⟩]:=by
 have hl:=hst.1
 refine Mc.Ends.c (mc.ends ZgN ?_)
 simp+contextual(maxSteps:=9^6)(disch:=omega)only[↓YR,↓den,↓Z0,YS,O1.d,O2.d,O3.d,cmI,arI,Z1,Z2,seval,ZF,ZG,Zer]
 refine mc.lp_for Int (fun i n=>[⟨L I,st⟩,⟨I,n⟩,⟨L V3,s.1⟩,⟨I,(s.1.length:Int)⟩,⟨I,(i:Int)⟩]) (fun i n=>n=Zk0 s.1 st i) s.1.length 0 0 _ rfl (Yf _) rfl ?_ ?_
 ·rintro i n hi rfl
  have h1:=Zk1 hv hst (i:=i) (by omega)
  have h2:=Zj0 (l:=s.1) h5 (show i≤s.1.length by omega) fun j hj=>hv _ (ZJ (by omega))
  have h3:=hv _ (ZJ (d:=(0,0,0)) (show i<s.1.length by omega))
  have h4:=hst.2 i (by omega)
  have h6:0≤Zk0 s.1 st i * wd (s.1.getD i (0,0,0))∧Zk0 s.1 st i * wd (s.1.getD i (0,0,0))≤64000000:=by
   have a:=ZiU h3
   refine ⟨Int.mul_nonneg h1.1 (by omega),?_⟩
   have:=Int.mul_le_mul (show Zk0 s.1 st i≤3200000 by omega) a.2 (by omega) (by omega)
   omega
  unfold vOk at h3
  unfold wd at h6
  simp+contextual(maxSteps:=9^6)(disch:=omega)only[↓YR,↓den,↓Z0,YS,O1.d,O2.d,O3.d,cmI,arI,Z1,Z2,seval,ZF,ZG,]
  rfl
 ·rintro n rfl
  simp+contextual(maxSteps:=9^6)(disch:=omega)only[↓YR,↓den,↓Z0,YS,O1.d,O2.d,O3.d,cmI,arI,Z1,Z2,seval,ZF,ZG,]
  rfl
def dg:List Vr→Int→Int×List Int
 | [],n=>(n,[])
 | v::l,n=>((dg l n).1 / wd v,(v.1+(dg l n).1 % wd v)::(dg l n).2)
def Zk5 (l:List Vr) (n:Int):List Int:=(dg l n).2
theorem Zk6:∀{l:List Vr} {n:Int},(dg l n).2.length=l.length
 | [],n=>rfl
 | v::l,n=>by simp [dg,Zk6]
theorem Zk7 {l:List Vr} {n:Int} (hv:∀v∈l,vOk v) (hn:0≤n∧n≤3200000):0≤(dg l n).1∧(dg l n).1≤3200000:=by
 induction l with
 | nil=>exact hn
 | cons v l ih =>
  have h:=ih fun v hv'=>hv v (Yc _ hv')
  have h1:=ZiU (hv v (Yd ..))
  simp only [dg]
  exact ⟨Int.ediv_nonneg h.1 (by omega),Int.le_trans (Int.ediv_le_self _ h.1) h.2⟩
theorem Zk8 {l:List Vr} {n:Int} (hv:∀v∈l,vOk v) (hn:0≤n∧n≤3200000):inR l (Zk5 l n):=by
 induction l with
 | nil=>exact ⟨rfl,fun i hi=>absurd hi (Nat.not_lt_zero _)⟩
 | cons v l ih =>
  have h:=ih fun v hv'=>hv v (Yc _ hv')
  have h1:=hv v (Yd ..)
  have h2:=ZiU h1
  refine ⟨by simp [Zk5,Zk6],fun i hi=>?_⟩
  cases i with
  | succ i=>exact h.2 i (by simpa using hi)
  | zero =>
   have a1:=Int.emod_nonneg (dg l n).1 (show wd v≠0 by omega)
   have a2:=Int.emod_lt_of_pos (dg l n).1 (show 0<wd v by omega)
   have a3:wd v=v.2.1 - v.1+1:=rfl
   simp only [Zk5,dg,List.getD_cons_zero]
   omega
theorem Zk9 {pre D:List Int} {k:Nat} {x:Int} (h:k<pre.length):(pre.take (k+1)++D).set k x=pre.take k++x::D:=by
 rw [←Zjx (d:=0) h,Ym,List.set_append_right _ _ (by rw [Yb];omega)]
 have:k - (pre.take k).length=0:=by rw [Yb];omega
 rw [this];rfl
theorem Zka {l:List Vr} {n:Int} {k:Nat} (h:k<l.length):dg (l.drop k) n=((dg (l.drop (k+1)) n).1 / wd (l.getD k (0,0,0)),((l.getD k (0,0,0)).1+(dg (l.drop (k+1)) n).1 % wd (l.getD k (0,0,0)))::(dg (l.drop (k+1)) n).2):=by
 rw [ZiD (d:=(0,0,0)) h];rfl
theorem Zkb (s:Sy) (n:Int) (h5:s.1.length≤5) (hv:∀v∈s.1,vOk v) (hn:0≤n∧n≤3200000) (Q:List AV→Prop):mc.C ZbV [⟨L V3,s.1⟩,⟨L TR,s.2⟩,⟨I,n⟩] Q=Q [⟨L I,Zk5 s.1 n⟩]:=by
 refine Mc.Ends.c (mc.ends ZgE ?_)
 simp+contextual(maxSteps:=9^6)(disch:=omega)only[↓YR,↓den,↓Z0,YS,O1.d,O2.d,O3.d,cmI,arI,Z1,Z2,seval,ZF,ZG,Zei,Yy]
 refine mc.lp_down (Int×List Int) (fun k x=>[⟨I,x.1⟩,⟨I,(k:Int) - 1⟩,⟨L V3,s.1⟩,⟨L TR,s.2⟩,⟨L I,x.2⟩]) (fun k x=>k≤s.1.length∧x.1=(dg (s.1.drop k) n).1∧x.2=(List.replicate s.1.length (0:Int)).take k++(dg (s.1.drop k) n).2) s.1.length (n,List.replicate s.1.length 0) _ rfl ⟨Yh _,by simp [dg],by simp [dg]⟩ ?_ ?_
 ·rintro k ⟨m,o⟩ ⟨hk,rfl,rfl⟩
  have hv':∀k,∀v∈s.1.drop k,vOk v:=fun k v hv1=>hv v (List.mem_of_mem_drop hv1)
  have h1:=Zk7 (hv' (k+1)) hn
  have h2:=Zk7 (hv' k) hn
  have h3:=hv _ (ZJ (d:=(0,0,0)) (show k<s.1.length by omega))
  have h4:=ZiU h3
  have h6:=Int.emod_nonneg (dg (s.1.drop (k+1)) n).1 (show wd (s.1.getD k (0,0,0))≠0 by omega)
  have h7:=Int.emod_lt_of_pos (dg (s.1.drop (k+1)) n).1 (show 0<wd (s.1.getD k (0,0,0)) by omega)
  have hlen:((List.replicate s.1.length (0:Int)).take (k+1)++(dg (s.1.drop (k+1)) n).2).length=s.1.length:=by simp [Zk6];omega
  have hset:∀x:Int,((List.replicate s.1.length (0:Int)).take (k+1)++(dg (s.1.drop (k+1)) n).2).set k x=(List.replicate s.1.length (0:Int)).take k++x::(dg (s.1.drop (k+1)) n).2:=fun x=>Zk9 (by rw [Yy];omega)
  have e:=Zka (l:=s.1) (n:=n) (k:=k) (by omega)
  rw [e] at h2 ⊢
  clear e
  generalize dg (s.1.drop (k+1)) n=D at *
  generalize (List.replicate s.1.length (0:Int)).take (k+1)++D.2=O at *
  generalize (List.replicate s.1.length (0:Int)).take k=P at *
  simp only [wd] at h2 h4 h6 h7 ⊢
  unfold vOk at h3
  simp+contextual(maxSteps:=9^6)(disch:=omega)only[↓YR,↓den,↓Z0,YS,O1.d,O2.d,O3.d,cmI,arI,Z1,Z2,seval,ZF,ZG,hset]
  exact ⟨(_,_),⟨rfl,rfl⟩,by omega,rfl,rfl⟩
 ·rintro ⟨m,o⟩ ⟨hk,rfl,rfl⟩
  simp+contextual(maxSteps:=9^6)(disch:=omega)only[↓YR,↓den,↓Z0,YS,O1.d,O2.d,O3.d,cmI,arI,Z1,Z2,seval,ZF,ZG,List.take_zero,List.nil_append,List.drop_zero]
  rfl
theorem Zkc (s:Sy) (n:Int) (hs:ZK s) (hV:valid s) (hn:0≤n∧n≤3200000) (Q:List AV→Prop):mc.C ZcL [⟨L V3,s.1⟩,⟨L TR,s.2⟩,⟨I,n⟩] Q=Q [⟨L I,Zk5 s.1 n⟩]:=by
 have h5:=hV.1.2
 have hv:=hV.2.2.1
 have hf:(ZM s.1).length=s.1.length:=by simp [ZM]
 refine Mc.Ends.c (mc.ends Zhu ?_)
 simp+contextual(maxSteps:=9^6)(disch:=omega)only[↓YR,↓den,↓Z0,YS,O1.d,O2.d,O3.d,cmI,arI,Z1,Z2,seval,ZF,ZG,Zf8,ZjZ s hs hV,Zj_ (ZM s.1) (by omega)]
 generalize ZM s.1=pre at *
 refine mc.lp_down (Int×List Int) (fun k x=>[⟨I,x.1⟩,⟨I,(k:Int) - 1⟩,⟨L V3,s.1⟩,⟨L TR,s.2⟩,⟨L I,x.2⟩]) (fun k x=>k≤s.1.length∧x.1=(dg (s.1.drop k) n).1∧x.2=pre.take k++(dg (s.1.drop k) n).2) s.1.length (n,pre) _ rfl ⟨Yh _,by simp [dg],by rw [List.drop_length,←hf,Yu];simp [dg]⟩ ?_ ?_
 ·rintro k ⟨m,o⟩ ⟨hk,rfl,rfl⟩
  have hv':∀k,∀v∈s.1.drop k,vOk v:=fun k v hv1=>hv v (List.mem_of_mem_drop hv1)
  have h1:=Zk7 (hv' (k+1)) hn
  have h2:=Zk7 (hv' k) hn
  have h3:=hv _ (ZJ (d:=(0,0,0)) (show k<s.1.length by omega))
  have h4:=ZiU h3
  have h6:=Int.emod_nonneg (dg (s.1.drop (k+1)) n).1 (show wd (s.1.getD k (0,0,0))≠0 by omega)
  have h7:=Int.emod_lt_of_pos (dg (s.1.drop (k+1)) n).1 (show 0<wd (s.1.getD k (0,0,0)) by omega)
  have hlen:(pre.take (k+1)++(dg (s.1.drop (k+1)) n).2).length=s.1.length:=by simp [Zk6,hf];omega
  have hset:∀x:Int,(pre.take (k+1)++(dg (s.1.drop (k+1)) n).2).set k x=pre.take k++x::(dg (s.1.drop (k+1)) n).2:=fun x=>Zk9 (by omega)
  have e:=Zka (l:=s.1) (n:=n) (k:=k) (by omega)
  rw [e] at h2 ⊢
  clear e
  generalize dg (s.1.drop (k+1)) n=D at *
  generalize pre.take (k+1)++D.2=O at *
  generalize pre.take k=P at *
  simp only [wd] at h2 h4 h6 h7 ⊢
  unfold vOk at h3
  simp+contextual(maxSteps:=9^6)(disch:=omega)only[↓YR,↓den,↓Z0,YS,O1.d,O2.d,O3.d,cmI,arI,Z1,Z2,seval,ZF,ZG,hset]
  exact ⟨(_,_),⟨rfl,rfl⟩,by omega,rfl,rfl⟩
 ·rintro ⟨m,o⟩ ⟨hk,rfl,rfl⟩
  simp+contextual(maxSteps:=9^6)(disch:=omega)only[↓YR,↓den,↓Z0,YS,O1.d,O2.d,O3.d,cmI,arI,Z1,Z2,seval,ZF,ZG,List.take_zero,List.nil_append,List.drop_zero]
  rfl
def tab {α:Type} (f:Nat→α) (n:Nat):List α:=(List.range n).map f
theorem ZN {α:Type} {f:Nat→α} {n:Nat}:(tab f n).length=n:=by simp [tab]
theorem Zkd {α:Type} {f:Nat→α} {n:Nat}:tab f n++[f n]=tab f (n+1):=by simp [tab,List.range_succ]
theorem ZO {α:Type} {f:Nat→α} {n i:Nat} {d:α} (h:i<n):(tab f n).getD i d=f i:=by simp [tab,h]
theorem Zke {α:Type} {f:Nat→α} {N i:Nat} {z x:α} (h:i<N) (hx:x=f i):(tab f i++List.replicate (N - i) z).set i x=tab f (i+1)++List.replicate (N - (i+1)) z:=by
 have e:=Zjo (l:=tab f i) (k:=N - (i+1)) (x:=x) (z:=z)
 rw [ZN] at e
 rw [Zjp h,e,hx,Zkd]
theorem Zkf {α:Type} {f:Nat→α} {N i:Nat} {z x y:α}:(tab f i++y::List.replicate N z).set i x=tab f i++x::List.replicate N z:=by
 rw [List.set_append_right _ _ (by rw [ZN];exact Yh _),ZN,Nat.sub_self];rfl
theorem Zkg {α:Type} {f:Nat→α} {i:Nat} {d y:α} {r:List α}:(tab f i++y::r).getD i d=y:=by
 rw [Y8,Yt (by rw [ZN];exact Yh _),ZN,Nat.sub_self];rfl
def szn (l:List Vr):Nat:=(sz l).toNat
theorem ZP {s:Sy} (h:valid s):((szn s.1:Nat):Int)=sz s.1∧1≤szn s.1∧szn s.1≤400:=by
 have h1:=ZiX s.1 h.2.2.1 s.1.length (Yh _)
 rw [Yu] at h1
 have h2:=h.2.2.2.2
 unfold szn
 omega
def stN (s:Sy) (n:Nat):List Int:=Zk5 s.1 n
theorem Zkh {s:Sy} (h:valid s) {n:Nat} (hn:n<szn s.1):inR s.1 (stN s n):=Zk8 h.2.2.1 (by have:=ZP h;omega)
def Zki (s:Sy) (n:Nat):List Int:=(nxt s (stN s n)).map (num s.1)
def steps (s:Sy):List (List Int):=tab (Zki s) (szn s.1)
theorem Zkj {s:Sy} {st:List Int} (h:valid s):(nxt s st).length≤8:=Nat.le_trans ZjQ h.2.1
theorem Zkk {s:Sy} {st:List Int}:∀x∈nxt s st,inR s.1 x:=ZjS
theorem Zkl {α β:Type} {l:List α} {g:α→β} {j:Nat} {d:α} (h:j<l.length):(l.take j).map g++[g (l.getD j d)]=(l.take (j+1)).map g:=by
 rw [←Zjx (d:=d) h];simp
theorem Zkm (s:Sy) (hs:ZK s) (h:valid s) (Q:List AV→Prop):mc.C Zd0 [⟨L V3,s.1⟩,⟨L TR,s.2⟩] Q=Q [⟨L (L I),steps s⟩]:=by
 have hz:=ZP h
 have h5:=h.1.2
 have hv:=h.2.2.1
 refine Mc.Ends.c (mc.ends ZhK ?_)
 simp+contextual(maxSteps:=9^6)(disch:=omega)only[↓YR,↓den,↓Z0,YS,O1.d,O2.d,O3.d,cmI,arI,Z1,Z2,seval,ZF,ZG,Zfo]
 refine mc.lp_for (List (List Int)) (fun i o=>[⟨I,(i:Int)⟩,⟨L V3,s.1⟩,⟨L TR,s.2⟩,⟨L (L I),o⟩]) (fun i o=>o=tab (Zki s) i) (szn s.1) 0 [] _ rfl (Yf _) rfl ?_ ?_
 ·rintro i o hi rfl
  have hin:=Zkh h hi
  have hst:Zk5 s.1 (i:Int)=stN s i:=rfl
  have hl:=@Zkj s (stN s i) h
  have htl:(tab (Zki s) i).length=i:=ZN
  simp+contextual(maxSteps:=9^6)(disch:=omega)only[↓YR,↓den,↓Z0,YS,O1.d,O2.d,O3.d,cmI,arI,Z1,Z2,seval,ZF,ZG,Zj4 s hs,h,Zkc s i hs h (by omega),hst,ZjT s (stN s i) h hin]
  refine mc.lp_for (List Int) (fun j o=>[⟨I,(i:Int)⟩,⟨I,(j:Int)⟩,⟨L V3,s.1⟩,⟨L TR,s.2⟩,⟨L (L I),tab (Zki s) i⟩,⟨L (L I),nxt s (stN s i)⟩,⟨L I,o⟩]) (fun j o=>o=((nxt s (stN s i)).take j).map (num s.1)) (nxt s (stN s i)).length 0 [] _ rfl (Yf _) rfl ?_ ?_
  ·rintro j o hj rfl
   have hx:=Zkk _ (ZJ (d:=[]) hj)
   have hol:(((nxt s (stN s i)).take j).map (num s.1)).length≤8:=by simp;omega
   simp+contextual(maxSteps:=9^6)(disch:=omega)only[↓YR,↓den,↓Z0,YS,O1.d,O2.d,O3.d,cmI,arI,Z1,Z2,seval,ZF,ZG,Zk3 s _ h5 hv hx]
   exact Zkl hj
  ·rintro o rfl
   rw [Yu]
   simp+contextual(maxSteps:=9^6)(disch:=omega)only[↓YR,↓den,↓Z0,YS,O1.d,O2.d,O3.d,cmI,arI,Z1,Z2,seval,ZF,ZG,]
   exact Zkd
 ·rintro o rfl
  simp+contextual(maxSteps:=9^6)(disch:=omega)only[↓YR,↓den,↓Z0,YS,O1.d,O2.d,O3.d,cmI,arI,Z1,Z2,seval,ZF,ZG,Zj4 s hs,h]
  rfl
theorem Zkn (s:Sy) (h:valid s) (Q:List AV→Prop):mc.C Zcc [⟨L V3,s.1⟩,⟨L TR,s.2⟩] Q=Q [⟨L (L I),steps s⟩]:=by
 have hz:=ZP h
 have h5:=h.1.2
 have hv:=h.2.2.1
 refine Mc.Ends.c (mc.ends ZgW ?_)
 simp+contextual(maxSteps:=9^6)(disch:=omega)only[↓YR,↓den,↓Z0,YS,O1.d,O2.d,O3.d,cmI,arI,Z1,Z2,seval,ZF,ZG,ZeA,Zj2 s.1 h5 hv,←hz.1,Yy]
 refine mc.lp_for (List (List Int)) (fun i o=>[⟨I,(szn s.1:Int)⟩,⟨I,(i:Int)⟩,⟨L V3,s.1⟩,⟨L TR,s.2⟩,⟨L (L I),o⟩]) (fun i o=>o=tab (Zki s) i++List.replicate (szn s.1 - i) []) (szn s.1) 0 (List.replicate (szn s.1) []) _ rfl (Yf _) rfl ?_ ?_
 ·rintro i o hi rfl
  have hin:=Zkh h hi
  have hst:Zk5 s.1 (i:Int)=stN s i:=rfl
  have hl:=@Zkj s (stN s i) h
  simp+contextual(maxSteps:=9^6)(disch:=omega)only[↓YR,↓den,↓Z0,YS,O1.d,O2.d,O3.d,cmI,arI,Z1,Z2,seval,ZF,ZG,Zkb s i h5 hv (by omega),hst,ZjV s (stN s i) h hin]
  rw [Zjp hi,List.replicate_succ]
  refine mc.lp_for (List Int) (fun j o=>[⟨I,(i:Int)⟩,⟨I,(szn s.1:Int)⟩,⟨I,(i:Int)⟩,⟨I,((nxt s (stN s i)).length:Int)⟩,⟨I,(j:Int)⟩,⟨L V3,s.1⟩,⟨L TR,s.2⟩,⟨L (L I),tab (Zki s) i++o::List.replicate (szn s.1 - (i+1)) []⟩,⟨L (L I),nxt s (stN s i)⟩]) (fun j o=>o=((nxt s (stN s i)).take j).map (num s.1)) (nxt s (stN s i)).length 0 [] _ rfl (Yf _) rfl ?_ ?_
  ·rintro j o hj rfl
   have hx:=Zkk _ (ZJ (d:=[]) hj)
   have hol:(((nxt s (stN s i)).take j).map (num s.1)).length≤8:=by simp;omega
   have hlen:(tab (Zki s) i++((nxt s (stN s i)).take j).map (num s.1)::List.replicate (szn s.1 - (i+1)) []).length=szn s.1:=by simp [ZN];omega
   simp+contextual(maxSteps:=9^6)(disch:=omega)only[↓YR,↓den,↓Z0,YS,O1.d,O2.d,O3.d,cmI,arI,Z1,Z2,seval,ZF,ZG,Zk4 s _ h5 hv hx,Zkg,Zkf,ZN,Yy]
   exact ⟨_,rfl,Zkl hj⟩
  ·rintro o rfl
   rw [Yu]
   simp+contextual(maxSteps:=9^6)(disch:=omega)only[↓YR,↓den,↓Z0,YS,O1.d,O2.d,O3.d,cmI,arI,Z1,Z2,seval,ZF,ZG,]
   rw [←Zkd,Ym];rfl
 ·rintro o rfl
  simp+contextual(maxSteps:=9^6)(disch:=omega)only[↓YR,↓den,↓Z0,YS,O1.d,O2.d,O3.d,cmI,arI,Z1,Z2,seval,ZF,ZG,]
  simp [steps]
def ZQ (s:Sy) (l:List Tm) (n:Nat):Bool:=evl l (stN s n)==1
theorem Zko (s:Sy) (l:List Tm) (h:valid s) (hl:kf l s.1.length≠0) (Q:List AV→Prop):mc.C Zb_ [⟨L V3,s.1⟩,⟨L TR,s.2⟩,⟨L T4,l⟩] Q=Q [⟨L B,tab (ZQ s l) (szn s.1)⟩]:=by
 have hz:=ZP h
 have h5:=h.1.2
 have hv:=h.2.2.1
 refine Mc.Ends.c (mc.ends ZgJ ?_)
 simp+contextual(maxSteps:=9^6)(disch:=omega)only[↓YR,↓den,↓Z0,YS,O1.d,O2.d,O3.d,cmI,arI,Z1,Z2,seval,ZF,ZG,Zen,Zj2 s.1 h5 hv,←hz.1,Yy]
 refine mc.lp_for (List Bool) (fun i o=>[⟨L T4,l⟩,⟨I,(szn s.1:Int)⟩,⟨I,(i:Int)⟩,⟨L V3,s.1⟩,⟨L TR,s.2⟩,⟨L B,o⟩]) (fun i o=>o=tab (ZQ s l) i++List.replicate (szn s.1 - i) false) (szn s.1) 0 (List.replicate (szn s.1) false) _ rfl (Yf _) rfl ?_ ?_
 ·rintro i o hi rfl
  have hin:=Zkh h hi
  have hst:Zk5 s.1 (i:Int)=stN s i:=rfl
  simp+contextual(maxSteps:=9^6)(disch:=omega)only[↓YR,↓den,↓Z0,YS,O1.d,O2.d,O3.d,cmI,arI,Z1,Z2,seval,ZF,ZG,Zkb s i h5 hv (by omega),hst,Zjq l (stN s i) s.1.length hl (hin.bds hv) (by rw [hin.1]),ZN,Yy]
  exact Zke hi rfl
 ·rintro o rfl
  simp+contextual(maxSteps:=9^6)(disch:=omega)only[↓YR,↓den,↓Z0,YS,O1.d,O2.d,O3.d,cmI,arI,Z1,Z2,seval,ZF,ZG,]
  simp
def ZR (p:Nat→Bool):Nat→List Int
 | 0=>[]
 | n+1=>if p n=true then ZR p n++[(n:Int)] else ZR p n
theorem Zkp {p:Nat→Bool} {n:Nat} (h:p n=true):ZR p (n+1)=ZR p n++[(n:Int)]:=by rw [ZR,if_pos h]
theorem Zkq {p:Nat→Bool} {n:Nat} (h:¬p n=true):ZR p (n+1)=ZR p n:=by rw [ZR,if_neg h]
theorem ZS {p:Nat→Bool}:∀{n:Nat},(ZR p n).length≤n
 | 0=>Yh _
 | n+1=>by
  have:=@ZS p n
  simp only [ZR]
  split
  ·simp;omega
  ·omega
theorem Zkr {p:Nat→Bool} {x:Int}:∀{n:Nat},x∈ZR p n↔∃k,k<n∧x=(k:Int)∧p k=true
 | 0=>by simp [ZR]
 | n+1=>by
  have ih:=@Zkr p x n
  simp only [ZR]
  constructor
  ·intro h
   split at h
   ·rename_i hp
    rcases Y6.1 h with h | h
    ·obtain ⟨k,h1,h2⟩:=ih.1 h;exact ⟨k,by omega,h2⟩
    ·exact ⟨n,by omega,by simpa using h,hp⟩
   ·obtain ⟨k,h1,h2⟩:=ih.1 h;exact ⟨k,by omega,h2⟩
  ·rintro ⟨k,h1,h2,h3⟩
   rcases Nat.lt_succ_iff_lt_or_eq.1 h1 with h4 | rfl
   ·have h5:=ih.2 ⟨k,h4,h2,h3⟩
    split
    ·exact Y3 _ h5
    ·exact h5
   ·rw [if_pos h3,h2];simp
theorem Zks {p q:Nat→Bool}:∀{n:Nat},(∀k,k<n→p k=q k)→ZR p n=ZR q n
 | 0,_=>rfl
 | n+1,h=>by simp only [ZR];rw [h n (by omega),Zks fun k hk=>h k (by omega)]
theorem Zkt (s:Sy) (l:List Tm) (hs:ZK s) (hf:Few l) (h:valid s) (hl:kf l s.1.length=2) (Q:List AV→Prop):mc.C ZcR [⟨L V3,s.1⟩,⟨L TR,s.2⟩,⟨L T4,l⟩] Q=Q [⟨L I,ZR (ZQ s l) (szn s.1)⟩]:=by
 have hz:=ZP h
 have h5:=h.1.2
 have hv:=h.2.2.1
 refine Mc.Ends.c (mc.ends ZhA ?_)
 simp+contextual(maxSteps:=9^6)(disch:=omega)only[↓YR,↓den,↓Z0,YS,O1.d,O2.d,O3.d,cmI,arI,Z1,Z2,seval,ZF,ZG,Zfe,Zj1 s hs,h,ZiK l s.1.length 2 hf (by omega),hl]
 refine mc.lp_for (List Int) (fun i o=>[⟨L T4,l⟩,⟨I,(i:Int)⟩,⟨L V3,s.1⟩,⟨L TR,s.2⟩,⟨L I,o⟩]) (fun i o=>o=ZR (ZQ s l) i) (szn s.1) 0 [] _ rfl (Yf _) rfl ?_ ?_
 ·rintro i o hi rfl
  have hin:=Zkh h hi
  have hst:Zk5 s.1 (i:Int)=stN s i:=rfl
  have hlen:=@ZS (ZQ s l) i
  simp+contextual(maxSteps:=9^6)(disch:=omega)only[↓YR,↓den,↓Z0,YS,O1.d,O2.d,O3.d,cmI,arI,Z1,Z2,seval,ZF,ZG,↓ZH,Zj4 s hs,h,Zkc s i hs h (by omega),hst,Zjm l (stN s i) s.1.length (by omega) (hin.bds hv) (by rw [hin.1])]
  exact ⟨fun g=>(Zkp (by rw [ZQ,g];rfl)).symm,fun g=>(Zkq (by simpa [ZQ] using g)).symm⟩
 ·rintro o rfl
  simp+contextual(maxSteps:=9^6)(disch:=omega)only[↓YR,↓den,↓Z0,YS,O1.d,O2.d,O3.d,cmI,arI,Z1,Z2,seval,ZF,ZG,Zj4 s hs,h]
def bn (n:Int):Int:=if n≤1 then 0 else if n≤2 then 1 else if n≤4 then 2 else if n≤8 then 3 else if n≤16 then 4 else 5
theorem Zku (n:Int):0≤bn n∧bn n≤5:=by unfold bn;grind
theorem Zkv:shI true .i64 1 0=1:=by decide
theorem Zkw:shI true .i64 1 1=2:=by decide
theorem Zkx:shI true .i64 1 2=4:=by decide
theorem Zky:shI true .i64 1 3=8:=by decide
theorem Zkz:shI true .i64 1 4=16:=by decide
theorem ZkA:shI true .i64 1 5=32:=by decide
theorem ZkB (n:Int) (h:1≤n∧n≤20) (Q:List AV→Prop):mc.C Zcs [⟨I,n⟩] Q=Q [⟨I,bn n⟩]:=by
 refine Mc.Ends.c (mc.ends Zhb ?_)
 generalize hK:bn n=K
 unfold bn at hK
 simp+contextual(maxSteps:=9^6)(disch:=omega)only[↓YR,↓den,↓Z0,YS,O1.d,O2.d,O3.d,cmI,arI,Z1,Z2,seval,ZF,ZG,ZeQ]
 refine mc.lp_step ?_
 simp+contextual(maxSteps:=9^6)(disch:=omega)only[↓YR,↓den,↓Z0,YS,O1.d,O2.d,O3.d,cmI,arI,Z1,Z2,seval,ZF,ZG,Zkv,Zkw,Zkx,Zky,Zkz,ZkA]
 refine ⟨fun h1=>?_,fun h1=>by grind⟩
 refine mc.lp_step ?_
 simp+contextual(maxSteps:=9^6)(disch:=omega)only[↓YR,↓den,↓Z0,YS,O1.d,O2.d,O3.d,cmI,arI,Z1,Z2,seval,ZF,ZG,Zkv,Zkw,Zkx,Zky,Zkz,ZkA]
 refine ⟨fun h1=>?_,fun h1=>by grind⟩
 refine mc.lp_step ?_
 simp+contextual(maxSteps:=9^6)(disch:=omega)only[↓YR,↓den,↓Z0,YS,O1.d,O2.d,O3.d,cmI,arI,Z1,Z2,seval,ZF,ZG,Zkv,Zkw,Zkx,Zky,Zkz,ZkA]
 refine ⟨fun h1=>?_,fun h1=>by grind⟩
 refine mc.lp_step ?_
 simp+contextual(maxSteps:=9^6)(disch:=omega)only[↓YR,↓den,↓Z0,YS,O1.d,O2.d,O3.d,cmI,arI,Z1,Z2,seval,ZF,ZG,Zkv,Zkw,Zkx,Zky,Zkz,ZkA]
 refine ⟨fun h1=>?_,fun h1=>by grind⟩
 refine mc.lp_step ?_
 simp+contextual(maxSteps:=9^6)(disch:=omega)only[↓YR,↓den,↓Z0,YS,O1.d,O2.d,O3.d,cmI,arI,Z1,Z2,seval,ZF,ZG,Zkv,Zkw,Zkx,Zky,Zkz,ZkA]
 refine ⟨fun h1=>?_,fun h1=>by grind⟩
 refine mc.lp_step ?_
 simp+contextual(maxSteps:=9^6)(disch:=omega)only[↓YR,↓den,↓Z0,YS,O1.d,O2.d,O3.d,cmI,arI,Z1,Z2,seval,ZF,ZG,Zkv,Zkw,Zkx,Zky,Zkz,ZkA]
 grind
theorem ZkC (n:Int) (h:1≤n∧n≤20) (Q:List AV→Prop):mc.C Zd8 [⟨I,n⟩] Q=Q [⟨I,bn n⟩]:=by
 refine Mc.Ends.c (mc.ends ZhS ?_)
 generalize hK:bn n=K
 unfold bn at hK
 simp+contextual(maxSteps:=9^6)(disch:=omega)only[↓YR,↓den,↓Z0,YS,O1.d,O2.d,O3.d,cmI,arI,Z1,Z2,seval,ZF,ZG,Zfw]
 refine mc.lp_step ?_
 simp+contextual(maxSteps:=9^6)(disch:=omega)only[↓YR,↓den,↓Z0,YS,O1.d,O2.d,O3.d,cmI,arI,Z1,Z2,seval,ZF,ZG,Int.reduceMul]
 refine ⟨fun h1=>?_,fun h1=>by grind⟩
 refine mc.lp_step ?_
 simp+contextual(maxSteps:=9^6)(disch:=omega)only[↓YR,↓den,↓Z0,YS,O1.d,O2.d,O3.d,cmI,arI,Z1,Z2,seval,ZF,ZG,Int.reduceMul]
 refine ⟨fun h1=>?_,fun h1=>by grind⟩
 refine mc.lp_step ?_
 simp+contextual(maxSteps:=9^6)(disch:=omega)only[↓YR,↓den,↓Z0,YS,O1.d,O2.d,O3.d,cmI,arI,Z1,Z2,seval,ZF,ZG,Int.reduceMul]
 refine ⟨fun h1=>?_,fun h1=>by grind⟩
 refine mc.lp_step ?_
 simp+contextual(maxSteps:=9^6)(disch:=omega)only[↓YR,↓den,↓Z0,YS,O1.d,O2.d,O3.d,cmI,arI,Z1,Z2,seval,ZF,ZG,Int.reduceMul]
 refine ⟨fun h1=>?_,fun h1=>by grind⟩
 refine mc.lp_step ?_
 simp+contextual(maxSteps:=9^6)(disch:=omega)only[↓YR,↓den,↓Z0,YS,O1.d,O2.d,O3.d,cmI,arI,Z1,Z2,seval,ZF,ZG,Int.reduceMul]
 refine ⟨fun h1=>?_,fun h1=>by grind⟩
 refine mc.lp_step ?_
 simp+contextual(maxSteps:=9^6)(disch:=omega)only[↓YR,↓den,↓Z0,YS,O1.d,O2.d,O3.d,cmI,arI,Z1,Z2,seval,ZF,ZG,Int.reduceMul]
 grind
def ZkD (f:Nat→Int):Nat→Int
 | 0=>0
 | k+1=>ZkD f k+f k
def bw (l:List Vr) (i:Nat):Int:=bn (wd (l.getD i (0,0,0)))
def bc (l:List Vr):Int:=ZkD (bw l) l.length
theorem ZkE {f:Nat→Int} (h:∀i,0≤f i∧f i≤5):∀n:Nat,0≤ZkD f n∧ZkD f n≤5 * (n:Int)
 | 0=>by simp [ZkD]
 | n+1=>by have h1:=ZkE h n;have h2:=h n;simp only [ZkD];omega
theorem ZkF (s:Sy) (h:valid s) (Q:List AV→Prop):mc.C Zct [⟨L V3,s.1⟩,⟨L TR,s.2⟩] Q=Q [⟨L I,tab (bw s.1) s.1.length⟩]:=by
 have h5:=h.1.2
 have hv:=h.2.2.1
 refine Mc.Ends.c (mc.ends Zhc ?_)
 simp+contextual(maxSteps:=9^6)(disch:=omega)only[↓YR,↓den,↓Z0,YS,O1.d,O2.d,O3.d,cmI,arI,Z1,Z2,seval,ZF,ZG,ZeR]
 refine mc.lp_for (List Int) (fun i o=>[⟨L V3,s.1⟩,⟨I,(s.1.length:Int)⟩,⟨I,(i:Int)⟩,⟨L I,o⟩]) (fun i o=>o=tab (bw s.1) i) s.1.length 0 [] _ rfl (Yf _) rfl ?_ ?_
 ·rintro i o hi rfl
  have h3:=hv _ (ZJ (d:=(0,0,0)) hi)
  have h4:=ZiU h3
  have e:(s.1.getD i (0,0,0)).2.1 - (s.1.getD i (0,0,0)).1+1=wd (s.1.getD i (0,0,0)):=rfl
  unfold vOk at h3
  simp+contextual(maxSteps:=9^6)(disch:=omega)only[↓YR,↓den,↓Z0,YS,O1.d,O2.d,O3.d,cmI,arI,Z1,Z2,seval,ZF,ZG,e,ZkB _ h4,ZN]
  exact Zkd
 ·rintro o rfl
  simp+contextual(maxSteps:=9^6)(disch:=omega)only[↓YR,↓den,↓Z0,YS,O1.d,O2.d,O3.d,cmI,arI,Z1,Z2,seval,ZF,ZG,Zju (tab (bw s.1) s.1.length) (by rw [ZN];omega)]
theorem ZkG (s:Sy) (h:valid s) (Q:List AV→Prop):mc.C Zd9 [⟨L V3,s.1⟩,⟨L TR,s.2⟩] Q=Q [⟨L I,tab (bw s.1) s.1.length⟩]:=by
 have h5:=h.1.2
 have hv:=h.2.2.1
 refine Mc.Ends.c (mc.ends ZhT ?_)
 simp+contextual(maxSteps:=9^6)(disch:=omega)only[↓YR,↓den,↓Z0,YS,O1.d,O2.d,O3.d,cmI,arI,Z1,Z2,seval,ZF,ZG,Zfx]
 refine mc.lp_for (List Int) (fun i o=>[⟨I,(i:Int)⟩,⟨L V3,s.1⟩,⟨L TR,s.2⟩,⟨L I,o⟩]) (fun i o=>o=tab (bw s.1) i) s.1.length 0 [] _ rfl (Yf _) rfl ?_ ?_
 ·rintro i o hi rfl
  have h3:=hv _ (ZJ (d:=(0,0,0)) hi)
  have h4:=ZiU h3
  have e:(s.1.getD i (0,0,0)).2.1 - (s.1.getD i (0,0,0)).1+1=wd (s.1.getD i (0,0,0)):=rfl
  unfold vOk at h3
  simp+contextual(maxSteps:=9^6)(disch:=omega)only[↓YR,↓den,↓Z0,YS,O1.d,O2.d,O3.d,cmI,arI,Z1,Z2,seval,ZF,ZG,e,ZkC _ h4,ZN]
  exact Zkd
 ·rintro o rfl
  simp+contextual(maxSteps:=9^6)(disch:=omega)only[↓YR,↓den,↓Z0,YS,O1.d,O2.d,O3.d,cmI,arI,Z1,Z2,seval,ZF,ZG,]
noncomputable def dB (p:Prop):Bool:=@decide p (Classical.propDecidable p)
theorem ZkH {p:Prop}:dB p=true↔p:=@decide_eq_true_iff p (Classical.propDecidable p)
theorem ZT {p:Prop} (h:p):dB p=true:=ZkH.2 h
theorem ZU {p:Prop} (h:¬p):dB p=false:=by cases h1:dB p with | false=>rfl | true=>exact absurd (ZkH.1 h1) h
theorem ZkI {p q:Prop} (h:p↔q):dB p=dB q:=by rw [propext h]
theorem ZkJ {p:Prop} [Decidable p]:dB p=decide p:=by by_cases h:p<;>simp [h,dB]
theorem ZV {α:Type} {f g:Nat→α} {n:Nat} (h:∀k,k<n→f k=g k):tab f n=tab g n:=by
 unfold tab
 exact Ys fun k hk=>h k (List.mem_range.1 hk)
theorem ZkK {α:Type} {f:Nat→α} {n j:Nat} {x:α}:(tab f n).set j x=tab (fun k=>if k=j then x else f k) n:=by
 apply List.ext_getElem
 ·simp [tab]
 ·intro i h1 h2
  simp only [tab,YC,YF,List.length_range] at h1 h2
  rw [List.getElem_set]
  simp only [tab,List.getElem_map,List.getElem_range]
  by_cases h:j=i
  ·rw [if_pos h,if_pos h.symm]
  ·rw [if_neg h,if_neg (fun e=>h e.symm)]
theorem ZkL {α:Type} {z:α} {n:Nat}:List.replicate n z=tab (fun _=>z) n:=by
 apply List.ext_getElem<;>simp [tab]
def ZW (l:List Int) (n:Int):Prop:=∀i,i<l.length→(0≤l.getD i 0∧l.getD i 0≤n - 1)∧(0<i→l.getD (i - 1) 0<l.getD i 0)
instance (l : List Int) (n : Int) : Decidable (ZW l n) := by unfold ZW; infer_instance
theorem ZkM {l:List Int} {n:Int} (h:ZW l n):∀x∈l,0≤x∧x<n:=by
 intro x hx
 obtain ⟨i,hi,rfl⟩:=List.getElem_of_mem hx
 have:=(h i hi).1
 rw [getD_lt hi] at this
 omega
theorem ZkN {l:List Int} {n:Int} (h:ZW l n):∀i,i<l.length→(i:Int)≤l.getD i 0:=by
 intro i
 induction i with
 | zero=>intro hi;exact (h 0 hi).1.1
 | succ i ih =>
  intro hi
  have h1:=ih (by omega)
  have h2:=(h (i+1) hi).2 (by omega)
  simp only [Nat.add_sub_cancel] at h2
  omega
theorem ZkO {l:List Int} {n:Int} (h:ZW l n) (hn:0≤n):(l.length:Int)≤n:=by
 rcases Nat.eq_zero_or_pos l.length with h0 | h0
 ·omega
 ·have h1:=ZkN h (l.length - 1) (by omega)
  have h2:=(h (l.length - 1) (by omega)).1.2
  omega
theorem ZkP {l:List Int} {n x:Int} (h:ZW l n) (hx:0≤x∧x<n) (hl:∀y∈l,y<x):ZW (l++[x]) n:=by
 intro i hi
 simp only [Y7,YA,List.length_nil,Nat.zero_add] at hi
 rw [Zjf,Zjf]
 by_cases h1:i<l.length
 ·rw [if_pos h1,if_pos (by omega)];exact h i h1
 ·have h2:i=l.length:=by omega
  rw [if_neg h1,if_pos h2]
  refine ⟨by omega,fun h3=>?_⟩
  rw [if_pos (by omega)]
  exact hl _ (ZJ (by omega))
theorem ZkQ {p:Nat→Bool} {n:Nat}:∀x∈ZR p n,x<n:=fun x hx=>by obtain ⟨k,h1,h2,_⟩:=Zkr.1 hx;omega
theorem ZkR {p:Nat→Bool} {m:Nat}:∀{n:Nat},n≤m→ZW (ZR p n) m
 | 0,_=>fun i hi=>absurd hi (Nat.not_lt_zero _)
 | n+1,h=>by
  simp only [ZR]
  split
  ·exact ZkP (ZkR (by omega)) (by omega) ZkQ
  ·exact ZkR (by omega)
theorem ZkS {l:List Int} {i:Nat} {x:Int} (h:i<l.length):x∈l.take (i+1)↔x∈l.take i∨x=l.getD i 0:=by
 rw [←Zjx (d:=0) h];simp
theorem ZkT (l:List Int) (n:Nat) (hn:n≤1048576) (hl:l.length≤1048576) (h:∀x∈l,0≤x∧x<n) (Q:List AV→Prop):mc.C ZcS [⟨L I,l⟩,⟨I,(n:Int)⟩] Q=Q [⟨L B,tab (fun k=>dB ((k:Int)∈l)) n⟩]:=by
 refine Mc.Ends.c (mc.ends ZhB ?_)
 simp+contextual(maxSteps:=9^6)(disch:=omega)only[↓YR,↓den,↓Z0,YS,O1.d,O2.d,O3.d,cmI,arI,Z1,Z2,seval,ZF,ZG,Zff]
 refine mc.lp_for (List Bool) (fun i o=>[⟨L I,l⟩,⟨I,(i:Int)⟩,⟨L B,o⟩]) (fun i o=>o=tab (fun k=>dB ((k:Int)∈l.take i)) n) l.length 0 (List.replicate n false) _ rfl (Yf _) ?_ ?_ ?_
 ·rw [ZkL];exact ZV fun k _=>(ZU (by simp)).symm
 ·rintro i o hi rfl
  have hx:=h _ (ZJ (d:=0) hi)
  simp+contextual(maxSteps:=9^6)(disch:=omega)only[↓YR,↓den,↓Z0,YS,O1.d,O2.d,O3.d,cmI,arI,Z1,Z2,seval,ZF,ZG,ZN,ZkK]
  refine ZV fun k hk=>?_
  by_cases hk2:k=(l.getD i 0).toNat
  ·rw [if_pos hk2,ZT];exact (ZkS hi).2 (.inr (by omega))
  ·rw [if_neg hk2];refine ZkI ?_
   rw [ZkS hi]
   exact ⟨.inl,fun h=>h.elim id fun h=>absurd h (by omega)⟩
 ·rintro o rfl
  rw [Yu]
  simp+contextual(maxSteps:=9^6)(disch:=omega)only[↓YR,↓den,↓Z0,YS,O1.d,O2.d,O3.d,cmI,arI,Z1,Z2,seval,ZF,ZG,]
theorem ZkU (l:List Int) (m:Int) (n:Nat) (e:m=n) (hn:n≤1048576) (hl:l.length≤1048576) (h:∀x∈l,0≤x∧x<n) (Q:List AV→Prop):mc.C ZcS [⟨L I,l⟩,⟨I,m⟩] Q=Q [⟨L B,tab (fun k=>dB ((k:Int)∈l)) n⟩]:=e▸ZkT l n hn hl h Q
theorem ZkV (l:List Bool) (hl:l.length≤1048576) (Q:List AV→Prop):mc.C Zdh [⟨L B,l⟩] Q=Q [⟨L I,ZR (fun k=>l.getD k false) l.length⟩]:=by
 refine Mc.Ends.c (mc.ends Zi0 ?_)
 simp+contextual(maxSteps:=9^6)(disch:=omega)only[↓YR,↓den,↓Z0,YS,O1.d,O2.d,O3.d,cmI,arI,Z1,Z2,seval,ZF,ZG,ZfF]
 refine mc.lp_for (List Int) (fun i o=>[⟨L B,l⟩,⟨I,(i:Int)⟩,⟨L I,o⟩]) (fun i o=>o=ZR (fun k=>l.getD k false) i) l.length 0 [] _ rfl (Yf _) rfl ?_ ?_
 ·rintro i o hi rfl
  have h1:=@ZS (fun k=>l.getD k false) i
  simp+contextual(maxSteps:=9^6)(disch:=omega)only[↓YR,↓den,↓Z0,YS,O1.d,O2.d,O3.d,cmI,arI,Z1,Z2,seval,ZF,ZG,↓ZH,]
  exact ⟨fun g=>(Zkp g).symm,fun g=>(Zkq g).symm⟩
 ·rintro o rfl
  simp+contextual(maxSteps:=9^6)(disch:=omega)only[↓YR,↓den,↓Z0,YS,O1.d,O2.d,O3.d,cmI,arI,Z1,Z2,seval,ZF,ZG,]
theorem ZkW (p:Nat→Bool) (n:Nat) (hn:n≤1048576) (Q:List AV→Prop):mc.C Zdh [⟨L B,tab p n⟩] Q=Q [⟨L I,ZR p n⟩]:=by
 rw [ZkV _ (by rw [ZN];exact hn),ZN,Zks fun k hk=>ZO hk]
def behind (T:List (List Int)) (p:Nat→Bool) (n:Nat) (k:Nat):Prop:=∃a,a<n∧p a=true∧(k:Int)∈T.getD a []
theorem ZkX (l:List Int) (hl:l.length≤1048576) (Q:List AV→Prop):mc.C Zde [⟨L I,l⟩] Q=Q [⟨B,decide (ZW l 400)⟩]:=by
 refine Mc.Ends.c (mc.ends ZhY ?_)
 generalize hK:decide (ZW l 400)=K
 simp+contextual(maxSteps:=9^6)(disch:=omega)only[↓YR,↓den,↓Z0,YS,O1.d,O2.d,O3.d,cmI,arI,Z1,Z2,seval,ZF,ZG,ZfC]
 refine Zis (fun i=>[⟨L I,l⟩,⟨I,(i:Int)⟩]) (fun i=>(0≤l.getD i 0∧l.getD i 0≤400 - 1)∧(0<i→l.getD (i - 1) 0<l.getD i 0)) l.length _ rfl ?_ ?_
 ·intro i hi
  have hno:¬((0≤l.getD i 0∧l.getD i 0≤400 - 1)∧(0<i→l.getD (i - 1) 0<l.getD i 0))→false=K:=fun h=>by rw [←hK,decide_eq_false];exact fun h1=>h (h1 i hi)
  simp+contextual(maxSteps:=9^6)(disch:=omega)only[↓YR,↓den,↓Z0,YS,O1.d,O2.d,O3.d,cmI,arI,Z1,Z2,seval,ZF,ZG,↓ZH,Ziw]
  grind
 ·intro h
  simp+contextual(maxSteps:=9^6)(disch:=omega)only[↓YR,↓den,↓Z0,YS,O1.d,O2.d,O3.d,cmI,arI,Z1,Z2,seval,ZF,ZG,]
  rw [←hK,decide_eq_true];exact h
theorem ZkY {p q:Nat→Bool} {N M:Nat} (h:N≤M) (h1:∀k,k<N→p k=q k) (h2:∀k,N≤k→k<M→p k=false):ZR p M=ZR q N:=by
 induction M with
 | zero => have : N = 0 := by omega
           subst this;rfl
 | succ M ih =>
  rcases Nat.lt_or_eq_of_le h with h3 | rfl
  ·rw [Zkq (by rw [h2 M (by omega) (by omega)];simp)]
   exact ih (by omega) fun k h4 h5=>h2 k h4 (by omega)
  ·exact Zks h1
theorem ZkZ {p:Nat→Bool} {n k:Nat}:dB ((k:Int)∈ZR p n)=(decide (k<n)&&p k):=by
 by_cases h:k<n∧p k=true
 ·rw [ZT (Zkr.2 ⟨k,h.1,rfl,h.2⟩)];simp [h]
 ·rw [ZU]
  ·by_cases h1:k<n
   ·have:p k=false:=by cases h2:p k with | false=>rfl | true=>exact absurd ⟨h1,h2⟩ h
    simp [this]
   ·simp [h1]
  ·intro h1
   obtain ⟨j,h2,h3,h4⟩:=Zkr.1 h1
   have:k=j:=by omega
   subst this
   exact h ⟨h2,h4⟩
theorem Zk_ {p q:Nat→Bool}:∀{n:Nat},(∀k,k<n→p k=true→q k=true)→(ZR p n).length≤(ZR q n).length∧((ZR q n).length≤(ZR p n).length→∀k,k<n→q k=true→p k=true)
 | 0,_=>⟨Yh _,fun _ k hk=>absurd hk (Nat.not_lt_zero _)⟩
 | n+1,h=>by
  obtain ⟨h1,h2⟩:=Zk_ (n:=n) fun k hk=>h k (by omega)
  by_cases hp:p n=true
  ·have hq:=h n (by omega) hp
   rw [Zkp hp,Zkp hq]
   simp only [Y7,YA,List.length_nil]
   refine ⟨by omega,fun h3 k hk hqk=>?_⟩
   rcases Nat.lt_succ_iff_lt_or_eq.1 hk with h4 | rfl
   ·exact h2 (by omega) k h4 hqk
   ·exact hp
  ·rw [Zkq hp]
   by_cases hq:q n=true
   ·rw [Zkp hq]
    simp only [Y7,YA,List.length_nil]
    exact ⟨by omega,fun h3=>absurd h3 (by omega)⟩
   ·rw [Zkq hq]
    refine ⟨h1,fun h3 k hk hqk=>?_⟩
    rcases Nat.lt_succ_iff_lt_or_eq.1 hk with h4 | rfl
    ·exact h2 h3 k h4 hqk
    ·exact absurd hqk hq
theorem Zl0 (a b:List Int) (N:Nat) (hN:N=400) (ha:ZW a 400) (hb:ZW b 400) (Q:List AV→Prop):mc.C Zdf [⟨L I,a⟩,⟨L I,b⟩,⟨I,2⟩] Q=Q [⟨L I,ZR (fun k=>dB ((k:Int)∈a)&&!dB ((k:Int)∈b)) N⟩]:=by
 have la:=ZkO ha (by omega)
 have lb:=ZkO hb (by omega)
 have ma:=ZkM ha
 have mb:=ZkM hb
 refine Mc.Ends.c (mc.ends ZhZ ?_)
 simp+contextual(maxSteps:=9^6)(disch:=omega)only[↓YR,↓den,↓Z0,YS,O1.d,O2.d,O3.d,cmI,arI,Z1,Z2,seval,ZF,ZG,ZfD,ZkX a (by omega),ZkX b (by omega),ha,hb,ZkU a 400 N (by omega) (by omega) (by omega) (fun x hx=>by have:=ma x hx;omega),ZkU b 400 N (by omega) (by omega) (by omega) (fun x hx=>by have:=mb x hx;omega)]
 refine mc.lp_for (List Int) (fun i o=>[⟨I,2⟩,⟨I,(i:Int)⟩,⟨L I,o⟩,⟨L B,tab (fun k=>dB ((k:Int)∈a)) N⟩,⟨L B,tab (fun k=>dB ((k:Int)∈b)) N⟩]) (fun i o=>o=ZR (fun k=>dB ((k:Int)∈a)&&!dB ((k:Int)∈b)) i) N 0 [] _ rfl (Yf _) rfl ?_ ?_
 ·rintro i o hi rfl
  have hl:=@ZS (fun k=>dB ((k:Int)∈a)&&!dB ((k:Int)∈b)) i
  simp+contextual(maxSteps:=9^6)(disch:=omega)only[↓YR,↓den,↓Z0,YS,O1.d,O2.d,O3.d,cmI,arI,Z1,Z2,seval,ZF,ZG,]
  refine mc.wp_join (fun us=>us=[⟨I,2⟩,⟨I,(i:Int)⟩,⟨L I,ZR (fun k=>dB ((k:Int)∈a)&&!dB ((k:Int)∈b)) (i+1)⟩,⟨L B,tab (fun k=>dB ((k:Int)∈a)) N⟩,⟨L B,tab (fun k=>dB ((k:Int)∈b)) N⟩]) ?_ (by rintro _ rfl;simp+contextual(maxSteps:=9^6)(disch:=omega)only[↓YR,↓den,↓Z0,YS,O1.d,O2.d,O3.d,cmI,arI,Z1,Z2,seval,ZF,ZG,])
  simp only [ZR]
  simp+contextual(maxSteps:=9^6)(disch:=omega)only[↓YR,↓den,↓Z0,YS,O1.d,O2.d,O3.d,cmI,arI,Z1,Z2,seval,ZF,ZG,ZN,ZO hi,Y5,Yr,Bool.true_and,Bool.and_true,Bool.and_false,Bool.false_and,Bool.not_false,Bool.not_true]
 ·rintro o rfl
  simp+contextual(maxSteps:=9^6)(disch:=omega)only[↓YR,↓den,↓Z0,YS,O1.d,O2.d,O3.d,cmI,arI,Z1,Z2,seval,ZF,ZG,]
theorem Zl1 (a b:List Int) (ha:ZW a 400) (hb:ZW b 400) (Q:List AV→Prop):mc.C Zdg [⟨L I,a⟩,⟨L I,b⟩] Q=Q [⟨L I,ZR (fun k=>dB ((k:Int)∈a)&&!dB ((k:Int)∈b)) 400⟩]:=by
 refine Mc.Ends.c (mc.ends Zh_ ?_)
 obtain ⟨N,hN⟩:∃N:Nat,N=400:=⟨_,rfl⟩
 rw [←hN]
 simp+contextual(maxSteps:=9^6)(disch:=omega)only[↓YR,↓den,↓Z0,YS,O1.d,O2.d,O3.d,cmI,arI,Z1,Z2,seval,ZF,ZG,ZfE,Zl0 a b N hN ha hb]
theorem Zl2 {p q:Nat→Bool} {n:Nat} (h:n≤400):ZR (fun k=>dB ((k:Int)∈ZR p n)&&!dB ((k:Int)∈ZR q n)) 400=ZR (fun k=>p k&&!q k) n :=
 ZkY h (fun k hk=>by simp [ZkZ,hk]) fun k h1 _=>by have:¬k<n:=(by omega);simp [ZkZ,this]
inductive Rch (T:List (List Int)) (F:List Int):Nat→Prop
 | base {k:Nat}:(k:Int)∈F→Rch T F k
 | step {a k:Nat}:Rch T F a→(k:Int)∈T.getD a []→Rch T F k
def Tbl (T:List (List Int)) (n:Nat):Prop:=T.length=n∧∀r∈T,r.length≤1048576∧∀x∈r,0≤x∧x<n
theorem Tbl.row {T:List (List Int)} {n i:Nat} (h:Tbl T n):∀x∈T.getD i [],0≤x∧x<n:=by
 intro x hx
 by_cases hi:i<T.length
 ·exact (h.2 _ (ZJ hi)).2 x hx
 ·rw [Y8,Yz (by omega)] at hx
  cases hx
theorem Rch.lt {T:List (List Int)} {F:List Int} {n k:Nat} (h:Tbl T n) (hF:∀x∈F,x<n) (hk:Rch T F k):k<n:=by
 induction hk with
 | base h1=>have:=hF _ h1;omega
 | step _ h1=>have:=h.row _ h1;omega
theorem Zl3 {s:Sy} (h:valid s):Tbl (steps s) (szn s.1):=by
 have hz:=ZP h
 refine ⟨ZN,fun r hr=>?_⟩
 simp only [steps,tab,Yo,List.mem_range] at hr
 obtain ⟨i,hi,rfl⟩:=hr
 refine ⟨by simp only [Zki,YF];exact Nat.le_trans (Zkj h) (by omega),fun x hx=>?_⟩
 simp only [Zki,Yo] at hx
 obtain ⟨y,hy,rfl⟩:=hx
 have:=Zk2 h.2.2.1 (Zkk y hy)
 omega
theorem Zl4 {T:List (List Int)} {F:List Int} {n:Nat} {p:Nat→Bool} (h:Tbl T n) (hF:∀x∈F,0≤x∧x<n) (h1:∀k,k<n→(k:Int)∈F→p k=true) (h2:∀k,k<n→p k=true→Rch T F k)
  (h3:∀a,a<n→p a=true→∀k:Nat,(k:Int)∈T.getD a []→p k=true):∀k,k<n→p k=dB (Rch T F k):=by
 have key:∀k,Rch T F k→k<n∧p k=true:=by
  intro k hk
  induction hk with
  | base h4=>have:=hF _ h4;exact ⟨by omega,h1 _ (by omega) h4⟩
  | step _ h4 ih=>have:=h.row _ h4;exact ⟨by omega,h3 _ ih.1 ih.2 _ h4⟩
 intro k hk
 by_cases h4:p k=true
 ·rw [h4,ZT (h2 k hk h4)]
 ·rw [ZU fun h5=>h4 (key k h5).2];simpa using h4
theorem Zl5 {m:Nat}:∀{n:Nat},ZR (fun k=>k==m) n=if m<n then [(m:Int)] else []
 | 0=>by simp [ZR]
 | n+1=>by
  by_cases h:n=m
  ·subst h
   rw [Zkp (by simp),Zl5,if_neg (by omega),if_pos (by omega)];rfl
  ·rw [Zkq (by simpa using h),Zl5]
   by_cases h2:m<n
   ·rw [if_pos h2,if_pos (by omega)]
   ·rw [if_neg h2,if_neg (by omega)]
theorem Zl6 {c:Prop} [Decidable c] {b:Bool} (h:b=true):(if c then true else b)=true:=by
 split
 ·rfl
 ·exact h
def cntF (p:Nat→Bool) (n:Nat):Nat:=(ZR (fun k=>!p k) n).length
theorem Zl7 {p:Nat→Bool} {n:Nat}:cntF p n≤n:=ZS
theorem Zl8 {p:Nat→Bool} {j:Nat} (hp:p j=false):∀{n:Nat},j<n→cntF (fun k=>if k=j then true else p k) n+1=cntF p n
 | 0,h=>absurd h (Nat.not_lt_zero _)
 | n+1,h=>by
  unfold cntF
  by_cases hj:n=j
  ·subst hj
   rw [Zkq (by simp),Zkp (by simp [hp]),Zks (q:=fun k=>!p k) fun k hk=>by
    have:¬k=n:=by omega
    simp [this]]
   simp
  ·have ih:(ZR (fun k=>!(if k=j then true else p k)) n).length+1=(ZR (fun k=>!p k) n).length:=Zl8 hp (by omega)
   by_cases hq:p n=true
   ·rw [Zkq (by simp [hj,hq]),Zkq (by simp [hq])];exact ih
   ·rw [Zkp (by simp [hj,hq]),Zkp (by simp [hq])]
    simp only [Y7,YA,List.length_nil]
    omega
theorem Zl9 (T:List (List Int)) (F:List Int) (n:Nat) (hn:n≤1000) (ht:Tbl T n) (hF:∀x∈F,0≤x∧x<n) (hFl:F.length≤1000) (Q:List AV→Prop):mc.C Zdt [⟨L (L I),T⟩,⟨L I,F⟩] Q=Q [⟨L B,tab (fun k=>dB (Rch T F k)) n⟩]:=by
 have hl:=ht.1
 refine Mc.Ends.c (mc.ends Zic ?_)
 simp+contextual(maxSteps:=9^6)(disch:=omega)only[↓YR,↓den,↓Z0,YS,O1.d,O2.d,O3.d,cmI,arI,Z1,Z2,seval,ZF,ZG,ZfR,hl]
 refine mc.lp_for (List Bool) (fun i o=>[⟨L (L I),T⟩,⟨L I,F⟩,⟨I,(F.length:Int)⟩,⟨I,(i:Int)⟩,⟨L B,o⟩,⟨L I,F⟩]) (fun i o=>o=tab (fun k=>dB ((k:Int)∈F.take i)) n) F.length 0 (List.replicate n false) _ rfl (Yf _) ?_ ?_ ?_
 ·rw [ZkL];exact ZV fun k _=>(ZU (by simp)).symm
 ·rintro i o hi rfl
  have hx:=hF _ (ZJ (d:=0) hi)
  simp+contextual(maxSteps:=9^6)(disch:=omega)only[↓YR,↓den,↓Z0,YS,O1.d,O2.d,O3.d,cmI,arI,Z1,Z2,seval,ZF,ZG,ZN,ZkK]
  refine ZV fun k hk=>?_
  by_cases hk2:k=(F.getD i 0).toNat
  ·rw [if_pos hk2,ZT];exact (ZkS hi).2 (.inr (by omega))
  ·rw [if_neg hk2];refine ZkI ?_
   rw [ZkS hi]
   exact ⟨.inl,fun h=>h.elim id fun h=>absurd h (by omega)⟩
 rintro o rfl
 rw [Yu]
 simp+contextual(maxSteps:=9^6)(disch:=omega)only[↓YR,↓den,↓Z0,YS,O1.d,O2.d,O3.d,cmI,arI,Z1,Z2,seval,ZF,ZG,]
 refine mc.lp_inv (fun j us=>∃(p:Nat→Bool) (q:List Int),us=[⟨L (L I),T⟩,⟨L B,tab p n⟩,⟨L I,q⟩]∧(∀x∈q,(0≤x∧x<n)∧p x.toNat=true)∧(∀k,k<n→(k:Int)∈F→p k=true)∧(∀k,k<n→p k=true→Rch T F k) ∧
  (∀a,a<n→p a=true→(a:Int)∉q→∀k:Nat,(k:Int)∈T.getD a []→p k=true)∧q.length+cntF p n≤2000∧j=2 * cntF p n+q.length) _ _
  ⟨fun k=>dB ((k:Int)∈F),F,rfl,?_,fun k _ h=>ZT h,fun k _ h=>.base (ZkH.1 h),fun a _ h1 h2=>absurd (ZkH.1 h1) h2,?_,rfl⟩ ?_
 ·intro x hx
  have:=hF x hx
  exact ⟨this,ZT (by rw [show ((x.toNat:Nat):Int)=x by omega];exact hx)⟩
 ·have:=@Zl7 (fun k=>dB ((k:Int)∈F)) n;omega
 rintro j us ⟨p,q,rfl,i1,i2,i3,i4,i5,rfl⟩
 cases q with
 | nil =>
  simp+contextual(maxSteps:=9^6)(disch:=omega)only[↓YR,↓den,↓Z0,YS,O1.d,O2.d,O3.d,cmI,arI,Z1,Z2,seval,ZF,ZG,]
  exact ZV (Zl4 ht hF i2 i3 fun a ha hp k hk=>i4 a ha hp (by simp) k hk)
 | cons x q =>
  obtain ⟨⟨hx0,hx1⟩,hxp⟩:=i1 x (Yd ..)
  have hrow:=ht.row (i:=x.toNat)
  have hrl:(T.getD x.toNat []).length≤1048576:=(ht.2 _ (ZJ (by omega))).1
  simp only [YA] at i5
  obtain ⟨row,hr⟩:∃row,T.getD x.toNat []=row:=⟨_,rfl⟩
  rw [hr] at hrow hrl
  simp+contextual(maxSteps:=9^6)(disch:=omega)only[↓YR,↓den,↓Z0,YS,O1.d,O2.d,O3.d,cmI,arI,Z1,Z2,seval,ZF,ZG,hl,hr,List.drop_succ_cons,List.drop_zero]
  refine mc.lp_for ((Nat→Bool)×List Int) (fun j s=>[⟨L (L I),T⟩,⟨L I,row⟩,⟨I,(row.length:Int)⟩,⟨I,(j:Int)⟩,⟨L B,tab s.1 n⟩,⟨L I,s.2⟩]) (fun j s=>(∀x∈s.2,(0≤x∧x<n)∧s.1 x.toNat=true)∧(∀k,k<n→p k=true→s.1 k=true)∧(∀k,k<n→s.1 k=true→Rch T F k) ∧
   (∀k:Nat,(k:Int)∈row.take j→s.1 k=true)∧(∀a,a<n→s.1 a=true→(a:Int)∉s.2→(a:Int)≠x→∀k:Nat,(k:Int)∈T.getD a []→s.1 k=true)∧s.2.length+cntF s.1 n≤q.length+cntF p n∧cntF s.1 n≤cntF p n) row.length 0 (p,q) _ rfl (Yf _)
   ⟨fun y hy=>i1 y (Yc _ hy),fun _ _ h=>h,i3,by simp,fun a h1 h2 h3 h4=>i4 a h1 h2 (by simp only [Yl,not_or];exact ⟨h4,h3⟩),Yh _,Yh _⟩ ?_ ?_
  ·rintro j ⟨p',q'⟩ hj ⟨a1,a2,a3,a4,a5,a6,a7⟩
   simp only at a1 a2 a3 a4 a5 a6 a7
   have hy:=hrow _ (ZJ (d:=0) hj)
   obtain ⟨y,hy2⟩:∃y:Nat,row.getD j 0=y:=⟨(row.getD j 0).toNat,by omega⟩
   have hyn:y<n:=by omega
   have hyr:Rch T F y:=.step (i3 x.toNat (by omega) hxp) (by rw [hr,←hy2];exact ZJ hj)
   simp+contextual(maxSteps:=9^6)(disch:=omega)only[↓YR,↓den,↓Z0,YS,O1.d,O2.d,O3.d,cmI,arI,Z1,Z2,seval,ZF,ZG,↓ZH,hy2,ZN,ZO hyn,ZkK]
   refine ⟨fun g=>?_,fun g=>?_⟩
   ·have hc:=Zl8 g hyn
    refine ⟨(fun k=>if k=y then true else p' k,q'++[(y:Int)]),⟨rfl,rfl⟩,?_,?_,?_,?_,?_,?_,?_⟩
    ·intro z hz
     rcases Y6.1 hz with h | h
     ·have:=a1 z h;exact ⟨this.1,Zl6 this.2⟩
     ·simp only [Y1] at h;subst h;exact ⟨by omega,by simp⟩
    ·intro k hk h;exact Zl6 (a2 k hk h)
    ·intro k hk h
     by_cases hky:k=y
     ·rw [hky];exact hyr
     ·exact a3 k hk (by simpa [hky] using h)
    ·intro k hk
     simp only []
     split
     ·rfl
     ·rename_i hky
      rcases (ZkS hj).1 hk with h | h
      ·exact a4 k h
      ·exact absurd (by omega) hky
    ·intro a ha h1 h2 h3 k hk
     simp only [Y6,Y1,not_or] at h2
     have hay:¬a=y:=fun h=>h2.2 (by rw [h])
     simp only []
     split
     ·rfl
     ·exact a5 a ha (by simpa [hay] using h1) h2.1 h3 k hk
    ·simp only [Y7,YA,List.length_nil];omega
    ·simp only [];omega
   ·refine ⟨(p',q'),⟨rfl,rfl⟩,a1,a2,a3,fun k hk=>?_,a5,a6,a7⟩
    rcases (ZkS hj).1 hk with h | h
    ·exact a4 k h
    ·rw [show k=y by omega];simpa using g
  ·rintro ⟨p',q'⟩ ⟨a1,a2,a3,a4,a5,a6,a7⟩
   rw [Yu] at a4
   simp only at a6 a7
   simp+contextual(maxSteps:=9^6)(disch:=omega)only[↓YR,↓den,↓Z0,YS,O1.d,O2.d,O3.d,cmI,arI,Z1,Z2,seval,ZF,ZG,]
   refine ⟨_,?_,p',q',⟨rfl,rfl⟩,a1,fun k hk h=>a2 k hk (i2 k hk h),a3,fun a ha h1 h2 k hk=>?_,by omega,rfl⟩
   ·omega
   ·by_cases hax:(a:Int)=x
    ·rw [←hr] at a4;exact a4 k (by rw [←hax];exact hk)
    ·exact a5 a ha h1 h2 hax k hk
theorem Zla (T:List (List Int)) (F:List Int) (n:Nat) (h0:F≠[]) (hn:n≤1000) (ht:Tbl T n) (hF:∀x∈F,0≤x∧x<n) (hFl:F.length≤1000) (Q:List AV→Prop):mc.C Zdt [⟨L (L I),T⟩,⟨L I,F⟩] Q=Q [⟨L B,tab (fun k=>dB (Rch T F k)) n⟩]:=Zl9 T F n hn ht hF hFl Q
noncomputable def Zlb (s:Sy) (k:Nat):Bool:=dB (Rch (steps s) [num s.1 (ZM s.1)] k)
theorem Zlc {s:Sy} (h:valid s):∀x∈[num s.1 (ZM s.1)],0≤x∧x<(szn s.1:Int):=by
 intro x hx
 have h1:=Zk2 h.2.2.1 (ZjW h.2.2.1)
 have h2:=ZP h
 simp only [Y1] at hx
 omega
theorem Zld (s:Sy) (h:valid s) (Q:List AV→Prop):mc.C Zdu [⟨L V3,s.1⟩,⟨L TR,s.2⟩] Q=Q [⟨L B,tab (Zlb s) (szn s.1)⟩]:=by
 have hz:=ZP h
 refine Mc.Ends.c (mc.ends Zid ?_)
 simp+contextual(maxSteps:=9^6)(disch:=omega)only[↓YR,↓den,↓Z0,YS,O1.d,O2.d,O3.d,cmI,arI,Z1,Z2,seval,ZF,ZG,ZfS,Zkn s h,ZjY s h.1.2,Zk4 s _ h.1.2 h.2.2.1 (ZjW h.2.2.1),Zla _ _ (szn s.1) (by simp) (by omega) (Zl3 h) (Zlc h) (by simp)]
 rfl
def Zle (p q:Nat→Bool) (n:Nat):Prop:=∀k,k<n→p k=true→q k=true
theorem Zlf (s:Sy) (l:List Tm) (p:Nat→Bool) (h:valid s) (hl:kf l s.1.length≠0) (Q:List AV→Prop):mc.C Zdv [⟨L V3,s.1⟩,⟨L TR,s.2⟩,⟨L T4,l⟩,⟨L B,tab p (szn s.1)⟩] Q=Q [⟨B,dB (Zle p (ZQ s l) (szn s.1))⟩]:=by
 have hz:=ZP h
 refine Mc.Ends.c (mc.ends Zie ?_)
 generalize hK:dB (Zle p (ZQ s l) (szn s.1))=K
 simp+contextual(maxSteps:=9^6)(disch:=omega)only[↓YR,↓den,↓Z0,YS,O1.d,O2.d,O3.d,cmI,arI,Z1,Z2,seval,ZF,ZG,ZfT,Zko s l h hl,ZN]
 refine Zis (fun i=>[⟨L B,tab p (szn s.1)⟩,⟨I,(szn s.1:Int)⟩,⟨I,(i:Int)⟩,⟨L B,tab (ZQ s l) (szn s.1)⟩]) (fun i=>p i=true→ZQ s l i=true) (szn s.1) _ rfl ?_ ?_
 ·intro i hi
  have hno:¬(p i=true→ZQ s l i=true)→false=K:=fun g=>by rw [←hK,ZU];exact fun h1=>g (h1 i hi)
  simp+contextual(maxSteps:=9^6)(disch:=omega)only[↓YR,↓den,↓Z0,YS,O1.d,O2.d,O3.d,cmI,arI,Z1,Z2,seval,ZF,ZG,↓ZH,ZN,ZO hi]
  grind
 ·intro g
  simp+contextual(maxSteps:=9^6)(disch:=omega)only[↓YR,↓den,↓Z0,YS,O1.d,O2.d,O3.d,cmI,arI,Z1,Z2,seval,ZF,ZG,]
  rw [←hK,ZT];exact g
theorem Zlg (s:Sy) (l:List Tm) (hs:ZK s) (hf:Few l) (Q:List AV→Prop):mc.C ZbU [⟨L V3,s.1⟩,⟨L TR,s.2⟩,⟨L T4,l⟩] Q=Q [⟨B,decide (valid s∧kf l s.1.length=2)⟩]:=by
 refine Mc.Ends.c (mc.ends ZgD ?_)
 generalize hK:decide (valid s∧kf l s.1.length=2)=K
 simp+contextual(maxSteps:=9^6)(disch:=omega)only[↓YR,↓den,↓Z0,YS,O1.d,O2.d,O3.d,cmI,arI,Z1,Z2,seval,ZF,ZG,Zeh,Zj3 s hs,ZiM l _ hf]<;>grind
theorem Zlh (s:Sy) (l:List Tm) (hs:ZK s) (hf:Few l) (Q:List AV→Prop):mc.C Zdw [⟨L V3,s.1⟩,⟨L TR,s.2⟩,⟨L T4,l⟩] Q=Q [⟨B,dB (valid s∧kf l s.1.length=2∧Zle (Zlb s) (ZQ s l) (szn s.1))⟩]:=by
 refine Mc.Ends.c (mc.ends Zif ?_)
 simp+contextual(maxSteps:=9^6)(disch:=omega)only[↓YR,↓den,↓Z0,YS,O1.d,O2.d,O3.d,cmI,arI,Z1,Z2,seval,ZF,ZG,ZfU,Zlg s l hs hf]
 refine ⟨fun h=>?_,fun h=>(ZU fun g=>h ⟨g.1,g.2.1⟩).symm⟩
 simp+contextual(maxSteps:=9^6)(disch:=omega)only[↓YR,↓den,↓Z0,YS,O1.d,O2.d,O3.d,cmI,arI,Z1,Z2,seval,ZF,ZG,Zld s h.1,Zlf s l _ h.1 (by omega)]
 first
  | done
  | exact ZkI ⟨fun g=>⟨h.1,h.2,g⟩,fun g=>g.2.2⟩
theorem Zli (l:List Bool) (hl:l.length≤1048576) (Q:List AV→Prop):mc.C Zcf [⟨L B,l⟩] Q=Q [⟨L I,ZR (fun k=>l.getD k false) l.length⟩]:=by
 refine Mc.Ends.c (mc.ends ZgZ ?_)
 simp+contextual(maxSteps:=9^6)(disch:=omega)only[↓YR,↓den,↓Z0,YS,O1.d,O2.d,O3.d,cmI,arI,Z1,Z2,seval,ZF,ZG,ZeD]
 refine mc.lp_for (List Int) (fun i o=>[⟨L B,l⟩,⟨I,(l.length:Int)⟩,⟨I,(i:Int)⟩,⟨L I,o⟩]) (fun i o=>o=ZR (fun k=>l.getD k false) i) l.length 0 [] _ rfl (Yf _) rfl ?_ ?_
 ·rintro i o hi rfl
  have h1:=@ZS (fun k=>l.getD k false) i
  simp+contextual(maxSteps:=9^6)(disch:=omega)only[↓YR,↓den,↓Z0,YS,O1.d,O2.d,O3.d,cmI,arI,Z1,Z2,seval,ZF,ZG,↓ZH,]
  exact ⟨fun g=>(Zkp g).symm,fun g=>(Zkq g).symm⟩
 ·rintro o rfl
  have h1:=@ZS (fun k=>l.getD k false) l.length
  simp+contextual(maxSteps:=9^6)(disch:=omega)only[↓YR,↓den,↓Z0,YS,O1.d,O2.d,O3.d,cmI,arI,Z1,Z2,seval,ZF,ZG,Zju (ZR (fun k=>l.getD k false) l.length) (by omega)]
theorem Zlj (p:Nat→Bool) (n:Nat) (hn:n≤1048576) (Q:List AV→Prop):mc.C Zcf [⟨L B,tab p n⟩] Q=Q [⟨L I,ZR p n⟩]:=by
 rw [Zli _ (by rw [ZN];exact hn),ZN,Zks fun k hk=>ZO hk]
theorem Zlk (l:List Int) (n:Nat) (hn:n≤1048576) (hl:l.length≤1048576) (h:∀x∈l,0≤x∧x<n) (Q:List AV→Prop):mc.C Zcd [⟨L I,l⟩,⟨I,(n:Int)⟩] Q=Q [⟨L B,tab (fun k=>dB ((k:Int)∈l)) n⟩]:=by
 refine Mc.Ends.c (mc.ends ZgX ?_)
 simp+contextual(maxSteps:=9^6)(disch:=omega)only[↓YR,↓den,↓Z0,YS,O1.d,O2.d,O3.d,cmI,arI,Z1,Z2,seval,ZF,ZG,ZeB]
 refine mc.lp_for (List Bool) (fun i o=>[⟨L I,l⟩,⟨I,(l.length:Int)⟩,⟨I,(i:Int)⟩,⟨L B,o⟩]) (fun i o=>o=tab (fun k=>dB ((k:Int)∈l.take i)) n) l.length 0 (List.replicate n false) _ rfl (Yf _) ?_ ?_ ?_
 ·rw [ZkL];exact ZV fun k _=>(ZU (by simp)).symm
 ·rintro i o hi rfl
  have hx:=h _ (ZJ (d:=0) hi)
  simp+contextual(maxSteps:=9^6)(disch:=omega)only[↓YR,↓den,↓Z0,YS,O1.d,O2.d,O3.d,cmI,arI,Z1,Z2,seval,ZF,ZG,ZN,ZkK]
  refine ZV fun k hk=>?_
  by_cases hk2:k=(l.getD i 0).toNat
  ·rw [if_pos hk2,ZT];exact (ZkS hi).2 (.inr (by omega))
  ·rw [if_neg hk2];refine ZkI ?_
   rw [ZkS hi]
   exact ⟨.inl,fun h=>h.elim id fun h=>absurd h (by omega)⟩
 ·rintro o rfl
  rw [Yu]
  simp+contextual(maxSteps:=9^6)(disch:=omega)only[↓YR,↓den,↓Z0,YS,O1.d,O2.d,O3.d,cmI,arI,Z1,Z2,seval,ZF,ZG,]
theorem Zll (l:List Int) (m:Int) (n:Nat) (e:m=n) (hn:n≤1048576) (hl:l.length≤1048576) (h:∀x∈l,0≤x∧x<n) (Q:List AV→Prop):mc.C Zcd [⟨L I,l⟩,⟨I,m⟩] Q=Q [⟨L B,tab (fun k=>dB ((k:Int)∈l)) n⟩]:=e▸Zlk l n hn hl h Q
theorem Zlm (l:List Int) (m:Int) (hm:0≤m∧m≤1048576) (hl:l.length≤1048576) (Q:List AV→Prop):mc.C Zdx [⟨L I,l⟩,⟨I,m⟩] Q=Q [⟨B,decide (ZW l m)⟩]:=by
 refine Mc.Ends.c (mc.ends Zig ?_)
 generalize hK:decide (ZW l m)=K
 simp+contextual(maxSteps:=9^6)(disch:=omega)only[↓YR,↓den,↓Z0,YS,O1.d,O2.d,O3.d,cmI,arI,Z1,Z2,seval,ZF,ZG,ZfV]
 refine Zis (fun i=>[⟨L I,l⟩,⟨I,m⟩,⟨L I,l⟩,⟨I,(l.length:Int)⟩,⟨I,(i:Int)⟩]) (fun i=>(0≤l.getD i 0∧l.getD i 0≤m - 1)∧(0<i→l.getD (i - 1) 0<l.getD i 0)) l.length _ rfl ?_ ?_
 ·intro i hi
  have hno:¬((0≤l.getD i 0∧l.getD i 0≤m - 1)∧(0<i→l.getD (i - 1) 0<l.getD i 0))→false=K:=fun h=>by rw [←hK,decide_eq_false];exact fun h1=>h (h1 i hi)
  simp+contextual(maxSteps:=9^6)(disch:=omega)only[↓YR,↓den,↓Z0,YS,O1.d,O2.d,O3.d,cmI,arI,Z1,Z2,seval,ZF,ZG,↓ZH,Zix]
  grind
 ·intro h
  simp+contextual(maxSteps:=9^6)(disch:=omega)only[↓YR,↓den,↓Z0,YS,O1.d,O2.d,O3.d,cmI,arI,Z1,Z2,seval,ZF,ZG,]
  rw [←hK,decide_eq_true];exact h
def Zln (s:Sy) (l:List Int):Prop:=valid s∧ZW l (sz s.1)
instance (s : Sy) (l : List Int) : Decidable (Zln s l) := by unfold Zln; infer_instance
theorem Zln.n {s:Sy} {l:List Int} (h:Zln s l):ZW l (szn s.1):=by rw [(ZP h.1).1];exact h.2
theorem Zln.len {s:Sy} {l:List Int} (h:Zln s l):l.length≤400:=by
 have h1:=ZkO h.n (by omega)
 have h2:=ZP h.1
 omega
theorem Zln.mem {s:Sy} {l:List Int} (h:Zln s l):∀x∈l,0≤x∧x<(szn s.1:Int):=ZkM h.n
theorem Zlo {s:Sy} (h:valid s):1≤sz s.1∧sz s.1≤400:=by have:=ZP h;omega
theorem Zlp (s:Sy) (l:List Int) (hs:ZK s) (hl:l.length≤1048576) (Q:List AV→Prop):mc.C ZdA [⟨L V3,s.1⟩,⟨L TR,s.2⟩,⟨L I,l⟩] Q=Q [⟨B,decide (Zln s l)⟩]:=by
 refine Mc.Ends.c (mc.ends Zij ?_)
 generalize hK:decide (Zln s l)=K
 simp+contextual(maxSteps:=9^6)(disch:=omega)only[↓YR,↓den,↓Z0,YS,O1.d,O2.d,O3.d,cmI,arI,Z1,Z2,seval,ZF,ZG,ZfY,Zj3 s hs]
 refine ⟨fun h=>?_,fun h=>?_⟩
 ·have hz:=Zlo h
  simp+contextual(maxSteps:=9^6)(disch:=omega)only[↓YR,↓den,↓Z0,YS,O1.d,O2.d,O3.d,cmI,arI,Z1,Z2,seval,ZF,ZG,Zj2 s.1 h.1.2 h.2.2.1,Zlm l (sz s.1) (by omega) hl]
  rw [←hK];exact decide_eq_decide.2 ⟨fun g=>⟨h,g⟩,fun g=>g.2⟩
 ·rw [←hK,decide_eq_false fun g=>h g.1]
def Zlq (T:List (List Int)) (k:Nat):Nat→List Int
 | 0=>[]
 | m+1=>Zlq T k m++List.replicate ((T.getD m []).count (k:Int)) (m:Int)
theorem Zlr {T:List (List Int)} {k:Nat} {x:Int}:∀{m:Nat},x∈Zlq T k m↔∃a,a<m∧x=(a:Int)∧(k:Int)∈T.getD a []
 | 0=>by simp [Zlq]
 | m+1=>by
  simp only [Zlq,Y6,List.mem_replicate,Zlr (m:=m)]
  constructor
  ·rintro (⟨a,h1,h2,h3⟩ | ⟨h1,h2⟩)
   ·exact ⟨a,by omega,h2,h3⟩
   ·exact ⟨m,by omega,h2,List.count_pos_iff.1 (by omega)⟩
  ·rintro ⟨a,h1,h2,h3⟩
   rcases Nat.lt_succ_iff_lt_or_eq.1 h1 with h | rfl
   ·exact .inl ⟨a,h,h2,h3⟩
   ·exact .inr ⟨by have:=List.count_pos_iff.2 h3;omega,h2⟩
theorem Zls {T:List (List Int)} {k:Nat} (h:∀r∈T,r.length≤8):∀{m:Nat},(Zlq T k m).length≤8 * m
 | 0=>by simp [Zlq]
 | m+1=>by
  have ih:=Zls (k:=k) h (m:=m)
  have h1:(T.getD m []).count (k:Int)≤(T.getD m []).length:=List.count_le_length
  have h2:(T.getD m []).length≤8:=by
   by_cases hm:m<T.length
   ·exact h _ (ZJ hm)
   ·rw [Y8,Yz (by omega)];simp
  simp only [Zlq,Y7,Yy]
  omega
def Tb8 (T:List (List Int)) (n:Nat):Prop:=Tbl T n∧n≤400∧∀r∈T,r.length≤8
theorem Zlt {s:Sy} (h:valid s):Tb8 (steps s) (szn s.1):=by
 refine ⟨Zl3 h,(ZP h).2.2,fun r hr=>?_⟩
 simp only [steps,tab,Yo,List.mem_range] at hr
 obtain ⟨i,hi,rfl⟩:=hr
 simp only [Zki,YF]
 exact Zkj h
end Go.Proofs.YtdgpohclhppodaaGreat
