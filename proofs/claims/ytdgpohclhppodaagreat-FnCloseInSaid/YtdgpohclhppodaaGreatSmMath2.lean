/- What the trees come to: plain mathematics; no condition. -/
import Derived.Test.YtdgpohclhppodaaGreatSmMath1
set_option linter.unusedSimpArgs false
set_option linter.unusedVariables false
namespace Go.Proofs.YtdgpohclhppodaaGreat
open Go Go.Sm Go.Sm.Q
theorem Zny.eq {l:List Int} {M N:Int} (h:Zny l M) (h2:Zny l N):M=N:=Int.le_antisymm (h.2 _ h2.1) (h2.2 _ h.1)
theorem TInv.few {U:List (List Int)} {n:Nat} {p:Nat→Bool} {s:Tj} {G:List Nat} (h:TInv U n p s G):s.c≤n∧s.st.length≤n:=by
 have h1:=h.cc
 have h2:=h.len
 omega
def fn0 (s:Sy):Nat:=(num s.1 (ZM s.1)).toNat
theorem Znz {s:Sy} (h:valid s):num s.1 (ZM s.1)=(fn0 s:Int)∧fn0 s<szn s.1:=by
 obtain ⟨m,hm,hmn⟩:=ZlX h
 have:fn0 s=m:=by unfold fn0;rw [hm];rfl
 rw [this];exact ⟨hm,hmn⟩
def muP (n:Nat) (F:Nat→Nat→Bool):Nat→Nat
 | 0=>0
 | m+1=>muP n F m+(ZR (F m) n).length
theorem ZnA {n:Nat} {F G:Nat→Nat→Bool}:∀{m:Nat},(∀i k,i<m→k<n→F i k=true→G i k=true)→muP n F m≤muP n G m
 | 0,_=>Yh _
 | m+1,h=>by
  have h1:=ZnA (n:=n) (F:=F) (G:=G) (m:=m) fun i k hi=>h i k (by omega)
  have h2:=(Zk_ (p:=F m) (q:=G m) (n:=n) fun k hk=>h m k (Nat.lt_succ_self _) hk).1
  simp only [muP];omega
theorem ZnB {n:Nat} {F G:Nat→Nat→Bool} {l k0:Nat} (hk0:k0<n) (h2:G l k0=true) (h3:¬F l k0=true):∀{m:Nat},l<m→(∀i k,i<m→k<n→F i k=true→G i k=true)→muP n F m<muP n G m
 | 0,hl,_=>absurd hl (Nat.not_lt_zero _)
 | m+1,hl,h=>by
  have hm:=Zk_ (p:=F m) (q:=G m) (n:=n) fun k hk=>h m k (Nat.lt_succ_self _) hk
  simp only [muP]
  by_cases he:l=m
  ·subst he
   have h1:=ZnA (n:=n) (F:=F) (G:=G) (m:=l) fun i k hi=>h i k (by omega)
   have h4:(ZR (F l) n).length<(ZR (G l) n).length:=by
    rcases Nat.lt_or_ge (ZR (F l) n).length (ZR (G l) n).length with g | g
    ·exact g
    ·exact absurd (hm.2 g k0 hk0 h2) h3
   omega
  ·have h1:=ZnB (n:=n) (F:=F) (G:=G) (m:=m) hk0 h2 h3 (by omega) fun i k hi=>h i k (by omega)
   have h4:=hm.1
   omega
def frT (n:Nat) (F:Nat→Nat→Bool) (m:Nat):List (List Int):=tab (fun i=>ZR (F i) n) m
structure FI (s:Sy) (m:Nat) (F:Nat→Nat→Bool) (cb:List (List Int)) (lv:List Int):Prop where
 one:∀k,k<szn s.1→(F 0 k=true↔k=fn0 s)
 len:cb.length=lv.length
 cub:∀c∈cb,(c.length:Int)=bc s.1
 lev:∀x∈lv,1≤x∧x<(m:Int)
 bnd:cb.length+muP (szn s.1) F m≤400 * m
 m1:1≤m
 m2:m≤30
def IsW (s:Sy) (D st:Nat) (way:List Int):Prop:=∃ch:Nat→Nat,way=tab (fun i=>((ch i:Nat):Int)) (D+1)∧ch 0=fn0 s∧ch D=st∧(∀e,e≤D→ch e<szn s.1)∧∀e,e<D→((ch (e+1):Nat):Int)∈(steps s).getD (ch e) []
theorem IsW.ne {s:Sy} {D st:Nat} {way:List Int} (h:IsW s D st way):way≠[]∧way.length=D+1:=by
 obtain ⟨ch,rfl,-⟩:=h
 have:(tab (fun i=>((ch i:Nat):Int)) (D+1)).length=D+1:=ZN
 exact ⟨fun g=>by rw [g] at this;simp at this,this⟩
theorem IsW.snoc {s:Sy} {D a st:Nat} {way:List Int} (h:IsW s D a way) (hst:st<szn s.1) (he:(st:Int)∈(steps s).getD a []):IsW s (D+1) st (way++[(st:Int)]):=by
 obtain ⟨ch,rfl,h1,h2,h3,h4⟩:=h
 refine ⟨fun i=>if i≤D then ch i else st,?_,by simpa using h1,if_neg (by omega),fun e hle=>?_,fun e hlt=>?_⟩
 ·rw [←Zkd (n:=D+1)]
  congr 1
  ·exact ZV fun k hk=>by dsimp only;rw [if_pos (by omega)]
  ·dsimp only;rw [if_neg (by omega)]
 ·dsimp only
  split
  ·exact h3 e (by omega)
  ·exact hst
 ·dsimp only
  rw [if_pos (show e≤D by omega)]
  by_cases g:e+1≤D
  ·rw [if_pos g];exact h4 e (by omega)
  ·have:e=D:=by omega
   subst this
   rw [if_neg g,h2];exact he
theorem ZnC {s:Sy} {F:List Int} {n:Nat}:inC s (gen s F n) n=true:=by
 refine ZT ?_
 have key:∀i,ZlR (wdn (blk s F) (sb s (stN s n)) i) (sb s (stN s n)):=by
  intro i
  induction i with
  | zero=>intro j _;exact .inr rfl
  | succ i ih =>
   simp only [wdn]
   split
   ·intro j hj
    by_cases he:j=i
    ·subst he
     left
     rw [YC] at hj
     rw [Y8,List.getElem?_set_self hj];rfl
    ·rw [Y8,List.getElem?_set_ne (fun g=>he g.symm),←Y8]
     exact ih j (by simpa using hj)
   ·exact ih
 exact key _
noncomputable def drp (s:Sy) (c:List Int) (l:Nat) (F:Nat→Nat→Bool) (i k:Nat):Bool:=if 1≤i∧i<l then F i k&&!inC s c k else F i k
theorem ZnD {s:Sy} {c:List Int} {l:Nat} {F:Nat→Nat→Bool} {i k:Nat} (h:drp s c l F i k=true):F i k=true:=by
 unfold drp at h
 split at h
 ·simp only [Y5] at h;exact h.1
 ·exact h
theorem ZnE (s:Sy) (hs:ZK s) (h:valid s) (m:Nat) (F:Nat→Nat→Bool) (T cb:List (List Int)) (lv way c:List Int) (l:Nat) (hc:(c.length:Int)=bc s.1) (hl1:1≤l) (hl2:l<m) (hm:m≤30) (hcb:cb.length≤100000) (hlv:lv.length≤100000) (Q:List AV→Prop) :
  mc.C Zdm [⟨L V3,s.1⟩,⟨L TR,s.2⟩,⟨L (L I),T⟩,⟨L (L I),frT (szn s.1) F m⟩,⟨L (L I),cb⟩,⟨L I,lv⟩,⟨L I,way⟩,⟨L I,c⟩,⟨I,(l:Int)⟩] Q=Q [⟨L (L I),T⟩,⟨L (L I),frT (szn s.1) (drp s c (l+1) F) m⟩,⟨L (L I),cb++[c]⟩,⟨L I,lv++[(l:Int)]⟩,⟨L I,way⟩]:=by
 have hz:=ZP h
 refine Mc.Ends.c (mc.ends Zi5 ?_)
 simp+contextual(maxSteps:=9^6)(disch:=omega)only[↓YR,↓den,↓Z0,YS,O1.d,O2.d,O3.d,cmI,arI,Z1,Z2,↓reduceIte,Nat.reduceLT,Nat.reduceSub,Nat.reduceAdd,Int.reduceAdd,Int.reduceEq,Int.reduceLT,Int.reduceLE,ZF,ZG,ZfK,ZlW s c hs h hc]
 refine mc.lp_for (List (List Int)) (fun i o=>[⟨I,(l:Int)⟩,⟨I,(i:Int)⟩,⟨L I,c⟩,⟨L (L I),T⟩,⟨L (L I),o⟩,⟨L (L I),cb⟩,⟨L I,lv⟩,⟨L I,way⟩,⟨L I,ZR (inC s c) (szn s.1)⟩])
  (fun i o=>1≤i∧o=frT (szn s.1) (drp s c i F) m) (l+1) 1 (frT (szn s.1) F m) _ (by simp) (by omega) ⟨Yh _,?_⟩ ?_ ?_
 ·refine ZV fun i _=>Zks fun k _=>?_
  unfold drp
  rw [if_neg (by omega)]
 ·rintro i o hi ⟨hi1,rfl⟩
  have hlen:(frT (szn s.1) (drp s c i F) m).length=m:=ZN
  have hgi:(frT (szn s.1) (drp s c i F) m).getD i []=ZR (drp s c i F i) (szn s.1):=ZO (by omega)
  have hsw:ZR (fun k=>dB ((k:Int)∈ZR (drp s c i F i) (szn s.1))&&!dB ((k:Int)∈ZR (inC s c) (szn s.1))) 400=ZR (drp s c (i+1) F i) (szn s.1):=by
   rw [Zl2 hz.2.2]
   refine Zks fun k _=>?_
   unfold drp
   rw [if_neg (by omega),if_pos (by omega)]
  have hl1:ZW (ZR (drp s c i F i) (szn s.1)) 400:=ZkR (m:=400) hz.2.2
  have hl2:ZW (ZR (inC s c) (szn s.1)) 400:=ZkR (m:=400) hz.2.2
  simp+contextual(maxSteps:=9^6)(disch:=omega)only[↓YR,↓den,↓Z0,YS,O1.d,O2.d,O3.d,cmI,arI,Z1,Z2,↓reduceIte,Nat.reduceLT,Nat.reduceSub,Nat.reduceAdd,Int.reduceAdd,Int.reduceEq,Int.reduceLT,Int.reduceLE,ZF,ZG,hlen,hgi,Zl1 _ _ hl1 hl2,hsw]
  refine ⟨by omega,?_⟩
  unfold frT
  rw [ZkK]
  refine ZV fun j _=>?_
  by_cases he:j=i
  ·rw [if_pos he,he]
  ·rw [if_neg he]
   refine Zks fun k _=>?_
   unfold drp
   by_cases g:1≤j∧j<i
   ·rw [if_pos g,if_pos (by omega)]
   ·rw [if_neg g,if_neg (by omega)]
 ·rintro o ⟨-,rfl⟩
  simp+contextual(maxSteps:=9^6)(disch:=omega)only[↓YR,↓den,↓Z0,YS,O1.d,O2.d,O3.d,cmI,arI,Z1,Z2,seval,ZF,ZG,]
def alike (X:List (List Int)) (i:Nat):Prop:=1≤i∧i+1<X.length∧X.getD i []=X.getD (i+1) []
open Classical in
noncomputable def fxd (X:List (List Int)):Int:=if h:∃i,alike X i then ((Classical.choose (least h):Nat):Int) else -1
theorem ZnF {X:List (List Int)} {i:Nat} (h:alike X i) (hm:∀j,j<i→¬alike X j):fxd X=(i:Int):=by
 have hex:∃i,alike X i:=⟨i,h⟩
 unfold fxd
 rw [dif_pos hex]
 obtain ⟨h1,h2⟩:=Classical.choose_spec (least hex)
 generalize Classical.choose (least hex)=c at h1 h2
 rcases Nat.lt_trichotomy c i with g | g | g
 ·exact absurd h1 (hm c g)
 ·rw [g]
 ·exact absurd h (h2 i g)
theorem ZnG {X:List (List Int)} (h:∀j,¬alike X j):fxd X = -1:=by
 unfold fxd
 rw [dif_neg fun ⟨j,hj⟩=>h j hj]
theorem ZnH (X:List (List Int)) (hX:X.length≤1000) (hr:∀i,(X.getD i []).length≤1048576) (Q:List AV→Prop):mc.C Zdq [⟨L (L I),X⟩] Q=Q [⟨I,fxd X⟩]:=by
 refine Mc.Ends.c (mc.ends Zi9 ?_)
 simp+contextual(maxSteps:=9^6)(disch:=omega)only[↓YR,↓den,↓Z0,YS,O1.d,O2.d,O3.d,cmI,arI,Z1,Z2,seval,ZF,ZG,ZfO]
 refine mc.lp_inv (fun k us=>∃i:Nat,us=[⟨L (L I),X⟩,⟨I,(i:Int)⟩]∧1≤i∧i≤2000∧(∀j,j<i→¬alike X j)∧k=5000 - i) _ _ ⟨1,rfl,Yh _,by omega,fun j hj hh=>by have:=hh.1;omega,rfl⟩ ?_
 rintro k us ⟨i,rfl,h1,h2,h3,rfl⟩
 have hi3:((i:Int)+1).toNat=i+1:=by omega
 by_cases hi:i+1<X.length
 ·by_cases he:X.getD i []=X.getD (i+1) []
  ·simp+contextual(maxSteps:=9^6)(disch:=omega)only[↓YR,↓den,↓Z0,YS,O1.d,O2.d,O3.d,cmI,arI,Z1,Z2,seval,ZF,ZG,hi3,ZjJ _ _ (hr i) (hr (i+1)),decide_eq_true he]
   rw [ZnF ⟨h1,hi,he⟩ h3]
  ·simp+contextual(maxSteps:=9^6)(disch:=omega)only[↓YR,↓den,↓Z0,YS,O1.d,O2.d,O3.d,cmI,arI,Z1,Z2,seval,ZF,ZG,hi3,ZjJ _ _ (hr i) (hr (i+1)),decide_eq_false he]
   refine ⟨_,by omega,i+1,by simp,by omega,by omega,fun j hj hh=>?_,rfl⟩
   by_cases hji:j=i
   ·subst hji;exact he hh.2.2
   ·exact h3 j (by omega) hh
 ·simp+contextual(maxSteps:=9^6)(disch:=omega)only[↓YR,↓den,↓Z0,YS,O1.d,O2.d,O3.d,cmI,arI,Z1,Z2,seval,ZF,ZG,]
  rw [ZnG fun j hh=>by
   by_cases hji:j<i
   ·exact h3 j hji hh
   ·have:=hh.2.1;omega]
theorem ZnI (X:List (List Int)) (hX:X.length≤1000) (hr:∀i,(X.getD i []).length≤1048576) (Q:List AV→Prop):mc.C ZcD [⟨L (L I),X⟩] Q=Q [⟨I,fxd X⟩]:=by
 refine Mc.Ends.c (mc.ends Zhm ?_)
 simp+contextual(maxSteps:=9^6)(disch:=omega)only[↓YR,↓den,↓Z0,YS,O1.d,O2.d,O3.d,cmI,arI,Z1,Z2,seval,ZF,ZG,Zf0]
 refine mc.lp_inv (fun k us=>∃i:Nat,us=[⟨L (L I),X⟩,⟨I,(i:Int)⟩]∧1≤i∧i≤2000∧(∀j,j<i→¬alike X j)∧k=5000 - i) _ _ ⟨1,rfl,Yh _,by omega,fun j hj hh=>by have:=hh.1;omega,rfl⟩ ?_
 rintro k us ⟨i,rfl,h1,h2,h3,rfl⟩
 have hi3:((i:Int)+1).toNat=i+1:=by omega
 by_cases hi:i+1<X.length
 ·by_cases he:X.getD i []=X.getD (i+1) []
  ·simp+contextual(maxSteps:=9^6)(disch:=omega)only[↓YR,↓den,↓Z0,YS,O1.d,O2.d,O3.d,cmI,arI,Z1,Z2,seval,ZF,ZG,hi3,Zn2 _ _ (hr i) (hr (i+1)),decide_eq_true he]
   rw [ZnF ⟨h1,hi,he⟩ h3]
  ·simp+contextual(maxSteps:=9^6)(disch:=omega)only[↓YR,↓den,↓Z0,YS,O1.d,O2.d,O3.d,cmI,arI,Z1,Z2,seval,ZF,ZG,hi3,Zn2 _ _ (hr i) (hr (i+1)),decide_eq_false he]
   refine ⟨_,by omega,i+1,by simp,by omega,by omega,fun j hj hh=>?_,rfl⟩
   by_cases hji:j=i
   ·subst hji;exact he hh.2.2
   ·exact h3 j (by omega) hh
 ·simp+contextual(maxSteps:=9^6)(disch:=omega)only[↓YR,↓den,↓Z0,YS,O1.d,O2.d,O3.d,cmI,arI,Z1,Z2,seval,ZF,ZG,]
  rw [ZnG fun j hh=>by
   by_cases hji:j<i
   ·exact h3 j hji hh
   ·have:=hh.2.1;omega]
theorem ZnJ (s:Sy) (D st:Nat) (way:List Int) (hs:ZK s) (hv:valid s) (hD:D≤30) (hw:IsW s D st way) {Q:List AV→Prop} (hQ:∀(X:List (List Int)) (R:List Int),Q [⟨L (L I),X⟩,⟨L I,R⟩]):mc.C Zd3 [⟨L V3,s.1⟩,⟨L TR,s.2⟩,⟨L I,way⟩] Q:=by
 obtain ⟨ch,rfl,c0,cD,cn,ce⟩:=hw
 have hz:=ZP hv
 obtain ⟨hfe,hfn⟩:=Znz hv
 have hl:(tab (fun i=>((ch i:Nat):Int)) (D+1)).length=D+1:=ZN
 have hrun:IsRun s D (fun i=>stN s (ch i)):=⟨by omega,ZmP hv (by rw [hfe];exact congrArg Int.ofNat c0.symm),fun e he=>Zkh hv (cn e he),fun e he=>ZmU hv (cn e (by omega)) (ce e he)⟩
 refine mc.c_of ZhN ?_
 simp+contextual(maxSteps:=9^6)(disch:=omega)only[↓YR,↓den,↓Z0,YS,O1.d,O2.d,O3.d,cmI,arI,Z1,Z2,seval,ZF,ZG,Zfr]
 refine mc.lp_for (List (List Int)) (fun i o=>[⟨L I,tab (fun i=>((ch i:Nat):Int)) (D+1)⟩,⟨I,(i:Int)⟩,⟨L V3,s.1⟩,⟨L TR,s.2⟩,⟨L (L I),o⟩]) (fun i o=>o=tab (fun i=>stN s (ch i)) i) (D+1) 0 [] _ rfl (Yf _) rfl ?_ ?_
 ·rintro i o hi rfl
  have h3:=cn i (by omega)
  have h4:(tab (fun i=>stN s (ch i)) i).length=i:=ZN
  simp+contextual(maxSteps:=9^6)(disch:=omega)only[↓YR,↓den,↓Z0,YS,O1.d,O2.d,O3.d,cmI,arI,Z1,Z2,seval,ZF,ZG,hl,ZO hi,Zkc s _ hs hv (by omega:(0:Int)≤((ch i:Nat):Int)∧((ch i:Nat):Int)≤3200000)]
  exact Zkd
 ·rintro o rfl
  simp+contextual(maxSteps:=9^6)(disch:=omega)only[↓YR,↓den,↓Z0,YS,O1.d,O2.d,O3.d,cmI,arI,Z1,Z2,seval,ZF,ZG,hl,Zn8 s D (fun i=>stN s (ch i)) hs hv hrun]
  exact hQ _ _
def fvC (s:Sy) (X:List (List Int)) (i:Nat):Prop:=ZW (X.getD (i+1) []) (szn s.1)∧(∀x∈X.getD i [],x∈X.getD (i+1) [])∧∀x∈ZlD s (X.getD i []),x∈X.getD (i+1) []
def fvs (s:Sy) (X:List (List Int)):Prop:=valid s∧(1≤X.length∧X.length≤30)∧X.getD 0 []=[(fn0 s:Int)]∧∀i,i+1<X.length→fvC s X i
theorem ZnK {s:Sy} (h:valid s):ZW [(fn0 s:Int)] (szn s.1):=by
 have:=(Znz h).2
 intro i hi
 have:i=0:=by simpa using hi
 subst this
 exact ⟨⟨by simp,by simp;omega⟩,fun h=>absurd h (Nat.lt_irrefl _)⟩
theorem ZnL {s:Sy} {X:List (List Int)} (h:valid s) (h0:X.getD 0 []=[(fn0 s:Int)]) {i:Nat} (hc:∀j,j<i→fvC s X j):ZW (X.getD i []) (szn s.1):=by
 cases i with
 | zero=>rw [h0];exact ZnK h
 | succ i=>exact (hc i (Nat.lt_succ_self _)).1
theorem ZnM {X:List (List Int)} (hr:∀r∈X,r.length≤401) (i:Nat):(X.getD i []).length≤401:=by
 by_cases hi:i<X.length
 ·exact hr _ (ZJ hi)
 ·rw [Y8,Yz (by omega)];simp
theorem ZnN (s:Sy) (X:List (List Int)) (hs:ZK s) (hX:X.length≤1000) (hr:∀r∈X,r.length≤401) (Q:List AV→Prop):mc.C Zdz [⟨L V3,s.1⟩,⟨L TR,s.2⟩,⟨L (L I),X⟩] Q=Q [⟨B,dB (fvs s X)⟩]:=by
 refine Mc.Ends.c (mc.ends Zii ?_)
 generalize hK:dB (fvs s X)=K
 by_cases hv:valid s
 ·have hz:=ZP hv
  obtain ⟨hfe,hfn⟩:=Znz hv
  have hrw:=ZnM hr
  by_cases hl:(1:Int)≤(X.length:Int)∧(X.length:Int)≤30
  ·by_cases h0:X.getD 0 []=[(fn0 s:Int)]
   ·obtain ⟨N,hN⟩:∃N,X.length=N+1:=⟨X.length - 1,by omega⟩
    have hY1:(X.drop 1).length=N:=by simp [hN]
    have hY2:∀i,(X.drop 1).getD i []=X.getD (i+1) []:=fun i=>by simp [Y8,Nat.add_comm]
    simp+contextual(maxSteps:=9^6)(disch:=omega)only[↓YR,↓den,↓Z0,YS,O1.d,O2.d,O3.d,cmI,arI,Z1,Z2,seval,ZF,ZG,ZfX,Zj3 s hs,hv,decide_true,Bool.not_true,Zix,decide_eq_true hl,ZjY s hv.1.2,Zk4 s _ hv.1.2 hv.2.2.1 (ZjW hv.2.2.1),hfe,Zn2 _ [(fn0 s:Int)] (show (X.getD 0 []).length≤1048576 by have:=hrw 0;omega) (by simp),decide_eq_true h0,Zkn s hv]
    generalize X.drop 1=Y at hY1 hY2
    refine mc.lp_for Unit (fun i _=>[⟨L (L I),X⟩,⟨L (L I),Y⟩,⟨I,(N:Int)⟩,⟨I,(i:Int)⟩,⟨L V3,s.1⟩,⟨L TR,s.2⟩,⟨L (L I),steps s⟩]) (fun i _=>∀j,j<i→fvC s X j) N 0 () _ (by rw [hY1];rfl) (Yf _) (fun j hj=>absurd hj (Nat.not_lt_zero _)) ?_ ?_
    ·rintro i _ hi hI
     have hno:¬fvC s X i→K=false:=fun h1=>by rw [←hK];exact ZU fun g=>h1 (g.2.2.2 i (by omega))
     have hpl:=ZnL hv h0 hI
     have hpV:Zln s (X.getD i []):=⟨hv,by rw [←hz.1];exact hpl⟩
     have hpm:=hpV.mem
     have hpn:=hpV.len
     have hrm:=hrw (i+1)
     simp+contextual(maxSteps:=9^6)(disch:=omega)only[↓YR,↓den,↓Z0,YS,O1.d,O2.d,O3.d,cmI,arI,Z1,Z2,seval,ZF,ZG,hY1]
     refine mc.wp_join (fun us=>us=[⟨L (L I),X⟩,⟨L (L I),Y⟩,⟨I,(N:Int)⟩,⟨I,(i:Int)⟩,⟨L V3,s.1⟩,⟨L TR,s.2⟩,⟨L (L I),steps s⟩]∧fvC s X i) ?_ ?_
     ·by_cases c1:ZW (X.getD (i+1) []) (szn s.1)
      ·have hcV:Zln s (X.getD (i+1) []):=⟨hv,by rw [←hz.1];exact c1⟩
       have hcm:=hcV.mem
       have hcl:=hcV.len
       obtain ⟨nx,hnx⟩:∃nx,X.getD (i+1) []=nx:=⟨_,rfl⟩
       obtain ⟨pv,hpv⟩:∃pv,X.getD i []=pv:=⟨_,rfl⟩
       have hfv:fvC s X i↔(∀x∈pv,x∈nx)∧∀x∈ZlD s pv,x∈nx:=by unfold fvC;rw [hnx,hpv];exact ⟨fun g=>g.2,fun g=>⟨by rw [←hnx];exact c1,g⟩⟩
       rw [hnx] at hcV hcm hcl c1
       rw [hpv] at hpV hpm hpn hpl
       have hc2:ZW nx (sz s.1):=hcV.2
       have e:ZR (ovr (steps s) pv) (szn s.1)=ZlD s pv:=Zks fun k _=>ZlC hpm
       have hXm:∀x∈ZlD s pv,0≤x∧x<(szn s.1:Int):=fun x hx=>by obtain ⟨k,h1,rfl,_⟩:=Zkr.1 hx;omega
       have hXl:(ZlD s pv).length≤szn s.1:=ZS
       simp+contextual(maxSteps:=9^6)(disch:=omega)only[↓YR,↓den,↓Z0,YS,O1.d,O2.d,O3.d,cmI,arI,Z1,Z2,seval,ZF,ZG,hY1,hY2,hnx,Zj2 s.1 hv.1.2 hv.2.2.1,Zlm nx (sz s.1) (by omega) (by omega),decide_eq_true hc2,Zll nx (sz s.1) (szn s.1) hz.1.symm (by omega) (by omega) hcm,hpv]
       refine Zis (fun j=>[⟨L I,pv⟩,⟨I,(pv.length:Int)⟩,⟨I,(j:Int)⟩,⟨L (L I),X⟩,⟨I,(i:Int)⟩,⟨L (L I),Y⟩,⟨I,(N:Int)⟩,⟨I,(i:Int)⟩,⟨L B,tab (fun k=>dB ((k:Int)∈nx)) (szn s.1)⟩,⟨L V3,s.1⟩,⟨L TR,s.2⟩,⟨L (L I),steps s⟩]) (fun j=>pv.getD j 0∈nx) pv.length _ rfl ?_ ?_
       ·intro j hj
        have h3:=hpm _ (ZJ (d:=0) hj)
        obtain ⟨x,hx⟩:∃x:Nat,pv.getD j 0=x:=⟨(pv.getD j 0).toNat,by omega⟩
        have hxn:x<szn s.1:=by omega
        by_cases c2:(x:Int)∈nx
        ·simp+contextual(maxSteps:=9^6)(disch:=omega)only[↓YR,↓den,↓Z0,YS,O1.d,O2.d,O3.d,cmI,arI,Z1,Z2,seval,ZF,ZG,hx,Yv,ZN,ZO hxn,ZT c2]
         exact c2
        ·rw [hno fun g=>c2 (by rw [←hx];exact (hfv.1 g).1 _ (ZJ hj))]
         simp+contextual(maxSteps:=9^6)(disch:=omega)only[↓YR,↓den,↓Z0,YS,O1.d,O2.d,O3.d,cmI,arI,Z1,Z2,seval,ZF,ZG,hx,Yv,ZN,ZO hxn,ZU c2]
       ·intro hall
        have hall:=Zi_ (d:=0) hall
        simp+contextual(maxSteps:=9^6)(disch:=omega)only[↓YR,↓den,↓Z0,YS,O1.d,O2.d,O3.d,cmI,arI,Z1,Z2,seval,ZF,ZG,hpv,Zlz (steps s) pv (szn s.1) (by omega) (Zl3 hv) (by omega) hpm,e]
        refine Zis (fun j=>[⟨I,((ZlD s pv).length:Int)⟩,⟨I,(j:Int)⟩,⟨L (L I),X⟩,⟨L (L I),Y⟩,⟨I,(N:Int)⟩,⟨I,(i:Int)⟩,⟨B,false⟩,⟨L I,ZlD s pv⟩,⟨L B,tab (fun k=>dB ((k:Int)∈nx)) (szn s.1)⟩,⟨L V3,s.1⟩,⟨L TR,s.2⟩,⟨L (L I),steps s⟩]) (fun j=>(ZlD s pv).getD j 0∈nx) (ZlD s pv).length _ rfl ?_ ?_
        ·intro j hj
         have h3:=hXm _ (ZJ (d:=0) hj)
         obtain ⟨x,hx⟩:∃x:Nat,(ZlD s pv).getD j 0=x:=⟨((ZlD s pv).getD j 0).toNat,by omega⟩
         have hxn:x<szn s.1:=by omega
         by_cases c2:(x:Int)∈nx
         ·simp+contextual(maxSteps:=9^6)(disch:=omega)only[↓YR,↓den,↓Z0,YS,O1.d,O2.d,O3.d,cmI,arI,Z1,Z2,seval,ZF,ZG,hx,Yv,ZN,ZO hxn,ZT c2]
          exact c2
         ·rw [hno fun g=>c2 (by rw [←hx];exact (hfv.1 g).2 _ (ZJ hj))]
          simp+contextual(maxSteps:=9^6)(disch:=omega)only[↓YR,↓den,↓Z0,YS,O1.d,O2.d,O3.d,cmI,arI,Z1,Z2,seval,ZF,ZG,hx,Yv,ZN,ZO hxn,ZU c2]
        ·intro hall2
         have hall2:=Zi_ (d:=0) hall2
         simp+contextual(maxSteps:=9^6)(disch:=omega)only[↓YR,↓den,↓Z0,YS,O1.d,O2.d,O3.d,cmI,arI,Z1,Z2,↓reduceIte,Nat.reduceLT,Nat.reduceSub,Nat.reduceAdd,Int.reduceAdd,Int.reduceEq,Int.reduceLT,Int.reduceLE,ZF,ZG,]
         exact ⟨fun g=>by simp at g,fun _=>hfv.2 ⟨hall,hall2⟩⟩
      ·have hc2:¬ZW (X.getD (i+1) []) (sz s.1):=fun g=>c1 (by rw [←hz.1] at g;exact g)
       rw [hno fun g=>c1 g.1]
       simp+contextual(maxSteps:=9^6)(disch:=omega)only[↓YR,↓den,↓Z0,YS,O1.d,O2.d,O3.d,cmI,arI,Z1,Z2,seval,ZF,ZG,hY1,hY2,Zj2 s.1 hv.1.2 hv.2.2.1,Zlm (X.getD (i+1) []) (sz s.1) (by omega) (by omega),decide_eq_false hc2]
     ·rintro us ⟨rfl,hc⟩
      simp+contextual(maxSteps:=9^6)(disch:=omega)only[↓YR,↓den,↓Z0,YS,O1.d,O2.d,O3.d,cmI,arI,Z1,Z2,seval,ZF,ZG,]
      intro j hj
      by_cases hji:j=i
      ·rw [hji];exact hc
      ·exact hI j (by omega)
    ·rintro _ hI
     have hk:K=true:=by
      rw [←hK]
      exact ZT ⟨hv,by omega,h0,fun j hj=>hI j (by omega)⟩
     rw [hk]
     simp+contextual(maxSteps:=9^6)(disch:=omega)only[↓YR,↓den,↓Z0,YS,O1.d,O2.d,O3.d,cmI,arI,Z1,Z2,seval,ZF,ZG,]
   ·have hk:K=false:=by rw [←hK];exact ZU fun g=>h0 g.2.2.1
    rw [hk]
    simp+contextual(maxSteps:=9^6)(disch:=omega)only[↓YR,↓den,↓Z0,YS,O1.d,O2.d,O3.d,cmI,arI,Z1,Z2,seval,ZF,ZG,ZfX,Zj3 s hs,hv,decide_true,Bool.not_true,Zix,decide_eq_true hl,ZjY s hv.1.2,Zk4 s _ hv.1.2 hv.2.2.1 (ZjW hv.2.2.1),hfe,Zn2 _ [(fn0 s:Int)] (show (X.getD 0 []).length≤1048576 by have:=hrw 0;omega) (by simp),decide_eq_false h0]
  ·have hk:K=false:=by rw [←hK];exact ZU fun g=>hl (by have:=g.2.1;omega)
   rw [hk]
   simp+contextual(maxSteps:=9^6)(disch:=omega)only[↓YR,↓den,↓Z0,YS,O1.d,O2.d,O3.d,cmI,arI,Z1,Z2,seval,ZF,ZG,ZfX,Zj3 s hs,hv,decide_true,Bool.not_true,Zix,decide_eq_false hl]
 ·have hk:K=false:=by rw [←hK];exact ZU fun g=>hv g.1
  rw [hk]
  simp+contextual(maxSteps:=9^6)(disch:=omega)only[↓YR,↓den,↓Z0,YS,O1.d,O2.d,O3.d,cmI,arI,Z1,Z2,seval,ZF,ZG,ZfX,Zj3 s hs,hv,decide_false,Bool.not_false]
theorem ZnO {s:Sy} {X:List (List Int)} (h:fvs s X):∀i,i<X.length→∀k:Nat,k<szn s.1→Lay (steps s) [(fn0 s:Int)] i k→(k:Int)∈X.getD i []:=by
 intro i
 induction i with
 | zero=>intro _ k _ hk;rw [h.2.2.1];exact hk
 | succ i ih =>
  intro hi k hkn hk
  have hc:=h.2.2.2 i hi
  rcases hk with hk | ⟨a,ha,hs⟩
  ·exact hc.2.1 _ (ih (by omega) k hkn hk)
  ·have hv:=h.1
   have han:a<szn s.1:=by
    have hT:=(Zlt hv).1.1
    refine Classical.byContradiction fun g=>?_
    rw [Y8,Yz (by omega)] at hs
    simp at hs
   have hz:=ZP hv
   have hset:ZW (X.getD i []) (szn s.1):=ZnL hv h.2.2.1 fun j hj=>h.2.2.2 j (by omega)
   exact hc.2.2 _ ((ZmD ⟨hv,by rw [←hz.1];exact hset⟩).2 ⟨k,hkn,rfl,(a:Int),ih (by omega) a han ha,by rw [Yv];exact hs⟩)
theorem ZnP {s:Sy} {X:List (List Int)} (h:fvs s X) {i:Nat} (ha:alike X i):clo s (X.getD i []):=by
 have hv:=h.1
 have hz:=ZP hv
 have hset:ZW (X.getD i []) (szn s.1):=ZnL hv h.2.2.1 fun j hj=>h.2.2.2 j (by have:=ha.2.1;omega)
 obtain ⟨hfe,hfn⟩:=Znz hv
 refine ⟨⟨hv,by rw [←hz.1];exact hset⟩,?_,?_⟩
 ·rw [hfe]
  refine ZnO h i (by have:=ha.2.1;omega) (fn0 s) hfn (Lay.up (d:=0) (by simp [Lay]) (Yf _))
 ·intro x hx
  have:=(h.2.2.2 i ha.2.1).2.2 x hx
  rw [←ha.2.2] at this;exact this
def dvr (F:List (Int×Int×Int)) (V:Nat) (n:Int):Int:=if n<2 then (V:Int) else (F.getD (n - 2).toNat (0,0,0)).1
def ZnQ (F:List (Int×Int×Int)) (V i:Nat) (f:Int×Int×Int):Prop :=
 (0≤f.1∧f.1<(V:Int))∧(0≤f.2.1∧f.2.1≤(i:Int)+1)∧(0≤f.2.2∧f.2.2≤(i:Int)+1)∧f.1<dvr F V f.2.1∧f.1<dvr F V f.2.2∧f.2.1≠f.2.2
structure Dia (F:List (Int×Int×Int)) (V:Nat):Prop where
 ok:∀i,i<F.length→ZnQ F V i (F.getD i (0,0,0))
 nd:F.Nodup
inductive Cn (F:List (Int×Int×Int)) (V:Nat):Int→Nat→Int→Prop
 | leaf {n:Int} {v:Nat} {c:Int}:n=0∨n=1→v≤V→c=n * 2 ^ (V - v)→Cn F V n v c
 | fork {n:Int} {v:Nat} {c:Int} {i w:Nat} {lo hi a b:Int}:n=(i:Int)+2→i<F.length→F.getD i (0,0,0)=((w:Int),lo,hi)→v≤w→w<V→Cn F V lo (w+1) a→Cn F V hi (w+1) b→c=(a+b) * 2 ^ (w - v)→Cn F V n v c
theorem ZnR {α:Type} {F G:List α} {i:Nat} {d:α} (h:i<F.length):(F++G).getD i d=F.getD i d:=by
 rw [Y8,Yw h,←Y8]
theorem ZnS {α:Type} {F:List α} {f d:α}:(F++[f]).getD F.length d=f:=by
 simp [Y8]
theorem Cn.up {F:List (Int×Int×Int)} {V:Nat} {n:Int} {v:Nat} {c:Int} (h:Cn F V n (v+1) c):Cn F V n v (c+c):=by
 have key:∀{u:Nat} {c:Int},Cn F V n u c→u=v+1→Cn F V n v (c+c):=by
  intro u c h hu
  cases h with
  | leaf h1 h2 h3 =>
   refine .leaf h1 (by omega) ?_
   rw [h3,show V - v=(V - u)+1 by omega,Int.pow_succ,←Int.mul_assoc];omega
  | @fork _ _ _ i w lo hi a b h1 h2 h3 h4 h5 h6 h7 h8 =>
   refine .fork h1 h2 h3 (by omega) h5 h6 h7 ?_
   rw [h8,show w - v=(w - u)+1 by omega,Int.pow_succ,←Int.mul_assoc];omega
 exact key h rfl
theorem Cn.eq {F:List (Int×Int×Int)} {V:Nat} {n:Int} {v:Nat} {c:Int} (h:Cn F V n v c):∀{d:Int},Cn F V n v d→c=d:=by
 induction h with
 | leaf h1 h2 h3 =>
  intro d hd
  cases hd with
  | leaf g1 g2 g3=>rw [h3,g3]
  | fork g1 g2=>omega
 | fork h1 h2 h3 h4 h5 _ _ h8 ih1 ih2 =>
  intro d hd
  cases hd with
  | leaf g1 g2 g3=>omega
  | @fork _ _ _ i w lo hi a b g1 g2 g3 g4 g5 g6 g7 g8 =>
   rename_i j x lo' hi' a' b' _ _
   have hij:j=i:=by omega
   subst hij
   rw [h3] at g3
   simp only [Y9] at g3
   obtain ⟨e1,e2,e3⟩:=g3
   have:x=w:=by omega
   subst this
   subst e2;subst e3
   rw [h8,g8,ih1 g6,ih2 g7]
def ZnT (F:List (Int×Int×Int)) (V:Nat):Nat:=(F.filter fun f=>decide (f.1+3≤(V:Int))).length
def plc (F:List (Int×Int×Int)) (n:Int):Nat:=if n<2 then n.toNat else if (F.getD (n - 2).toNat (0,0,0)).2.1=0 then 2 else 3
theorem Dia.last {F:List (Int×Int×Int)} {V:Nat} (h:Dia F V) {i:Nat} (hi:i<F.length) (hv:(F.getD i (0,0,0)).1+1=(V:Int)) :
  F.getD i (0,0,0)=((V:Int) - 1,0,1)∨F.getD i (0,0,0)=((V:Int) - 1,1,0):=by
 have h1:=h.ok i hi
 have hle:∀n:Int,0≤n→n≤(i:Int)+1→(F.getD i (0,0,0)).1<dvr F V n→n<2:=by
  intro n g0 g1 g2
  refine Classical.byContradiction fun g=>?_
  unfold dvr at g2
  rw [if_neg g] at g2
  have:=(h.ok (n - 2).toNat (by omega)).1
  omega
 generalize F.getD i (0,0,0)=f at h1 hv hle
 obtain ⟨x,lo,hi⟩:=f
 obtain ⟨h1,h2,h3,h4,h5,h6⟩:=h1
 dsimp only at *
 have:=hle lo h2.1 h2.2 h4
 have:=hle hi h3.1 h3.2 h5
 rcases (by omega:lo=0∧hi=1∨lo=1∧hi=0) with ⟨rfl,rfl⟩ | ⟨rfl,rfl⟩
 ·left;rw [show x=(V:Int) - 1 by omega]
 ·right;rw [show x=(V:Int) - 1 by omega]
theorem ZnU {F:List (Int×Int×Int)} (h:F.Nodup) {i j:Nat} (hi:i<F.length) (hj:j<F.length) (he:F.getD i (0,0,0)=F.getD j (0,0,0)):i=j:=by
 rw [getD_lt hi,getD_lt hj] at he
 exact (List.getElem_inj h).1 he
def ZnV (F:List (Int×Int×Int)) (V:Nat) (n:Int):Prop:=(0≤n∧n≤(F.length:Int)+1)∧(V:Int) - 1≤dvr F V n
theorem ZnW {F:List (Int×Int×Int)} {V:Nat} {n:Int} (h:ZnV F V n):plc F n<4:=by
 unfold plc
 have:=h.1
 split
 ·omega
 ·split<;>omega
theorem ZnX {F:List (Int×Int×Int)} {V:Nat} (hD:Dia F V) {n m:Int} (hn:ZnV F V n) (hm:ZnV F V m) (he:plc F n=plc F m):n=m:=by
 obtain ⟨n1,n2⟩:=hn
 obtain ⟨m1,m2⟩:=hm
 have hlast:∀k:Int,2≤k→k≤(F.length:Int)+1→(V:Int) - 1≤dvr F V k→F.getD (k - 2).toNat (0,0,0)=((V:Int) - 1,0,1)∨F.getD (k - 2).toNat (0,0,0)=((V:Int) - 1,1,0):=fun k k1 k2 k3=>by
  refine hD.last (by omega) ?_
  unfold dvr at k3
  rw [if_neg (by omega)] at k3
  have:=(hD.ok (k - 2).toNat (by omega)).1
  omega
 unfold plc at he
 by_cases a:n<2
 ·rw [if_pos a] at he
  by_cases b:m<2
  ·rw [if_pos b] at he;omega
  ·rw [if_neg b] at he
   split at he<;>omega
 ·rw [if_neg a] at he
  by_cases b:m<2
  ·rw [if_pos b] at he
   split at he<;>omega
  ·rw [if_neg b] at he
   have e:F.getD (n - 2).toNat (0,0,0)=F.getD (m - 2).toNat (0,0,0):=by
    rcases hlast n (by omega) n1.2 n2 with g1 | g1<;>rcases hlast m (by omega) m1.2 m2 with g2 | g2<;>rw [g1,g2] at he ⊢<;>simp at he
   have:=ZnU hD.nd (by omega) (by omega) e
   omega
theorem Dia.len {F:List (Int×Int×Int)} {V:Nat} (h:Dia F V):F.length≤ZnT F V+32:=by
 rw [List.length_eq_countP_add_countP (fun f:Int×Int×Int=>decide (f.1+3≤(V:Int))),List.countP_eq_length_filter,List.countP_eq_length_filter]
 refine Nat.add_le_add_left ?_ _
 generalize hL:F.filter (fun a=>decide ¬(fun f:Int×Int×Int=>decide (f.1+3≤(V:Int))) a=true)=L
 have hnd:L.Nodup:=by rw [←hL];exact List.filter_sublist.nodup h.nd
 have hmem:∀f∈L,f∈F∧(V:Int)≤f.1+2∧f.1<(V:Int)∧ZnV F V f.2.1∧ZnV F V f.2.2:=by
  intro f hf
  rw [←hL,List.mem_filter] at hf
  obtain ⟨h1,h2⟩:=hf
  simp only [Ye] at h2
  obtain ⟨i,hi,rfl⟩:=List.mem_iff_getElem.1 h1
  have h3:=h.ok i hi
  rw [getD_lt hi] at h3
  obtain ⟨a1,a2,a3,a4,a5,-⟩:=h3
  exact ⟨h1,by omega,by omega,⟨by omega,by omega⟩,⟨by omega,by omega⟩⟩
 let g:Int×Int×Int→Nat:=fun f=>(f.1+2 - (V:Int)).toNat * 16+plc F f.2.1 * 4+plc F f.2.2
 have hg:(L.map g).Nodup:=by
  refine List.pairwise_map.2 (List.Pairwise.imp_of_mem (fun {a b} ha hb hab he=>hab ?_) hnd)
  obtain ⟨-,a1,a2,a3,a4⟩:=hmem a ha
  obtain ⟨-,b1,b2,b3,b4⟩:=hmem b hb
  have p1:=ZnW a3
  have p2:=ZnW a4
  have p3:=ZnW b3
  have p4:=ZnW b4
  replace he:(a.1+2 - (V:Int)).toNat * 16+plc F a.2.1 * 4+plc F a.2.2=(b.1+2 - (V:Int)).toNat * 16+plc F b.2.1 * 4+plc F b.2.2:=he
  have e1:=ZnX h a3 b3 (by omega)
  have e2:=ZnX h a4 b4 (by omega)
  obtain ⟨x,y,z⟩:=a
  obtain ⟨x',y',z'⟩:=b
  dsimp only at *
  rw [e1,e2,show x=x' by omega]
 have hs:L.map g ⊆ List.range 32:=by
  intro k hk
  obtain ⟨f,hf,rfl⟩:=Yo.1 hk
  obtain ⟨-,a1,a2,a3,a4⟩:=hmem f hf
  have p1:=ZnW a3
  have p2:=ZnW a4
  refine List.mem_range.2 ?_
  show (f.1+2 - (V:Int)).toNat * 16+plc F f.2.1 * 4+plc F f.2.2<32
  omega
 have:=hg.length_le_of_subset hs
 rw [YF,List.length_range] at this
 exact this
def Pd (s:Sy) (F:Nat→Nat→Bool) (l st a:Nat):Prop:=(a<szn s.1∧F l a=true∧(st:Int)∈(steps s).getD a [])∧∀b,b<a→F l b=true→(st:Int)∉(steps s).getD b []
theorem Pd.eq {s:Sy} {F:Nat→Nat→Bool} {l st a b:Nat} (h:Pd s F l st a) (h':Pd s F l st b):a=b:=by
 rcases Nat.lt_trichotomy a b with g | g | g
 ·exact absurd h.1.2.2 (h'.2 a g h.1.2.1)
 ·exact g
 ·exact absurd h'.1.2.2 (h.2 b g h'.1.2.1)
inductive RB (s:Sy):Bool→Nat→(Nat→Nat→Bool)→Nat→(Nat→Nat→Bool)→List (List Int×Int)→List Int→Prop
 | first {l:Nat} {F:Nat→Nat→Bool}:RB s true l F (fn0 s) F [] [(fn0 s:Int)]
 | go {l:Nat} {F:Nat→Nat→Bool} {st:Nat} {F':Nat→Nat→Bool} {new:List (List Int×Int)} {w:List Int}:st≠fn0 s→RB s false l F st F' new w→RB s true l F st F' new w
 | out {l:Nat} {F:Nat→Nat→Bool} {st:Nat}:F l st=false→RB s false l F st F [] []
 | drop {l:Nat} {F:Nat→Nat→Bool} {st:Nat}:F (l+1) st=true→(∀a,a<szn s.1→F l a=true→(st:Int)∉(steps s).getD a []) →
   RB s false (l+1) F st (drp s (gen s (ZR (F l) (szn s.1)) st) (l+1+1) F) [(gen s (ZR (F l) (szn s.1)) st,((l+1:Nat):Int))] []
 | way {l:Nat} {F:Nat→Nat→Bool} {st a:Nat} {F1:Nat→Nat→Bool} {new:List (List Int×Int)} {w:List Int}:F (l+1) st=true→Pd s F l st a→RB s true l F a F1 new w→w≠[]→RB s false (l+1) F st F1 new (w++[(st:Int)])
 | again {l:Nat} {F:Nat→Nat→Bool} {st a:Nat} {F1 F2:Nat→Nat→Bool} {new1 new2:List (List Int×Int)} {w:List Int}:F (l+1) st=true→Pd s F l st a→RB s true l F a F1 new1 []→RB s false (l+1) F1 st F2 new2 w→RB s false (l+1) F st F2 (new1++new2) w
theorem RB.det {s:Sy} {q:Bool} {l:Nat} {F:Nat→Nat→Bool} {st:Nat} {F1:Nat→Nat→Bool} {n1:List (List Int×Int)} {w1:List Int} (h:RB s q l F st F1 n1 w1) :
  ∀{F2:Nat→Nat→Bool} {n2:List (List Int×Int)} {w2:List Int},RB s q l F st F2 n2 w2→F1=F2∧n1=n2∧w1=w2:=by
 induction h with
 | first =>
  intro F2 n2 w2 h'
  cases h' with
  | first=>exact ⟨rfl,rfl,rfl⟩
  | go h1 _=>exact absurd rfl h1
 | go h1 _ ih =>
  intro F2 n2 w2 h'
  cases h' with
  | first=>exact absurd rfl h1
  | go _ h2=>exact ih h2
 | out h1 =>
  intro F2 n2 w2 h'
  cases h' with
  | out _=>exact ⟨rfl,rfl,rfl⟩
  | drop h2 _=>rw [h1] at h2;cases h2
  | way h2=>rw [h1] at h2;cases h2
  | again h2=>rw [h1] at h2;cases h2
 | drop h1 h2 =>
  intro F2 n2 w2 h'
  cases h' with
  | out h3=>rw [h1] at h3;cases h3
  | drop _ _=>exact ⟨rfl,rfl,rfl⟩
  | way _ h4=>exact absurd h4.1.2.2 (h2 _ h4.1.1 h4.1.2.1)
  | again _ h4=>exact absurd h4.1.2.2 (h2 _ h4.1.1 h4.1.2.1)
 | way h1 h2 _ h4 ih =>
  intro F2 n2 w2 h'
  cases h' with
  | out h3=>rw [h1] at h3;cases h3
  | drop _ h5=>exact absurd h2.1.2.2 (h5 _ h2.1.1 h2.1.2.1)
  | way _ g2 g3 g4 =>
   cases h2.eq g2
   obtain ⟨a1,a2,a3⟩:=ih g3
   exact ⟨a1,a2,by rw [a3]⟩
  | again _ g2 g3 g4 =>
   cases h2.eq g2
   exact absurd (ih g3).2.2 h4
 | again h1 h2 _ _ ih1 ih2 =>
  intro F2 n2 w2 h'
  cases h' with
  | out h3=>rw [h1] at h3;cases h3
  | drop _ h5=>exact absurd h2.1.2.2 (h5 _ h2.1.1 h2.1.2.1)
  | way _ g2 g3 g4 =>
   cases h2.eq g2
   exact absurd (ih1 g3).2.2.symm g4
  | again _ g2 g3 g4 =>
   cases h2.eq g2
   obtain ⟨a1,a2,-⟩:=ih1 g3
   subst a1
   obtain ⟨b1,b2,b3⟩:=ih2 g4
   exact ⟨b1,by rw [a2,b2],b3⟩
structure FK (s:Sy) (m:Nat) (F:Nat→Nat→Bool):Prop where
 one:∀k,k<szn s.1→(F 0 k=true↔k=fn0 s)
 up:∀i k,i+1<m→k<szn s.1→F i k=true→F (i+1) k=true
 st:∀i a k,i+1<m→a<szn s.1→k<szn s.1→F i a=true→(k:Int)∈(steps s).getD a []→F (i+1) k=true
theorem FK.le {s:Sy} {m:Nat} {F:Nat→Nat→Bool} (h:FK s m F) {i k:Nat} (hk:k<szn s.1) (hF:F i k=true):∀{j:Nat},i≤j→j<m→F j k=true
 | 0,hij,hj=>by rw [show i=0 by omega] at hF;exact hF
 | j+1,hij,hj=>by
  by_cases he:i=j+1
  ·rw [←he];exact hF
  ·exact h.up j k hj hk (h.le hk hF (by omega) (by omega))
def CK (s:Sy) (m:Nat) (F:Nat→Nat→Bool) (C:List (List Int×Int)):Prop :=
 ∀x∈C,(x.1.length:Int)=bc s.1∧(1≤x.2∧x.2<(m:Int))∧∀(i k:Nat),1≤i→(i:Int)≤x.2→k<szn s.1→F i k=true→inC s x.1 k=false
theorem CK.less {s:Sy} {m:Nat} {F F':Nat→Nat→Bool} {C:List (List Int×Int)} (h:CK s m F C) (hs:∀i k,i<m→k<szn s.1→F' i k=true→F i k=true):CK s m F' C:=fun x hx=>by
 obtain ⟨h1,h2,h3⟩:=h x hx
 exact ⟨h1,h2,fun i k g1 g2 g3 g4=>h3 i k g1 g2 g3 (hs i k (by omega) g3 g4)⟩
theorem CK.app {s:Sy} {m:Nat} {F:Nat→Nat→Bool} {C D:List (List Int×Int)} (h:CK s m F C) (h':CK s m F D):CK s m F (C++D):=fun x hx=>by
 rcases Y6.1 hx with hx | hx
 ·exact h x hx
 ·exact h' x hx
theorem FK.drop {s:Sy} {m l:Nat} {F:Nat→Nat→Bool} (hv:valid s) (h:FK s m F) (hl:l+1<m) {c:List Int} (hb:blk s (ZR (F l) (szn s.1)) c):FK s m (drp s c (l+1+1) F):=by
 have hT:=(Zlt hv).1
 have hb1:inC s c (fn0 s)=false:=hb.1
 have hb2:∀a k:Nat,a<szn s.1→F l a=true→inC s c a=false→(k:Int)∈(steps s).getD a []→inC s c k=false:=fun a k ha hF hc hk=>by
  have:=hb.2 (a:Int) (Zkr.2 ⟨a,ha,rfl,hF⟩) (by rw [Yv];exact hc) (k:Int) (by rw [Yv];exact hk)
  rwa [Yv] at this
 have in1:∀{i k:Nat},1≤i→i<l+1+1→(drp s c (l+1+1) F i k=true↔F i k=true∧inC s c k=false):=fun {i k} h1 h2=>by
  unfold drp;rw [if_pos ⟨h1,h2⟩];simp
 have in0:∀{i k:Nat},¬(1≤i∧i<l+1+1)→drp s c (l+1+1) F i k=F i k:=fun {i k} h1=>by unfold drp;rw [if_neg h1]
 refine ⟨fun k hk=>?_,fun i k hi hk hF=>?_,fun i a k hi ha hk hF he=>?_⟩
 ·rw [in0 (by omega)];exact h.one k hk
 ·have hF0:=ZnD hF
  have hup:=h.up i k hi hk hF0
  by_cases h1:i+1<l+1+1
  ·rw [in1 (by omega) h1]
   refine ⟨hup,?_⟩
   by_cases h0:i=0
   ·subst h0
    rw [(h.one k hk).1 hF0];exact hb1
   ·exact ((in1 (by omega) (by omega)).1 hF).2
  ·rw [in0 (by omega)];exact hup
 ·have hF0:=ZnD hF
  have hst:=h.st i a k hi ha hk hF0 he
  by_cases h1:i+1<l+1+1
  ·rw [in1 (by omega) h1]
   refine ⟨hst,hb2 a k ha (h.le ha hF0 (by omega) (by omega)) ?_ he⟩
   by_cases h0:i=0
   ·subst h0
    rw [(h.one a ha).1 hF0];exact hb1
   ·exact ((in1 (by omega) (by omega)).1 hF).2
  ·rw [in0 (by omega)];exact hst
theorem ZnY {s:Sy} {F:Nat→Nat→Bool} {l st:Nat} (h:valid s) (hst:st<szn s.1) (hsf:st≠fn0 s) (hno:∀a,a<szn s.1→F l a=true→(st:Int)∉(steps s).getD a []):blk s (ZR (F l) (szn s.1)) (sb s (stN s st)):=by
 obtain ⟨hfe,hfn⟩:=Znz h
 refine ⟨?_,fun x hx _ y hy=>?_⟩
 ·rw [show (num s.1 (ZM s.1)).toNat=fn0 s from rfl]
  cases hc:inC s (sb s (stN s st)) (fn0 s) with
  | false=>rfl
  | true=>exact absurd (Znr h hfn hst hc).symm hsf
 ·obtain ⟨b,hb,rfl,hqb⟩:=Zkr.1 hx
  have hyr:=(Zlt h).1.row _ hy
  cases hc:inC s (sb s (stN s st)) y.toNat with
  | false=>rfl
  | true =>
   have:=Znr h (by omega) hst hc
   refine absurd ?_ (hno b hb hqb)
   rw [←this,Int.toNat_of_nonneg hyr.1];exact hy
theorem ZnZ {s:Sy} {c:List Int} {l m st:Nat} {F:Nat→Nat→Bool} (hst:st<szn s.1) (hl:l+1<m) (hF:F (l+1) st=true) (hc:inC s c st=true) :
  ¬drp s c (l+1+1) F (l+1) st=true∧1+muP (szn s.1) (drp s c (l+1+1) F) m≤muP (szn s.1) F m:=by
 have hnd:¬drp s c (l+1+1) F (l+1) st=true:=by
  unfold drp
  rw [if_pos (by omega),hc];simp
 have:=ZnB (n:=szn s.1) (F:=drp s c (l+1+1) F) (G:=F) (l:=l+1) hst hF hnd (m:=m) (by omega) fun i k _ _ g=>ZnD g
 exact ⟨hnd,by omega⟩
theorem RB.keep {s:Sy} (hv:valid s) {m:Nat} {q:Bool} {l:Nat} {F:Nat→Nat→Bool} {st:Nat} {F':Nat→Nat→Bool} {new:List (List Int×Int)} {w:List Int} (h:RB s q l F st F' new w):l<m→st<szn s.1→(q=false→st≠fn0 s)→FK s m F →
  FK s m F'∧(∀i k,i<m→k<szn s.1→F' i k=true→F i k=true)∧CK s m F' new∧new.length+muP (szn s.1) F' m≤muP (szn s.1) F m∧(w=[]→F' l st=false)∧(w≠[]→∃D,D≤l∧IsW s D st w):=by
 induction h with
 | @first l F =>
  intro hl hst _ hF
  exact ⟨hF,fun _ _ _ _ g=>g,fun x hx=>(by cases hx),by simp,fun g=>(by cases g),fun _=>⟨0,Yf _,fun _=>fn0 s,rfl,rfl,rfl,fun _ _=>hst,fun e he=>absurd he (Nat.not_lt_zero _)⟩⟩
 | go h1 _ ih=>intro hl hst _ hF;exact ih hl hst (fun _=>h1) hF
 | out h1 =>
  intro hl hst _ hF
  exact ⟨hF,fun _ _ _ _ g=>g,fun x hx=>(by cases hx),by simp,fun _=>h1,fun g=>absurd rfl g⟩
 | @drop l F st h1 h2 =>
  intro hl hst hsf hF
  have hb:=Zns (ZnY hv hst (hsf rfl) h2) (i:=(sb s (stN s st)).length)
  have hgi:inC s (gen s (ZR (F l) (szn s.1)) st) st=true:=ZnC
  have hgl:((gen s (ZR (F l) (szn s.1)) st).length:Int)=bc s.1:=Zm8
  obtain ⟨d1,d2⟩:=ZnZ hst hl h1 hgi
  refine ⟨hF.drop hv hl hb,fun i k _ _ g=>ZnD g,fun x hx=>?_,?_,fun _=>by simpa using d1,fun g=>absurd rfl g⟩
  ·rw [Y1.1 hx]
   refine ⟨hgl,⟨by omega,by omega⟩,fun i k g1 g2 g3 g4=>?_⟩
   dsimp only at g2 ⊢
   unfold drp at g4
   rw [if_pos (by omega)] at g4
   simp only [Y5,Yr] at g4
   exact g4.2
  ·simp only [Yj];omega
 | @way l F st a F1 new w h1 h2 _ h4 ih =>
  intro hl hst hsf hF
  obtain ⟨a1,a2,a3,a4,a5,a6⟩:=ih (by omega) h2.1.1 (fun g=>by cases g) hF
  obtain ⟨D,hD,hw⟩:=a6 h4
  exact ⟨a1,a2,a3,a4,fun g=>(by simp at g),fun _=>⟨D+1,by omega,hw.snoc hst h2.1.2.2⟩⟩
 | @again l F st a F1 F2 new1 new2 w h1 h2 _ _ ih1 ih2 =>
  intro hl hst hsf hF
  obtain ⟨a1,a2,a3,a4,a5,-⟩:=ih1 (by omega) h2.1.1 (fun g=>by cases g) hF
  obtain ⟨b1,b2,b3,b4,b5,b6⟩:=ih2 hl hst hsf a1
  refine ⟨b1,fun i k g1 g2 g3=>a2 i k g1 g2 (b2 i k g1 g2 g3),(a3.less b2).app b3,by rw [Y7];omega,b5,b6⟩
inductive RC (s:Sy) (g:Nat→Bool) (L:Nat):Nat→(Nat→Nat→Bool)→(Nat→Nat→Bool)→List (List Int×Int)→List Int→Prop
 | done {k:Nat} {F:Nat→Nat→Bool}:szn s.1≤k→RC s g L k F F [] []
 | skip {k:Nat} {F F':Nat→Nat→Bool} {new:List (List Int×Int)} {w:List Int}:k<szn s.1→(F L k=true→g k=true)→RC s g L (k+1) F F' new w→RC s g L k F F' new w
 | way {k:Nat} {F F':Nat→Nat→Bool} {new:List (List Int×Int)} {w:List Int}:k<szn s.1→F L k=true→g k=false→RB s true L F k F' new w→w≠[]→RC s g L k F F' new w
 | next {k:Nat} {F F1 F':Nat→Nat→Bool} {new1 new:List (List Int×Int)} {w:List Int}:k<szn s.1→F L k=true→g k=false→RB s true L F k F1 new1 []→RC s g L (k+1) F1 F' new w→RC s g L k F F' (new1++new) w
theorem RC.det {s:Sy} {g:Nat→Bool} {L k:Nat} {F F1:Nat→Nat→Bool} {n1:List (List Int×Int)} {w1:List Int} (h:RC s g L k F F1 n1 w1) :
  ∀{F2:Nat→Nat→Bool} {n2:List (List Int×Int)} {w2:List Int},RC s g L k F F2 n2 w2→F1=F2∧n1=n2∧w1=w2:=by
 induction h with
 | done h1 =>
  intro F2 n2 w2 h'
  cases h' with
  | done _=>exact ⟨rfl,rfl,rfl⟩
  | skip h2=>omega
  | way h2=>omega
  | next h2=>omega
 | skip h1 h2 _ ih =>
  intro F2 n2 w2 h'
  cases h' with
  | done h3=>omega
  | skip _ _ h3=>exact ih h3
  | way _ h3 h4=>rw [h2 h3] at h4;cases h4
  | next _ h3 h4=>rw [h2 h3] at h4;cases h4
 | way h1 h2 h3 h4 h5 =>
  intro F2 n2 w2 h'
  cases h' with
  | done h6=>omega
  | skip _ h6=>rw [h6 h2] at h3;cases h3
  | way _ _ _ h6 _=>exact h4.det h6
  | next _ _ _ h6=>exact absurd (h4.det h6).2.2 h5
 | next h1 h2 h3 h4 _ ih =>
  intro F2 n2 w2 h'
  cases h' with
  | done h6=>omega
  | skip _ h6=>rw [h6 h2] at h3;cases h3
  | way _ _ _ h6 h7=>exact absurd (h4.det h6).2.2.symm h7
  | next _ _ _ h6 h7 =>
   obtain ⟨a1,a2,-⟩:=h4.det h6
   subst a1
   obtain ⟨b1,b2,b3⟩:=ih h7
   exact ⟨b1,by rw [a2,b2],b3⟩
theorem RC.skips {s:Sy} {g:Nat→Bool} {L:Nat} {F F':Nat→Nat→Bool} {new:List (List Int×Int)} {w:List Int} {k:Nat}:∀{d:Nat},k+d≤szn s.1→(∀j,k≤j→j<k+d→F L j=true→g j=true)→RC s g L (k+d) F F' new w→RC s g L k F F' new w
 | 0,_,_,h=>h
 | d+1,hd,hj,h=>RC.skips (d:=d) (by omega) (fun j h1 h2=>hj j h1 (by omega)) (.skip (by omega) (hj (k+d) (by omega) (by omega)) h)
theorem RC.keep {s:Sy} (hv:valid s) {g:Nat→Bool} {L k:Nat} {F F':Nat→Nat→Bool} {new:List (List Int×Int)} {w:List Int} (h:RC s g L k F F' new w):FK s (L+1) F →
  FK s (L+1) F'∧(∀i k,i<L+1→k<szn s.1→F' i k=true→F i k=true)∧CK s (L+1) F' new∧new.length+muP (szn s.1) F' (L+1)≤muP (szn s.1) F (L+1) ∧
   (w=[]→∀j,k≤j→j<szn s.1→F' L j=true→g j=true)∧(w≠[]→∃D st,D≤L∧st<szn s.1∧g st=false∧IsW s D st w):=by
 induction h with
 | done h1=>intro hF;exact ⟨hF,fun _ _ _ _ g=>g,fun x hx=>(by cases hx),by simp,fun _ j h2 h3=>by omega,fun g=>absurd rfl g⟩
 | @skip k F F' new w h1 h2 _ ih =>
  intro hF
  obtain ⟨a1,a2,a3,a4,a5,a6⟩:=ih hF
  refine ⟨a1,a2,a3,a4,fun hw j h3 h4 h5=>?_,a6⟩
  by_cases hj:j=k
  ·subst hj;exact h2 (a2 _ _ (Nat.lt_succ_self _) h4 h5)
  ·exact a5 hw j (by omega) h4 h5
 | way h1 h2 h3 h4 h5 =>
  intro hF
  obtain ⟨a1,a2,a3,a4,a5,a6⟩:=h4.keep hv (m:=L+1) (Nat.lt_succ_self _) h1 (fun g=>by cases g) hF
  refine ⟨a1,a2,a3,a4,fun hw=>absurd hw h5,fun hw=>?_⟩
  obtain ⟨D,b1,b2⟩:=a6 hw
  exact ⟨D,_,b1,h1,h3,b2⟩
 | @next k F F1 F' new1 new w h1 h2 h3 h4 _ ih =>
  intro hF
  obtain ⟨a1,a2,a3,a4,a5,a6⟩:=h4.keep hv (m:=L+1) (Nat.lt_succ_self _) h1 (fun g=>by cases g) hF
  obtain ⟨b1,b2,b3,b4,b5,b6⟩:=ih a1
  refine ⟨b1,fun i k g1 g2 g3=>a2 i k g1 g2 (b2 i k g1 g2 g3),(a3.less b2).app b3,by rw [Y7];omega,fun hw j h5 h6 h7=>?_,b6⟩
  by_cases hj:j=k
  ·subst hj
   have:=b2 _ _ (Nat.lt_succ_self _) h6 h7
   rw [a5 rfl] at this;cases this
  ·exact b5 hw j (by omega) h6 h7
noncomputable def ZY (s:Sy) (lev:Nat) (F:Nat→Nat→Bool) (C:List (List Int×Int)):Nat→Nat→Bool :=
 fun i k=>F i k&&(if i=lev+1 then dB (∀x∈C,x.2=(lev:Int)→blk s (ZR (F lev) (szn s.1)) x.1→inC s x.1 k=false) else true)
noncomputable def ZZ (s:Sy) (lev:Nat) (F:Nat→Nat→Bool) (x:List Int×Int):List Int×Int:=if dB (x.2=(lev:Int)∧blk s (ZR (F lev) (szn s.1)) x.1)=true then (x.1,(lev:Int)+1) else x
noncomputable def Zn_ (s:Sy) (lev:Nat) (F:Nat→Nat→Bool) (C:List (List Int×Int)):List (List Int×Int):=C.map (ZZ s lev F)
noncomputable def Z_ (s:Sy):Nat→(Nat→Nat→Bool)→List (List Int×Int)→(Nat→Nat→Bool)×List (List Int×Int)
 | 0,F,C=>(F,C)
 | t+1,F,C=>(ZY s (t+1) (Z_ s t F C).1 (Z_ s t F C).2,Zn_ s (t+1) (Z_ s t F C).1 (Z_ s t F C).2)
def Zo0 (A C:List (List Int×Int)):Prop:=∀x,x∈A↔x∈C
theorem Zo0.refl {A:List (List Int×Int)}:Zo0 A A:=fun _=>Iff.rfl
theorem Zo0.trans {A C D:List (List Int×Int)} (h:Zo0 A C) (h':Zo0 C D):Zo0 A D:=fun x=>(h x).trans (h' x)
theorem Zo0.symm {A C:List (List Int×Int)} (h:Zo0 A C):Zo0 C A:=fun x=>(h x).symm
theorem Zo0.app {A C:List (List Int×Int)} (h:Zo0 A C) (D:List (List Int×Int)):Zo0 (A++D) (C++D):=fun x=>by rw [Y6,Y6,h x]
theorem Zo1 {s:Sy} {lev:Nat} {F:Nat→Nat→Bool} {A C:List (List Int×Int)} (h:Zo0 A C):ZY s lev F A=ZY s lev F C:=by
 funext i k
 unfold ZY
 congr 1
 split
 ·exact ZkI ⟨fun g x hx=>g x ((h x).2 hx),fun g x hx=>g x ((h x).1 hx)⟩
 ·rfl
theorem Zo2 {s:Sy} {lev:Nat} {F:Nat→Nat→Bool} {A C:List (List Int×Int)} (h:Zo0 A C):Zo0 (Zn_ s lev F A) (Zn_ s lev F C):=fun x=>by
 unfold Zn_
 simp only [Yo]
 exact ⟨fun ⟨y,h1,h2⟩=>⟨y,(h y).1 h1,h2⟩,fun ⟨y,h1,h2⟩=>⟨y,(h y).2 h1,h2⟩⟩
theorem Zo3 {s:Sy} {F:Nat→Nat→Bool} {A C:List (List Int×Int)} (h:Zo0 A C):∀{t:Nat},(Z_ s t F A).1=(Z_ s t F C).1∧Zo0 (Z_ s t F A).2 (Z_ s t F C).2
 | 0=>⟨rfl,h⟩
 | t+1=>by
  obtain ⟨h1,h2⟩:=Zo3 h (t:=t)
  simp only [Z_]
  rw [h1]
  exact ⟨Zo1 h2,Zo2 h2⟩
theorem Zo4 {s:Sy} {lev:Nat} {F:Nat→Nat→Bool} {C:List (List Int×Int)} {i k:Nat} (h:ZY s lev F C i k=true):F i k=true:=by
 unfold ZY at h
 simp only [Y5] at h
 exact h.1
theorem Zo5 {s:Sy} {lev:Nat} {F:Nat→Nat→Bool} {C:List (List Int×Int)} {k:Nat}:ZY s lev F C (lev+1) k=true↔F (lev+1) k=true∧∀x∈C,x.2=(lev:Int)→blk s (ZR (F lev) (szn s.1)) x.1→inC s x.1 k=false:=by
 unfold ZY
 rw [if_pos rfl,Y5,ZkH]
theorem Zo6 {s:Sy} {lev:Nat} {F:Nat→Nat→Bool} {C:List (List Int×Int)} {i k:Nat} (h:i≠lev+1):ZY s lev F C i k=F i k:=by
 unfold ZY
 rw [if_neg h,Bool.and_true]
theorem Zo7 {s:Sy} {m lev:Nat} {F:Nat→Nat→Bool} {C:List (List Int×Int)} (hF:FK s m F) (hC:CK s m F C) (h1:1≤lev) (h2:lev+1<m):FK s m (ZY s lev F C)∧CK s m (ZY s lev F C) (Zn_ s lev F C):=by
 refine ⟨⟨fun k hk=>?_,fun i k hi hk g=>?_,fun i a k hi ha hk g he=>?_⟩,fun x hx=>?_⟩
 ·rw [Zo6 (by omega)];exact hF.one k hk
 ·have g0:=Zo4 g
  by_cases hl:i+1=lev+1
  ·have:i=lev:=by omega
   subst this
   refine Zo5.2 ⟨hF.up i k hi hk g0,fun x hx hxl _=>?_⟩
   exact (hC x hx).2.2 i k h1 (by omega) hk g0
  ·rw [Zo6 hl];exact hF.up i k hi hk g0
 ·have g0:=Zo4 g
  by_cases hl:i+1=lev+1
  ·have:i=lev:=by omega
   subst this
   refine Zo5.2 ⟨hF.st i a k hi ha hk g0 he,fun x hx hxl hb=>?_⟩
   have hc:=(hC x hx).2.2 i a h1 (by omega) ha g0
   have:=hb.2 (a:Int) (Zkr.2 ⟨a,ha,rfl,g0⟩) (by rw [Yv];exact hc) (k:Int) (by rw [Yv];exact he)
   rwa [Yv] at this
  ·rw [Zo6 hl];exact hF.st i a k hi ha hk g0 he
 ·obtain ⟨y,hy,rfl⟩:=Yo.1 hx
  obtain ⟨c1,c2,c3⟩:=hC y hy
  unfold ZZ
  split
  ·rename_i hb
   have hb:=ZkH.1 hb
   refine ⟨c1,⟨by dsimp only;omega,by dsimp only;omega⟩,fun i k g1 g2 g3 g4=>?_⟩
   dsimp only at g2 ⊢
   by_cases hl:i=lev+1
   ·subst hl;exact (Zo5.1 g4).2 y hy hb.1 hb.2
   ·exact c3 i k g1 (by rw [hb.1];omega) g3 (Zo4 g4)
  ·exact ⟨c1,c2,fun i k g1 g2 g3 g4=>c3 i k g1 g2 g3 (Zo4 g4)⟩
theorem Zo8 {s:Sy} {m:Nat} {F:Nat→Nat→Bool} {C:List (List Int×Int)} (hF:FK s m F) (hC:CK s m F C):∀{t:Nat},t+1<m∨t=0→FK s m (Z_ s t F C).1∧CK s m (Z_ s t F C).1 (Z_ s t F C).2∧(∀i k,(Z_ s t F C).1 i k=true→F i k=true)∧(Z_ s t F C).2.length=C.length
 | 0,_=>⟨hF,hC,fun _ _ g=>g,rfl⟩
 | t+1,ht=>by
  obtain ⟨h1,h2,h3,h4⟩:=Zo8 hF hC (t:=t) (by omega)
  obtain ⟨h5,h6⟩:=Zo7 h1 h2 (show 1≤t+1 by omega) (by omega)
  exact ⟨h5,h6,fun i k g=>h3 i k (Zo4 g),by simp only [Z_,Zn_,YF];exact h4⟩
def exF (F:Nat→Nat→Bool) (m:Nat):Nat→Nat→Bool:=fun j k=>if j=m then true else F j k
theorem Zo9 {s:Sy} {m:Nat} {F:Nat→Nat→Bool} (hF:FK s m F) (hm:1≤m):FK s (m+1) (exF F m):=by
 refine ⟨fun k hk=>?_,fun i k hi hk g=>?_,fun i a k hi ha hk g he=>?_⟩
 ·unfold exF;rw [if_neg (by omega)];exact hF.one k hk
 ·unfold exF at g ⊢
  by_cases h1:i+1=m
  ·rw [if_pos h1]
  ·rw [if_neg h1];rw [if_neg (by omega)] at g;exact hF.up i k (by omega) hk g
 ·unfold exF at g ⊢
  by_cases h1:i+1=m
  ·rw [if_pos h1]
  ·rw [if_neg h1];rw [if_neg (by omega)] at g;exact hF.st i a k (by omega) ha hk g he
theorem Zoa {s:Sy} {m:Nat} {F:Nat→Nat→Bool} {C:List (List Int×Int)} (hC:CK s m F C):CK s (m+1) (exF F m) C:=fun x hx=>by
 obtain ⟨h1,h2,h3⟩:=hC x hx
 refine ⟨h1,⟨h2.1,by omega⟩,fun i k g1 g2 g3 g4=>?_⟩
 unfold exF at g4
 rw [if_neg (by omega)] at g4
 exact h3 i k g1 g2 g3 g4
structure CR where
 safe:Bool
 X:List (List Int)
 sh:List Int
 w:List Int
 ok:Bool
inductive CI (s:Sy) (g:Nat→Bool):Nat→(Nat→Nat→Bool)→List (List Int×Int)→CR→Prop
 | stop {m:Nat} {F:Nat→Nat→Bool} {C:List (List Int×Int)}:¬m<30→CI s g m F C ⟨false,[],[],[],false⟩
 | way {m:Nat} {F F1:Nat→Nat→Bool} {C new:List (List Int×Int)} {w:List Int}:m<30→RC s g m 0 (exF F m) F1 new w→w≠[]→CI s g m F C ⟨false,frT (szn s.1) F1 (m+1),[],w,true⟩
 | safe {m:Nat} {F F1:Nat→Nat→Bool} {C new:List (List Int×Int)} {i:Nat}:m<30→RC s g m 0 (exF F m) F1 new []→alike (frT (szn s.1) (Z_ s (m - 1) F1 (C++new)).1 (m+1)) i →
   (∀j,j<i→¬alike (frT (szn s.1) (Z_ s (m - 1) F1 (C++new)).1 (m+1)) j)→CI s g m F C ⟨true,frT (szn s.1) (Z_ s (m - 1) F1 (C++new)).1 (m+1),(frT (szn s.1) (Z_ s (m - 1) F1 (C++new)).1 (m+1)).getD i [],[],true⟩
 | next {m:Nat} {F F1:Nat→Nat→Bool} {C new:List (List Int×Int)} {r:CR}:m<30→RC s g m 0 (exF F m) F1 new []→(∀j,¬alike (frT (szn s.1) (Z_ s (m - 1) F1 (C++new)).1 (m+1)) j) →
   CI s g (m+1) (Z_ s (m - 1) F1 (C++new)).1 (Z_ s (m - 1) F1 (C++new)).2 r→CI s g m F C r
theorem CI.det {s:Sy} {g:Nat→Bool} {m:Nat} {F:Nat→Nat→Bool} {A:List (List Int×Int)} {r:CR} (h:CI s g m F A r):∀{C:List (List Int×Int)} {r':CR},Zo0 A C→CI s g m F C r'→r=r':=by
 induction h with
 | stop h1 =>
  intro C r' hs h'
  cases h' with
  | stop _=>rfl
  | way h2=>exact absurd h2 h1
  | safe h2=>exact absurd h2 h1
  | next h2=>exact absurd h2 h1
 | way h1 h2 h3 =>
  intro C r' hs h'
  cases h' with
  | stop h4=>exact absurd h1 h4
  | way _ g2 _=>obtain ⟨a1,a2,a3⟩:=h2.det g2;subst a1;subst a3;rfl
  | safe _ g2=>exact absurd (h2.det g2).2.2 h3
  | next _ g2=>exact absurd (h2.det g2).2.2 h3
 | @safe m F F1 A new i h1 h2 h3 h4 =>
  intro C r' hs h'
  have hp:=fun (G:Nat→Nat→Bool) (l:List (List Int×Int))=>Zo3 (s:=s) (F:=G) (t:=m - 1) (hs.app l)
  cases h' with
  | stop h5=>exact absurd h1 h5
  | way _ g2 g3=>exact absurd (h2.det g2).2.2.symm g3
  | safe _ g2 g3 g4 =>
   obtain ⟨a1,a2,-⟩:=h2.det g2
   subst a1;subst a2
   rename_i j _
   have e:=(hp F1 new).1
   rw [e] at h3 h4
   rw [e]
   have:i=j:=by
    rcases Nat.lt_trichotomy i j with q | q | q
    ·exact absurd h3 (g4 i q)
    ·exact q
    ·exact absurd g3 (h4 j q)
   rw [this]
  | next _ g2 g3 =>
   obtain ⟨a1,a2,-⟩:=h2.det g2
   subst a1;subst a2
   rw [(hp F1 new).1] at h3
   exact absurd h3 (g3 _)
 | @next m F F1 A new r h1 h2 h3 _ ih =>
  intro C r' hs h'
  have hp:=fun (G:Nat→Nat→Bool) (l:List (List Int×Int))=>Zo3 (s:=s) (F:=G) (t:=m - 1) (hs.app l)
  cases h' with
  | stop h5=>exact absurd h1 h5
  | way _ g2 g3=>exact absurd (h2.det g2).2.2.symm g3
  | safe _ g2 g3 g4 =>
   obtain ⟨a1,a2,-⟩:=h2.det g2
   subst a1;subst a2
   exact absurd g3 (by rw [←(hp F1 new).1];exact h3 _)
  | next _ g2 g3 g4 =>
   obtain ⟨a1,a2,-⟩:=h2.det g2
   subst a1;subst a2
   refine ih (hp F1 new).2 ?_
   rw [(hp F1 new).1]
   exact g4
theorem Zob {n m i:Nat} {F:Nat→Nat→Bool} (h:i<m):(frT n F m).getD i []=ZR (F i) n:=ZO h
theorem Zoc {n m:Nat} {F:Nat→Nat→Bool}:(frT n F m).length=m:=ZN
theorem CI.good {s:Sy} (hv:valid s) {g:Nat→Bool} {m:Nat} {F:Nat→Nat→Bool} {C:List (List Int×Int)} {r:CR} (h:CI s g m F C r):1≤m→FK s m F→CK s m F C→(∀i k,i<m→k<szn s.1→F i k=true→g k=true) →
  (r.ok=true→r.safe=true→fvs s r.X∧clo s r.sh∧(∀x∈r.sh,g x.toNat=true)∧r.w=[])∧(r.ok=true→r.safe=false→r.sh=[]∧r.X.length≤30∧(∀x∈r.X,x.length≤400)∧∃D st,D≤30∧st<szn s.1∧g st=false∧IsW s D st r.w)∧(r.ok=false→r=⟨false,[],[],[],false⟩):=by
 have hz:=ZP hv
 induction h with
 | stop _=>intro _ _ _ _;exact ⟨fun h=>(by cases h),fun h=>(by cases h),fun _=>rfl⟩
 | way h1 h2 h3 =>
  intro hm hF hC hg
  obtain ⟨a1,a2,a3,a4,a5,a6⟩:=h2.keep hv (Zo9 hF hm)
  obtain ⟨D,st,b1,b2,b3,b4⟩:=a6 h3
  refine ⟨fun _ h=>(by cases h),fun _ _=>⟨rfl,by rw [Zoc];omega,fun x hx=>?_,D,st,by omega,b2,b3,b4⟩,fun h=>(by cases h)⟩
  simp only [frT,tab,Yo,List.mem_range] at hx
  obtain ⟨i,-,rfl⟩:=hx
  exact Nat.le_trans ZS (by omega)
 | @safe m F F1 C new i h1 h2 h3 h4 =>
  intro hm hF hC hg
  obtain ⟨a1,a2,a3,a4,a5,a6⟩:=h2.keep hv (Zo9 hF hm)
  have hC2:CK s (m+1) F1 (C++new):=((Zoa hC).less a2).app a3
  obtain ⟨b1,b2,b3,-⟩:=Zo8 a1 hC2 (t:=m - 1) (by omega)
  generalize (Z_ s (m - 1) F1 (C++new)).1=G at b1 b2 b3 h3 h4
  have hg2:∀i k,i<m+1→k<szn s.1→G i k=true→g k=true:=fun i k hi hk hh=>by
   have c1:=b3 i k hh
   by_cases he:i=m
   ·subst he;exact a5 rfl k (Yf _) hk c1
   ·have:=a2 i k hi hk c1
    unfold exF at this
    rw [if_neg he] at this
    exact hg i k (by omega) hk this
  have hX0:(frT (szn s.1) G (m+1)).getD 0 []=[(fn0 s:Int)]:=by
   rw [Zob (by omega),Zks (q:=fun k=>k==fn0 s) fun k hk=>by
    cases hc:G 0 k with
    | true=>rw [(b1.one k hk).1 hc];simp
    | false =>
     have:k≠fn0 s:=fun e=>by rw [(b1.one k hk).2 e] at hc;cases hc
     simp [this],Zl5,if_pos (Znz hv).2]
  have hfv:fvs s (frT (szn s.1) G (m+1)):=by
   refine ⟨hv,⟨by rw [Zoc];omega,by rw [Zoc];omega⟩,hX0,fun j hj=>?_⟩
   rw [Zoc] at hj
   unfold fvC
   rw [Zob (by omega),Zob (by omega)]
   have hset:Zln s (ZR (G j) (szn s.1)):=⟨hv,by rw [←hz.1];exact ZkR (Yh _)⟩
   refine ⟨ZkR (Yh _),fun x hx=>?_,fun x hx=>?_⟩
   ·obtain ⟨k,c1,rfl,c3⟩:=Zkr.1 hx
    exact Zkr.2 ⟨k,c1,rfl,b1.up j k hj c1 c3⟩
   ·obtain ⟨k,c1,rfl,y,c2,c3⟩:=(ZmD hset).1 hx
    obtain ⟨a,d1,rfl,d3⟩:=Zkr.1 c2
    rw [Yv] at c3
    exact Zkr.2 ⟨k,c1,rfl,b1.st j a k hj d1 c1 d3 c3⟩
  refine ⟨fun _ _=>⟨hfv,ZnP hfv h3,fun x hx=>?_,rfl⟩,fun _ h=>(by cases h),fun h=>(by cases h)⟩
  have hi:=h3.2.1
  rw [Zoc] at hi
  dsimp only at hx
  rw [Zob (by omega)] at hx
  obtain ⟨k,c1,rfl,c3⟩:=Zkr.1 hx
  rw [Yv]
  exact hg2 i k (by omega) c1 c3
 | @next m F F1 C new r h1 h2 h3 _ ih =>
  intro hm hF hC hg
  obtain ⟨a1,a2,a3,a4,a5,a6⟩:=h2.keep hv (Zo9 hF hm)
  have hC2:CK s (m+1) F1 (C++new):=((Zoa hC).less a2).app a3
  obtain ⟨b1,b2,b3,-⟩:=Zo8 a1 hC2 (t:=m - 1) (by omega)
  refine ih (by omega) b1 b2 fun i k hi hk hh=>?_
  have c1:=b3 i k hh
  by_cases he:i=m
  ·subst he;exact a5 rfl k (Yf _) hk c1
  ·have:=a2 i k hi hk c1
   unfold exF at this
   rw [if_neg he] at this
   exact hg i k (by omega) hk this
theorem Zod {q:Nat→Bool} {a b:Nat} (hb:b<a) (hq:q b=true):∀{n i:Nat},i<(ZR q n).length→(ZR q n).getD i 0=(a:Int)→(b:Int)∈(ZR q n).take i
 | 0,i,hi,_=>by simp [ZR] at hi
 | n+1,i,hi,he=>by
  by_cases hn:q n=true
  ·rw [Zkp hn] at hi he ⊢
   rw [Y7,Yj] at hi
   by_cases h1:i<(ZR q n).length
   ·rw [ZnR h1] at he
    rw [List.take_append_of_le_length (by omega)]
    exact Zod hb hq h1 he
   ·have h2:i=(ZR q n).length:=by omega
    rw [h2,ZnS] at he
    rw [h2,List.take_append_of_le_length (Yh _),Yu]
    exact Zkr.2 ⟨b,by omega,rfl,hq⟩
  ·rw [Zkq hn] at hi he ⊢
   exact Zod hb hq hi he
theorem RB.wlen {s:Sy} {q:Bool} {l:Nat} {F:Nat→Nat→Bool} {st:Nat} {F':Nat→Nat→Bool} {new:List (List Int×Int)} {w:List Int} (h:RB s q l F st F' new w):w.length≤l+1:=by
 induction h with
 | first=>simp
 | go _ _ ih=>exact ih
 | out _=>simp
 | drop _ _=>simp
 | way _ _ _ _ ih=>rw [Y7,Yj];omega
 | again _ _ _ _ _ ih=>exact ih
end Go.Proofs.YtdgpohclhppodaaGreat
namespace Go.Proofs.YtdgpohclhppodaaGreat
open Go Go.Sm Go.Sm.Q
theorem FI.more {s:Sy} {m:Nat} {F F':Nat→Nat→Bool} {cb:List (List Int)} {lv:List Int} {new:List (List Int×Int)} (h:FI s m F cb lv) (hF:FK s m F') (hC:CK s m F' new) (hb:new.length+muP (szn s.1) F' m≤muP (szn s.1) F m) :
  FI s m F' (cb++new.map (·.1)) (lv++new.map (·.2)):=by
 refine ⟨hF.one,by simp [h.len],fun c hc=>?_,fun x hx=>?_,?_,h.m1,h.m2⟩
 ·rcases Y6.1 hc with hc | hc
  ·exact h.cub c hc
  ·obtain ⟨y,hy,rfl⟩:=Yo.1 hc
   exact (hC y hy).1
 ·rcases Y6.1 hx with hx | hx
  ·exact h.lev x hx
  ·obtain ⟨y,hy,rfl⟩:=Yo.1 hx
   exact (hC y hy).2.1
 ·rw [Y7,YF]
  have:=h.bnd
  omega
theorem Zoe (s:Sy) (h:valid s) (fr cb:List (List Int)) (lv way:List Int) (F:Nat→Nat→Bool) (l st:Nat) {Q:List AV→Prop}
  (hQ:∀x:Int,(x<0∧∀a,a<szn s.1→F l a=true→(st:Int)∉(steps s).getD a [])∨(∃a:Nat,x=(a:Int)∧Pd s F l st a)→Q [⟨I,x⟩]) :
  mc.C Zd7 [⟨L (L I),steps s⟩,⟨L (L I),fr⟩,⟨L (L I),cb⟩,⟨L I,lv⟩,⟨L I,way⟩,⟨L I,ZR (F l) (szn s.1)⟩,⟨I,(st:Int)⟩] Q:=by
 have hz:=ZP h
 have ht:=Zlt h
 have hTl:=ht.1.1
 have hl:(ZR (F l) (szn s.1)).length≤szn s.1:=ZS
 have hmem:∀x:Int,x∈ZR (F l) (szn s.1)↔∃a,a<szn s.1∧x=(a:Int)∧F l a=true:=fun x=>Zkr
 have hbef:∀a b i:Nat,b<a→F l b=true→i<(ZR (F l) (szn s.1)).length→(ZR (F l) (szn s.1)).getD i 0=(a:Int)→(b:Int)∈(ZR (F l) (szn s.1)).take i:=fun a b i h1 h2 h3 h4=>Zod h1 h2 h3 h4
 refine mc.c_of ZhR ?_
 simp+contextual(maxSteps:=9^6)(disch:=omega)only[↓YR,↓den,↓Z0,YS,O1.d,O2.d,O3.d,cmI,arI,Z1,Z2,seval,ZF,ZG,Zfv]
 generalize ZR (F l) (szn s.1)=l' at hl hmem hbef
 refine mc.lp_for Unit (fun i _=>[⟨L I,l'⟩,⟨I,(st:Int)⟩,⟨I,(i:Int)⟩,⟨L (L I),steps s⟩,⟨L (L I),fr⟩,⟨L (L I),cb⟩,⟨L I,lv⟩,⟨L I,way⟩]) (fun i _=>∀x∈l'.take i,(st:Int)∉(steps s).getD x.toNat []) l'.length 0 () _ rfl (Yf _) (fun x hx=>by simp at hx) ?_ ?_
 ·rintro i _ hi hI
  obtain ⟨a,h1,h2,h3⟩:=(hmem _).1 (ZJ (d:=0) hi)
  have hr:((steps s).getD a []).length≤8:=ht.2.2 _ (ZJ (by omega))
  by_cases hh:(st:Int)∈(steps s).getD a []
  ·simp+contextual(maxSteps:=9^6)(disch:=omega)only[↓YR,↓den,↓Z0,YS,O1.d,O2.d,O3.d,cmI,arI,Z1,Z2,seval,ZF,ZG,h2,hTl,ZlA _ _ (show ((steps s).getD a []).length≤1048576 by omega),ZT hh]
   refine hQ _ (.inr ⟨a,rfl,⟨h1,h3,hh⟩,fun b hb hFb=>?_⟩)
   have:=hI _ (hbef a b i hb hFb hi h2)
   rwa [Yv] at this
  ·simp+contextual(maxSteps:=9^6)(disch:=omega)only[↓YR,↓den,↓Z0,YS,O1.d,O2.d,O3.d,cmI,arI,Z1,Z2,seval,ZF,ZG,h2,hTl,ZlA _ _ (show ((steps s).getD a []).length≤1048576 by omega),ZU hh]
   intro x hx
   rcases (ZkS hi).1 hx with h4 | h4
   ·exact hI x h4
   ·rw [h4,h2];exact hh
 ·rintro _ hI
  rw [Yu] at hI
  simp+contextual(maxSteps:=9^6)(disch:=omega)only[↓YR,↓den,↓Z0,YS,O1.d,O2.d,O3.d,cmI,arI,Z1,Z2,seval,ZF,ZG,]
  exact hQ _ (.inl ⟨by omega,fun a ha hqa=>hI (a:Int) ((hmem _).2 ⟨a,ha,rfl,hqa⟩)⟩)
theorem Zof (n m:Nat) (F:Nat→Nat→Bool) (T cb:List (List Int)) (lv way:List Int) (g:Nat→Bool) (hm2:m+1≤40) (hn:n≤400) {Q:List AV→Prop}
  (hQ:∀x:Int,(x<0∧∀a,a<n→F m a=true→g a=true)∨(∃a:Nat,a<n∧x=(a:Int)∧F m a=true∧g a=false∧∀b,b<a→F m b=true→g b=true)→Q [⟨I,x⟩]) :
  mc.C Zd5 [⟨L (L I),T⟩,⟨L (L I),frT n F (m+1)⟩,⟨L (L I),cb⟩,⟨L I,lv⟩,⟨L I,way⟩,⟨L B,tab g n⟩] Q:=by
 have hlen:(frT n F (m+1)).length=m+1:=ZN
 have hgi:(frT n F (m+1)).getD m []=ZR (F m) n:=ZO (by omega)
 have hl:(ZR (F m) n).length≤n:=ZS
 have hmem:∀x:Int,x∈ZR (F m) n↔∃a,a<n∧x=(a:Int)∧F m a=true:=fun x=>Zkr
 have hbef:∀a b i:Nat,b<a→F m b=true→i<(ZR (F m) n).length→(ZR (F m) n).getD i 0=(a:Int)→(b:Int)∈(ZR (F m) n).take i:=fun a b i h1 h2 h3 h4=>Zod h1 h2 h3 h4
 have hm3:(((m+1:Nat):Int) - 1).toNat=m:=by omega
 refine mc.c_of ZhP ?_
 obtain ⟨M,hM⟩:∃M,m+1=M:=⟨_,rfl⟩
 rw [hM] at hlen hgi hm3 ⊢
 simp+contextual(maxSteps:=9^6)(disch:=omega)only[↓YR,↓den,↓Z0,YS,O1.d,O2.d,O3.d,cmI,arI,Z1,Z2,seval,ZF,ZG,Zft,hlen,hgi,hm3]
 generalize ZR (F m) n=l at hl hmem hbef
 refine mc.lp_for Unit (fun i _=>[⟨L B,tab g n⟩,⟨L I,l⟩,⟨I,(i:Int)⟩]) (fun i _=>∀x∈l.take i,g x.toNat=true) l.length 0 () _ rfl (Yf _) (fun x hx=>by simp at hx) ?_ ?_
 ·rintro i _ hi hI
  obtain ⟨a,h1,h2,h3⟩:=(hmem _).1 (ZJ (d:=0) hi)
  by_cases hg:g a=true
  ·simp+contextual(maxSteps:=9^6)(disch:=omega)only[↓YR,↓den,↓Z0,YS,O1.d,O2.d,O3.d,cmI,arI,Z1,Z2,seval,ZF,ZG,h2,ZN,ZO h1,hg]
   intro x hx
   rcases (ZkS hi).1 hx with h4 | h4
   ·exact hI x h4
   ·rw [h4,h2,Yv];exact hg
  ·simp+contextual(maxSteps:=9^6)(disch:=omega)only[↓YR,↓den,↓Z0,YS,O1.d,O2.d,O3.d,cmI,arI,Z1,Z2,seval,ZF,ZG,h2,ZN,ZO h1,hg]
   refine hQ _ (.inr ⟨a,h1,rfl,h3,by simpa using hg,fun b hb hFb=>?_⟩)
   have:=hI _ (hbef a b i hb hFb hi h2)
   rwa [Yv] at this
 ·rintro _ hI
  rw [Yu] at hI
  simp+contextual(maxSteps:=9^6)(disch:=omega)only[↓YR,↓den,↓Z0,YS,O1.d,O2.d,O3.d,cmI,arI,Z1,Z2,seval,ZF,ZG,]
  refine hQ _ (.inl ⟨by omega,fun a ha hFa=>?_⟩)
  have:=hI (a:Int) ((hmem _).2 ⟨a,ha,rfl,hFa⟩)
  rwa [Yv] at this
theorem Zog (s:Sy) (hs:ZK s) (h:valid s) (m:Nat):∀(l:Nat) (F:Nat→Nat→Bool) (cb:List (List Int)) (lv:List Int) (st:Nat),l<m→FI s m F cb lv→FK s m F→st<szn s.1→(l=0→st=fn0 s)→∀{Q:List AV→Prop},
  (∀F' new w,RB s true l F st F' new w→Q [⟨L (L I),steps s⟩,⟨L (L I),frT (szn s.1) F' m⟩,⟨L (L I),cb++new.map (·.1)⟩,⟨L I,lv++new.map (·.2)⟩,⟨L I,w⟩]) →
  mc.C Zdn [⟨L V3,s.1⟩,⟨L TR,s.2⟩,⟨L (L I),steps s⟩,⟨L (L I),frT (szn s.1) F m⟩,⟨L (L I),cb⟩,⟨L I,lv⟩,⟨L I,[]⟩,⟨I,(st:Int)⟩,⟨I,(l:Int)⟩] Q:=by
 have hz:=ZP h
 obtain ⟨hfe,hfn⟩:=Znz h
 intro l
 induction l with
 | zero =>
  intro F cb lv st hlm hF hK hst h0 Q hQ
  refine mc.c_of Zi6 ?_
  have hst0:=h0 rfl
  simp+contextual(maxSteps:=9^6)(disch:=omega)only[↓YR,↓den,↓Z0,YS,O1.d,O2.d,O3.d,cmI,arI,Z1,Z2,seval,ZF,ZG,ZfL,ZjZ s hs h,Zk3 s _ h.1.2 h.2.2.1 (ZjW h.2.2.1),hfe,hst0]
  have:=hQ F [] [(fn0 s:Int)] (by rw [hst0];exact .first)
  simpa using this
 | succ l ih =>
  intro F cb lv st hlm hF hK hst h0 Q hQ
  refine mc.c_of Zi6 ?_
  by_cases hsf:st=fn0 s
  ·simp+contextual(maxSteps:=9^6)(disch:=omega)only[↓YR,↓den,↓Z0,YS,O1.d,O2.d,O3.d,cmI,arI,Z1,Z2,seval,ZF,ZG,ZfL,ZjZ s hs h,Zk3 s _ h.1.2 h.2.2.1 (ZjW h.2.2.1),hfe,hsf]
   have:=hQ F [] [(fn0 s:Int)] (by rw [hsf];exact .first)
   simpa using this
  ·obtain ⟨lx,hL⟩:∃lx,l+1=lx:=⟨_,rfl⟩
   have hLi:(lx:Int) - 1=(l:Int):=by omega
   have hsfi:¬(st:Int)=(fn0 s:Int):=by omega
   rw [hL] at hlm hQ ⊢
   simp+contextual(maxSteps:=9^6)(disch:=omega)only[↓YR,↓den,↓Z0,YS,O1.d,O2.d,O3.d,cmI,arI,Z1,Z2,seval,ZF,ZG,ZfL,ZjZ s hs h,Zk3 s _ h.1.2 h.2.2.1 (ZjW h.2.2.1),hfe,hsf]
   refine mc.lp_inv (fun j us=>∃G nw,us=[⟨I,(st:Int)⟩,⟨I,(lx:Int)⟩,⟨L V3,s.1⟩,⟨L TR,s.2⟩,⟨L (L I),steps s⟩,⟨L (L I),frT (szn s.1) G m⟩,⟨L (L I),cb++nw.map (·.1)⟩,⟨L I,lv++nw.map (·.2)⟩,⟨L I,[]⟩]∧FI s m G (cb++nw.map (·.1)) (lv++nw.map (·.2))∧FK s m G ∧
     (∀F' new w,RB s false lx G st F' new w→RB s false lx F st F' (nw++new) w)∧j=muP (szn s.1) G m)
    _ _ ⟨F,[],by simp,by simpa using hF,hK,fun _ _ _ g=>g,rfl⟩ ?_
   rintro j us ⟨G,nw,rfl,hG,hKG,hcont,rfl⟩
   have hlen:(frT (szn s.1) G m).length=m:=ZN
   have hg1:(frT (szn s.1) G m).getD lx []=ZR (G lx) (szn s.1):=ZO (by omega)
   have hg0:(frT (szn s.1) G m).getD l []=ZR (G l) (szn s.1):=ZO (by omega)
   have hul:(ZR (G lx) (szn s.1)).length≤szn s.1:=ZS
   have hdu:dB ((st:Int)∈ZR (G lx) (szn s.1))=G lx st:=by rw [ZkZ];simp [hst]
   have hm2:=hG.m2
   have fin:∀F' new w,RB s false lx G st F' new w→Q [⟨L (L I),steps s⟩,⟨L (L I),frT (szn s.1) F' m⟩,⟨L (L I),(cb++nw.map (·.1))++new.map (·.1)⟩,⟨L I,(lv++nw.map (·.2))++new.map (·.2)⟩,⟨L I,w⟩]:=fun F' new w hrb=>by
    have:=hQ F' (nw++new) w (.go hsf (hcont F' new w hrb))
    rw [YK,YK,←Ym,←Ym] at this
    exact this
   obtain ⟨cb',hcb⟩:∃cb',cb++nw.map (·.1)=cb':=⟨_,rfl⟩
   obtain ⟨lv',hlv⟩:∃lv',lv++nw.map (·.2)=lv':=⟨_,rfl⟩
   rw [hcb,hlv] at hG fin
   have hbd:=hG.bnd
   have hle:=hG.len
   rw [hcb,hlv]
   by_cases hin:G lx st=true
   ·simp+contextual(maxSteps:=9^6)(disch:=omega)only[↓YR,↓den,↓Z0,YS,O1.d,O2.d,O3.d,cmI,arI,Z1,Z2,seval,ZF,ZG,hlen,hg1,ZlA _ _ (show (ZR (G lx) (szn s.1)).length≤1048576 by omega),hdu,hin,hg0,hLi]
    refine Zoe s h _ cb' lv' [] G l st fun x hx=>?_
    rcases hx with ⟨hx,hno⟩ | ⟨a,rfl,hpd⟩
    ·have hlG:ZW (ZR (G l) (szn s.1)) (szn s.1):=ZkR (Yh _)
     have hblk:=ZT (ZnY h hst hsf hno)
     have hgl:((gen s (ZR (G l) (szn s.1)) st).length:Int)=bc s.1:=Zm8
     have hrb:RB s false lx G st (drp s (gen s (ZR (G l) (szn s.1)) st) (lx+1) G) [(gen s (ZR (G l) (szn s.1)) st,(lx:Int))] []:=by
      have:=RB.drop (s:=s) (l:=l) (F:=G) (st:=st) (by rw [hL];exact hin) hno
      rw [hL] at this;exact this
     have:=fin _ _ _ hrb
     have hWd:=fun Q=>Zma s (ZR (G l) (szn s.1)) st hs h hst hlG hblk Q
     generalize gen s (ZR (G l) (szn s.1)) st=c at hgl hWd this
     simp+contextual(maxSteps:=9^6)(disch:=omega)only[↓YR,↓den,↓Z0,YS,O1.d,O2.d,O3.d,cmI,arI,Z1,Z2,seval,ZF,ZG,hx,hlen,hg0,hLi,hWd,ZnE s hs h m G (steps s) cb' lv' [] c lx hgl (by omega) (by omega) (by omega) (by omega) (by omega)]
     exact this
    ·simp+contextual(maxSteps:=9^6)(disch:=omega)only[↓YR,↓den,↓Z0,YS,O1.d,O2.d,O3.d,cmI,arI,Z1,Z2,seval,ZF,ZG,hLi]
     refine ih G cb' lv' a (by omega) hG hKG hpd.1.1 (fun hl0=>?_) fun G' new w hrb=>?_
     ·subst hl0;exact (hG.one a hpd.1.1).1 hpd.1.2.1
     ·obtain ⟨k1,k2,k3,k4,k5,k6⟩:=hrb.keep h (m:=m) (by omega) hpd.1.1 (fun g=>by cases g) hKG
      have hwl:=hrb.wlen
      by_cases hw:w=[]
      ·subst hw
       simp+contextual(maxSteps:=9^6)(disch:=omega)only[↓YR,↓den,↓Z0,YS,O1.d,O2.d,O3.d,cmI,arI,Z1,Z2,seval,ZF,ZG,List.length_nil]
       have hno:=k5 rfl
       refine ⟨_,ZnB (l:=l) hpd.1.1 hpd.1.2.1 (by rw [hno];simp) (by omega) k2,G',nw++new,?_,?_,k1,fun F' new' w hr=>?_,rfl⟩
       ·rw [←hcb,←hlv];simp
       ·have:=hG.more k1 k3 k4
        rw [←hcb,←hlv] at this
        simpa using this
       ·have:=hcont F' (new++new') w (by have:=RB.again (new1:=new) (new2:=new') (by rw [hL];exact hin) hpd hrb (by rw [hL];exact hr);rw [hL] at this;exact this)
        rw [Ym];exact this
      ·have hwp:=YJ.2 hw
       simp+contextual(maxSteps:=9^6)(disch:=omega)only[↓YR,↓den,↓Z0,YS,O1.d,O2.d,O3.d,cmI,arI,Z1,Z2,seval,ZF,ZG,hwp]
       have hrb2:RB s false lx G st G' new (w++[(st:Int)]):=by
        have:=RB.way (by rw [hL];exact hin) hpd hrb hw
        rw [hL] at this;exact this
       exact fin _ _ _ hrb2
   ·have hin0:G lx st=false:=by simpa using hin
    simp+contextual(maxSteps:=9^6)(disch:=omega)only[↓YR,↓den,↓Z0,YS,O1.d,O2.d,O3.d,cmI,arI,Z1,Z2,seval,ZF,ZG,hlen,hg1,ZlA _ _ (show (ZR (G lx) (szn s.1)).length≤1048576 by omega),hdu,hin]
    have:=fin _ _ _ (.out hin0)
    simpa using this
theorem RC.unskip {s:Sy} {g:Nat→Bool} {L:Nat} {F F':Nat→Nat→Bool} {new:List (List Int×Int)} {w:List Int} {k:Nat}:∀{d:Nat},k+d≤szn s.1→(∀j,k≤j→j<k+d→F L j=true→g j=true)→RC s g L k F F' new w→RC s g L (k+d) F F' new w
 | 0,_,_,h=>h
 | d+1,hd,hj,h=>by
  have h1:=RC.unskip (d:=d) (by omega) (fun j h1 h2=>hj j h1 (by omega)) h
  cases h1 with
  | done h2=>omega
  | skip _ _ h2=>exact h2
  | way _ h2 h3=>rw [hj (k+d) (by omega) (by omega) h2] at h3;cases h3
  | next _ h2 h3=>rw [hj (k+d) (by omega) (by omega) h2] at h3;cases h3
theorem map_fst_push {s:Sy} {lev:Nat} {F:Nat→Nat→Bool} {C:List (List Int×Int)}:(C.map (ZZ s lev F)).map (·.1)=C.map (·.1):=by
 rw [List.map_map]
 refine Ys fun x _=>?_
 simp only [Function.comp,ZZ]
 split<;>rfl
theorem Zoh {C:List (List Int×Int)} {k:Nat} (hk:k<C.length):(C.map (·.1)).getD k []=(C.getD k ([],0)).1:=by
 simp [Y8,hk]
theorem set_mid {α:Type} {l m:List α} {x y:α} {k:Nat} (hk:l.length=k):(l++x::m).set k y=l++y::m:=by
 rw [List.set_append_right _ _ (by omega),hk,Nat.sub_self];rfl
theorem Zoi {α:Type} {l m:List α} {x d:α} {k:Nat} (hk:l.length=k):(l++x::m).getD k d=x:=by
 rw [Y8,Yt (by omega),hk,Nat.sub_self];rfl
theorem Zoj {α:Type} {l:List α} {k:Nat} {d:α} (hk:k<l.length):l.drop k=l.getD k d::l.drop (k+1):=by
 rw [getD_lt hk]
 exact List.drop_eq_getElem_cons hk
theorem Zok {α:Type} {l:List α} {k:Nat} {d:α} (hk:k<l.length):l.take (k+1)=l.take k++[l.getD k d]:=by
 rw [getD_lt hk]
 exact List.take_succ_eq_append_getElem hk
theorem Zol {s:Sy} {lev:Nat} {G:Nat→Nat→Bool} {C:List (List Int×Int)} {x:List Int×Int} {i k:Nat}:ZY s lev G (C++[x]) i k=(ZY s lev G C i k&&(if i=lev+1∧x.2=(lev:Int)∧dB (blk s (ZR (G lev) (szn s.1)) x.1)=true then !inC s x.1 k else true)):=by
 by_cases hi:i=lev+1
 ·subst hi
  rw [Bool.eq_iff_iff,Zo5,Y5,Zo5]
  have hm:(∀y∈C++[x],y.2=(lev:Int)→blk s (ZR (G lev) (szn s.1)) y.1→inC s y.1 k=false)↔(∀y∈C,y.2=(lev:Int)→blk s (ZR (G lev) (szn s.1)) y.1→inC s y.1 k=false)∧(x.2=(lev:Int)→blk s (ZR (G lev) (szn s.1)) x.1→inC s x.1 k=false):=by
   constructor
   ·exact fun h=>⟨fun y hy=>h y (Y3 _ hy),h x (Y0 _ (Y1.2 rfl))⟩
   ·rintro ⟨h1,h2⟩ y hy
    rcases Y6.1 hy with hy | hy
    ·exact h1 y hy
    ·rw [Y1.1 hy];exact h2
  rw [hm,and_assoc]
  refine and_congr_right fun _=>and_congr_right fun _=>?_
  by_cases c:x.2=(lev:Int)∧dB (blk s (ZR (G lev) (szn s.1)) x.1)=true
  ·rw [if_pos ⟨rfl,c⟩,Yr]
   exact ⟨fun h=>h c.1 (ZkH.1 c.2),fun h _ _=>h⟩
  ·rw [if_neg fun h=>c h.2]
   exact ⟨fun _=>rfl,fun _ h1 h2=>absurd ⟨h1,ZT h2⟩ c⟩
 ·rw [Zo6 hi,Zo6 hi,if_neg fun h=>hi h.1,Bool.and_true]
theorem Zom {s:Sy} {lev:Nat} {G:Nat→Nat→Bool}:ZY s lev G []=G:=by
 funext i k
 by_cases hi:i=lev+1
 ·subst hi
  rw [Bool.eq_iff_iff,Zo5]
  exact ⟨fun h=>h.1,fun h=>⟨h,fun x hx=>by cases hx⟩⟩
 ·exact Zo6 hi
theorem Zon (s:Sy) (hs:ZK s) (h:valid s) (M:Nat) (F:Nat→Nat→Bool) (cb:List (List Int)) (lv:List Int) (g:Nat→Bool) (hF:FI s (M+1) F cb lv) (hK:FK s (M+1) F) {Q:List AV→Prop}
  (hQ:∀F' new w,RC s g M 0 F F' new w→Q [⟨L (L I),steps s⟩,⟨L (L I),frT (szn s.1) F' (M+1)⟩,⟨L (L I),cb++new.map (·.1)⟩,⟨L I,lv++new.map (·.2)⟩,⟨L I,w⟩]) :
  mc.C Zdo [⟨L V3,s.1⟩,⟨L TR,s.2⟩,⟨L (L I),steps s⟩,⟨L (L I),frT (szn s.1) F (M+1)⟩,⟨L (L I),cb⟩,⟨L I,lv⟩,⟨L I,[]⟩,⟨L B,tab g (szn s.1)⟩] Q:=by
 have hz:=ZP h
 have hm2:=hF.m2
 refine mc.c_of Zi7 ?_
 simp+contextual(maxSteps:=9^6)(disch:=omega)only[↓YR,↓den,↓Z0,YS,O1.d,O2.d,O3.d,cmI,arI,Z1,Z2,seval,ZF,ZG,↓ZH,ZfM]
 refine mc.lp_inv (fun j us=>∃G nw w,us=[⟨L B,tab g (szn s.1)⟩,⟨L V3,s.1⟩,⟨L TR,s.2⟩,⟨L (L I),steps s⟩,⟨L (L I),frT (szn s.1) G (M+1)⟩,⟨L (L I),cb++nw.map (·.1)⟩,⟨L I,lv++nw.map (·.2)⟩,⟨L I,w⟩] ∧
   (w=[]∧FI s (M+1) G (cb++nw.map (·.1)) (lv++nw.map (·.2))∧FK s (M+1) G∧(∀F' new w,RC s g M 0 G F' new w→RC s g M 0 F F' (nw++new) w)∨w≠[]∧RC s g M 0 F G nw w)∧j=if w=[] then muP (szn s.1) G (M+1)+1 else 0)
  _ _ ⟨F,[],[],by simp,.inl ⟨rfl,by simpa using hF,hK,fun _ _ _ g=>g⟩,rfl⟩ ?_
 rintro j us ⟨G,nw,w,rfl,hst,rfl⟩
 obtain ⟨cb',hcb⟩:∃cb',cb++nw.map (·.1)=cb':=⟨_,rfl⟩
 obtain ⟨lv',hlv⟩:∃lv',lv++nw.map (·.2)=lv':=⟨_,rfl⟩
 obtain ⟨outs,hE,x,rfl,hx⟩:=Zof (szn s.1) M G (steps s) cb' lv' w g (by omega) hz.2.2 (Q:=fun o=>∃x:Int,o=[⟨I,x⟩]∧((x<0∧∀a,a<szn s.1→G M a=true→g a=true)∨(∃a:Nat,a<szn s.1∧x=(a:Int)∧G M a=true∧g a=false∧∀b,b<a→G M b=true→g b=true))) fun x hx=>⟨x,rfl,hx⟩
 have hBad:=fun (Q:List AV→Prop)=>Mc.Ends.c (Q:=Q) hE
 rw [hcb,hlv]
 have fin:∀F' w',RC s g M 0 F F' nw w'→Q [⟨L (L I),steps s⟩,⟨L (L I),frT (szn s.1) F' (M+1)⟩,⟨L (L I),cb'⟩,⟨L I,lv'⟩,⟨L I,w'⟩]:=fun F' w' hrc=>by
  have:=hQ F' nw w' hrc
  rw [hcb,hlv] at this;exact this
 rcases hx with ⟨hx,hno⟩ | ⟨a,ha,rfl,hGa,hga,hbe⟩
 ·have hrc:RC s g M 0 F G nw w:=by
   rcases hst with ⟨rfl,-,-,hc⟩ | ⟨-,hr⟩
   ·have:=hc G [] [] (RC.skips (k:=0) (d:=szn s.1) (by omega) (fun j _ h2=>hno j (by omega)) (.done (by omega)))
    rwa [Yx] at this
   ·exact hr
  simp+contextual(maxSteps:=9^6)(disch:=omega)only[↓YR,↓den,↓Z0,YS,O1.d,O2.d,O3.d,cmI,arI,Z1,Z2,seval,ZF,ZG,↓ZH,hBad,hx]
  exact fin G w hrc
 ·rcases hst with ⟨rfl,hG,hKG,hc⟩ | ⟨hne,hr⟩
  ·rw [hcb,hlv] at hG
   have hlen:(frT (szn s.1) G (M+1)).length=M+1:=ZN
   have hmi:((M+1:Nat):Int) - 1=(M:Int):=by omega
   obtain ⟨M1,hM1⟩:∃M1,M+1=M1:=⟨_,rfl⟩
   have hblk:=fun {Q:List AV→Prop}=>Zog s hs h (M+1) M G cb' lv' a (by omega) hG hKG ha (fun h0=>by subst h0;exact (hG.one a ha).1 hGa) (Q:=Q)
   rw [hM1] at hBad hlen hmi hblk ⊢
   simp+contextual(maxSteps:=9^6)(disch:=omega)only[↓YR,↓den,↓Z0,YS,O1.d,O2.d,O3.d,cmI,arI,Z1,Z2,seval,ZF,ZG,↓ZH,hBad,List.length_nil,hlen,hmi]
   refine hblk fun F' new w hrb=>?_
   obtain ⟨k1,k2,k3,k4,k5,k6⟩:=hrb.keep h (m:=M+1) (by omega) ha (fun g=>by cases g) hKG
   simp+contextual(maxSteps:=9^6)(disch:=omega)only[↓YR,↓den,↓Z0,YS,O1.d,O2.d,O3.d,cmI,arI,Z1,Z2,seval,ZF,ZG,↓ZH,]
   refine ⟨_,?_,F',nw++new,w,⟨rfl,by rw [←hcb];simp,by rw [←hlv];simp⟩,?_,rfl⟩
   ·by_cases hw:w=[]
    ·rw [if_pos hw]
     have:=ZnB (n:=szn s.1) ha hGa (by rw [k5 hw];simp) (show M<M+1 by omega) k2
     rw [hM1] at this
     omega
    ·rw [if_neg hw];omega
   ·by_cases hw:w=[]
    ·subst hw
     left
     refine ⟨rfl,?_,by rw [←hM1];exact k1,fun F'' new' w' hr=>?_⟩
     ·have:=hG.more k1 k3 k4
      rw [←hcb,←hlv,hM1] at this
      simpa using this
     ·have h1:=RC.unskip (k:=0) (d:=a+1) (by omega) (fun j _ h2 h3=>by
       by_cases hj:j=a
       ·subst hj;rw [k5 rfl] at h3;cases h3
       ·exact hbe j (by omega) (k2 M j (by omega) (by omega) h3)) hr
      rw [Nat.zero_add] at h1
      have h2:RC s g M 0 G F'' (new++new') w':=RC.skips (s:=s) (k:=0) (d:=a) (by omega) (fun j _ h2=>hbe j (by omega)) (by rw [Nat.zero_add];exact .next ha hGa hga hrb h1)
      rw [Ym]
      exact hc _ _ _ h2
    ·right
     refine ⟨hw,hc _ _ _ (RC.skips (k:=0) (d:=a) (by omega) (fun j _ h2=>hbe j (by omega)) (by rw [Nat.zero_add];exact .way ha hGa hga hrb hw))⟩
  ·have hwl:=YJ.2 hne
   simp+contextual(maxSteps:=9^6)(disch:=omega)only[↓YR,↓den,↓Z0,YS,O1.d,O2.d,O3.d,cmI,arI,Z1,Z2,seval,ZF,ZG,↓ZH,hBad]
   exact fin G w hr
theorem Zoo (s:Sy) (hs:ZK s) (h:valid s) (M:Nat) (F:Nat→Nat→Bool) (C:List (List Int×Int)) (way:List Int) (hM1:1≤M) (hM2:M≤30) (hC:∀x∈C,(x.1.length:Int)=bc s.1) (hCl:C.length≤20000) {Q:List AV→Prop}
  (hQ:Q [⟨L (L I),steps s⟩,⟨L (L I),frT (szn s.1) (Z_ s (M - 1) F C).1 (M+1)⟩,⟨L (L I),(Z_ s (M - 1) F C).2.map (·.1)⟩,⟨L I,(Z_ s (M - 1) F C).2.map (·.2)⟩,⟨L I,way⟩]) :
  mc.C Zdp [⟨L V3,s.1⟩,⟨L TR,s.2⟩,⟨L (L I),steps s⟩,⟨L (L I),frT (szn s.1) F (M+1)⟩,⟨L (L I),C.map (·.1)⟩,⟨L I,C.map (·.2)⟩,⟨L I,way⟩] Q:=by
 have hz:=ZP h
 have hlen:∀G,(frT (szn s.1) G (M+1)).length=M+1:=fun _=>ZN
 obtain ⟨M1,hMM⟩:∃M1,M+1=M1:=⟨_,rfl⟩
 have hM3:(M1:Int) - 1=(M:Int):=by omega
 rw [hMM] at hlen hQ ⊢
 refine mc.c_of Zi8 ?_
 simp+contextual(maxSteps:=9^6)(disch:=omega)only[↓YR,↓den,↓Z0,YS,O1.d,O2.d,O3.d,cmI,arI,Z1,Z2,seval,ZF,ZG,ZfN]
 refine mc.lp_for ((Nat→Nat→Bool)×List (List Int×Int)) (fun i z=>[⟨I,(i:Int)+1⟩,⟨L V3,s.1⟩,⟨L TR,s.2⟩,⟨L (L I),steps s⟩,⟨L (L I),frT (szn s.1) z.1 M1⟩,⟨L (L I),z.2.map (·.1)⟩,⟨L I,z.2.map (·.2)⟩,⟨L I,way⟩])
  (fun i z=>z=Z_ s i F C∧(∀x∈z.2,(x.1.length:Int)=bc s.1)∧z.2.length=C.length) (M - 1) 0 (F,C) _ (by simp) (Yf _) ⟨rfl,hC,rfl⟩ ?_ ?_
 ·rintro i ⟨G,D⟩ hi ⟨hGD,hD,hDl⟩
  dsimp only at hD hDl
  simp+contextual(maxSteps:=9^6)(disch:=omega)only[↓YR,↓den,↓Z0,YS,O1.d,O2.d,O3.d,cmI,arI,Z1,Z2,seval,ZF,ZG,hlen,hM3]
  refine mc.lp_for Unit (fun k _=>[⟨I,(i:Int)+1⟩,⟨I,(k:Int)⟩,⟨L V3,s.1⟩,⟨L TR,s.2⟩,⟨L (L I),steps s⟩,⟨L (L I),frT (szn s.1) (ZY s (i+1) G (D.take k)) M1⟩,⟨L (L I),D.map (·.1)⟩,⟨L I,((D.take k).map (ZZ s (i+1) G)++D.drop k).map (·.2)⟩,⟨L I,way⟩]) (fun _ _=>True) D.length 0 () _ ?_ (Yf _) trivial ?_ ?_
  ·rw [List.take_zero,Zom];simp
  ·rintro k _ hk -
   have hx:D.getD k ([],0)∈D:=ZJ hk
   obtain ⟨x,hxe⟩:∃x,D.getD k ([],0)=x:=⟨_,rfl⟩
   rw [hxe] at hx
   have hc:=hD x hx
   have hdl:=Zoj (d:=([],0)) hk
   have htl:=Zok (d:=([],0)) hk
   rw [hxe] at hdl htl
   have hfk:(D.map (·.1)).getD k []=x.1:=by rw [Zoh hk,hxe]
   have htk:((D.take k).map (ZZ s (i+1) G)).length=k:=by rw [YF,Yb];omega
   have htk2:(((D.take k).map (ZZ s (i+1) G)).map (·.2)).length=k:=by rw [YF];exact htk
   have hlw:(((D.take k).map (ZZ s (i+1) G)++D.drop k).map (·.2)).getD k 0=x.2:=by
    rw [hdl,YK,List.map_cons]
    exact Zoi htk2
   have hlwl:(((D.take k).map (ZZ s (i+1) G)++D.drop k).map (·.2)).length=D.length:=by
    rw [YF,Y7,htk,Yq];omega
   have hsn:∀y,(((D.take k).map (ZZ s (i+1) G)++D.drop k).map (·.2)).set k y=((D.take k).map (ZZ s (i+1) G)).map (·.2)++y::(D.drop (k+1)).map (·.2):=fun y=>by
    rw [hdl,YK,List.map_cons]
    exact set_mid htk2
   have hnx:((D.take (k+1)).map (ZZ s (i+1) G)++D.drop (k+1)).map (·.2)=((D.take k).map (ZZ s (i+1) G)).map (·.2)++(ZZ s (i+1) G x).2::(D.drop (k+1)).map (·.2):=by
    rw [htl];simp
   have hold:((D.take k).map (ZZ s (i+1) G)++D.drop k).map (·.2)=((D.take k).map (ZZ s (i+1) G)).map (·.2)++x.2::(D.drop (k+1)).map (·.2):=by
    rw [hdl];simp
   have hfr:∀(j k':Nat),ZY s (i+1) G (D.take (k+1)) j k'=(ZY s (i+1) G (D.take k) j k'&&(if j=i+1+1∧x.2=((i+1:Nat):Int)∧dB (blk s (ZR (G (i+1)) (szn s.1)) x.1)=true then !inC s x.1 k' else true)):=fun j k'=>by rw [htl];exact Zol
   have hi1:(frT (szn s.1) (ZY s (i+1) G (D.take k)) M1).getD (i+1) []=ZR (G (i+1)) (szn s.1):=by
    unfold frT
    rw [ZO (by omega)]
    exact Zks fun k' _=>Zo6 (by omega)
   have hi2:(frT (szn s.1) (ZY s (i+1) G (D.take k)) M1).getD (i+1+1) []=ZR (ZY s (i+1) G (D.take k) (i+1+1)) (szn s.1):=ZO (by omega)
   have hlG:ZW (ZR (G (i+1)) (szn s.1)) (szn s.1):=ZkR (Yh _)
   have hn1:((i:Int)+1).toNat=i+1:=by omega
   have hn2:((i:Int)+1+1).toNat=i+1+1:=by omega
   generalize ((D.take k).map (ZZ s (i+1) G)++D.drop k).map (·.2)=lw at hlw hlwl hsn hold ⊢
   by_cases hxl:x.2=(i:Int)+1
   ·by_cases hb:dB (blk s (ZR (G (i+1)) (szn s.1)) x.1)=true
    ·have hsw:ZR (fun k'=>dB ((k':Int)∈ZR (ZY s (i+1) G (D.take k) (i+1+1)) (szn s.1))&&!dB ((k':Int)∈ZR (inC s x.1) (szn s.1))) 400=ZR (fun k'=>ZY s (i+1) G (D.take k) (i+1+1) k'&&!inC s x.1 k') (szn s.1):=Zl2 hz.2.2
     have hl1:ZW (ZR (ZY s (i+1) G (D.take k) (i+1+1)) (szn s.1)) 400:=ZkR (m:=400) hz.2.2
     have hl2:ZW (ZR (inC s x.1) (szn s.1)) 400:=ZkR (m:=400) hz.2.2
     simp+contextual(maxSteps:=9^6)(disch:=omega)only[↓YR,↓den,↓Z0,YS,O1.d,O2.d,O3.d,cmI,arI,Z1,Z2,seval,ZF,ZG,↓ZH,hlen,YF,hlw,hlwl,hxl,hn1,hn2,hi1,hfk,Zm4 s _ _ hs h hlG hc,hb,hi2,ZlW s _ hs h hc,Zl1 _ _ hl1 hl2,hsw,hsn]
     refine ⟨?_,?_⟩
     ·unfold frT
      rw [ZkK]
      refine ZV fun j _=>?_
      by_cases he:j=i+1+1
      ·rw [if_pos he]
       refine Zks fun k' _=>?_
       rw [hfr,if_pos ⟨he,by rw [hxl];simp,hb⟩,he]
      ·rw [if_neg he]
       refine Zks fun k' _=>?_
       rw [hfr,if_neg fun q=>he q.1,Bool.and_true]
     ·rw [hnx]
      have:(ZZ s (i+1) G x).2=(i:Int)+1+1:=by
       unfold ZZ
       rw [if_pos (ZT ⟨by rw [hxl];simp,ZkH.1 hb⟩)];simp
      rw [this]
    ·have hb0:dB (blk s (ZR (G (i+1)) (szn s.1)) x.1)=false:=by simpa using hb
     simp+contextual(maxSteps:=9^6)(disch:=omega)only[↓YR,↓den,↓Z0,YS,O1.d,O2.d,O3.d,cmI,arI,Z1,Z2,seval,ZF,ZG,↓ZH,hlen,YF,hlw,hlwl,hxl,hn1,hn2,hi1,hfk,Zm4 s _ _ hs h hlG hc,hb0]
     refine ⟨?_,?_⟩
     ·unfold frT
      refine ZV fun j _=>Zks fun k' _=>?_
      rw [hfr,if_neg fun q=>hb q.2.2,Bool.and_true]
     ·rw [hnx,hold]
      have:ZZ s (i+1) G x=x:=by
       unfold ZZ
       rw [if_neg fun q=>hb (ZT (ZkH.1 q).2)]
      rw [this]
   ·simp+contextual(maxSteps:=9^6)(disch:=omega)only[↓YR,↓den,↓Z0,YS,O1.d,O2.d,O3.d,cmI,arI,Z1,Z2,seval,ZF,ZG,↓ZH,hlen,YF,hlw,hlwl,hxl]
    refine ⟨?_,?_⟩
    ·unfold frT
     refine ZV fun j _=>Zks fun k' _=>?_
     rw [hfr,if_neg fun q=>hxl (by rw [q.2.1];simp),Bool.and_true]
    ·rw [hnx,hold]
     have:ZZ s (i+1) G x=x:=by
      unfold ZZ
      rw [if_neg fun q=>hxl (by rw [(ZkH.1 q).1];simp)]
     rw [this]
  ·rintro _ -
   rw [Yu,List.drop_length,Yx]
   simp+contextual(maxSteps:=9^6)(disch:=omega)only[↓YR,↓den,↓Z0,YS,O1.d,O2.d,O3.d,cmI,arI,Z1,Z2,seval,ZF,ZG,YF]
   refine ⟨(ZY s (i+1) G D,Zn_ s (i+1) G D),?_,?_,?_,?_⟩
   ·exact ⟨rfl,map_fst_push.symm,rfl⟩
   ·simp only [Z_];rw [←hGD]
   ·intro x hx
    obtain ⟨y,hy,rfl⟩:=Yo.1 hx
    have:=hD y hy
    unfold ZZ
    split<;>exact this
   ·dsimp only [Zn_];rw [YF];exact hDl
 ·rintro ⟨G,D⟩ ⟨hGD,-,-⟩
  have hMi:((M - 1:Nat):Int)+1=(M:Int):=by omega
  rw [←hGD] at hQ
  simp+contextual(maxSteps:=9^6)(disch:=omega)only[↓YR,↓den,↓Z0,YS,O1.d,O2.d,O3.d,cmI,arI,Z1,Z2,seval,ZF,ZG,hlen,hMi,hM3]
  exact hQ
def CI0 (s:Sy) (g:Nat→Bool) (r:CR):Prop:=(g (fn0 s)=true∧CI s g 1 (fun _ k=>decide (k=fn0 s)) [] r)∨(g (fn0 s)=false∧r=⟨false,[[(fn0 s:Int)]],[],[(fn0 s:Int)],true⟩)
theorem CI0.det {s:Sy} {g:Nat→Bool} {r r':CR} (h:CI0 s g r) (h':CI0 s g r'):r=r':=by
 rcases h with ⟨h1,h2⟩ | ⟨h1,h2⟩<;>rcases h' with ⟨h3,h4⟩ | ⟨h3,h4⟩
 ·exact h2.det Zo0.refl h4
 ·rw [h1] at h3;cases h3
 ·rw [h1] at h3;cases h3
 ·rw [h2,h4]
theorem Zop {s:Sy}:FK s 1 (fun _ k=>decide (k=fn0 s)):=⟨fun k _=>by simp,fun i k hi=>by omega,fun i a k hi=>by omega⟩
theorem CI0.good {s:Sy} (hv:valid s) {g:Nat→Bool} {r:CR} (h:CI0 s g r) :
  (r.ok=true→r.safe=true→fvs s r.X∧clo s r.sh∧(∀x∈r.sh,g x.toNat=true)∧r.w=[])∧(r.ok=true→r.safe=false→r.sh=[]∧r.X.length≤30∧(∀x∈r.X,x.length≤400)∧∃D st,D≤30∧st<szn s.1∧g st=false∧IsW s D st r.w)∧(r.ok=false→r=⟨false,[],[],[],false⟩):=by
 rcases h with ⟨h1,h2⟩ | ⟨h1,rfl⟩
 ·refine h2.good hv (Yh _) Zop (fun x hx=>by cases hx) fun i k _ _ hk=>?_
  rw [of_decide_eq_true hk];exact h1
 ·have hfn:=(Znz hv).2
  refine ⟨fun _ h=>(by cases h),fun _ _=>⟨rfl,by simp,fun x hx=>by rw [Y1.1 hx];simp,0,fn0 s,Yf _,hfn,h1,fun _=>fn0 s,rfl,rfl,rfl,fun _ _=>hfn,fun e he=>absurd he (Nat.not_lt_zero _)⟩,fun h=>(by cases h)⟩
theorem Zoq (s:Sy) (l:List Tm) (hs:ZK s) (hf:Few l) (h0:valid s) (h1:kf l s.1.length=2) {Q:List AV→Prop} (hQ:∀(r:CR) (Y:List (List Int)) (R:List Int),CI0 s (ZQ s l) r→Q [⟨B,r.safe⟩,⟨L (L I),r.X⟩,⟨L I,r.sh⟩,⟨L (L I),Y⟩,⟨L I,R⟩,⟨B,r.ok⟩]) :
  mc.C Zdr [⟨L V3,s.1⟩,⟨L TR,s.2⟩,⟨L T4,l⟩] Q:=by
 refine mc.c_of Zia ?_
 have hz:=ZP h0
 obtain ⟨hfe,hfn⟩:=Znz h0
 simp+contextual(maxSteps:=9^6)(disch:=omega)only[↓YR,↓den,↓Z0,YS,O1.d,O2.d,O3.d,cmI,arI,Z1,Z2,seval,ZF,ZG,ZfP,Zj1 s hs,h0,decide_true,Bool.not_true,ZiK l s.1.length 2 hf (by omega),decide_eq_true h1,Znv s l hs hf ⟨h0,h1⟩,ZjZ s hs h0,Zk3 s _ h0.1.2 h0.2.2.1 (ZjW h0.2.2.1),hfe,Zkm s hs h0,ZN,ZO hfn]
 by_cases hg:ZQ s l (fn0 s)=true
 ·simp+contextual(maxSteps:=9^6)(disch:=omega)only[↓YR,↓den,↓Z0,YS,O1.d,O2.d,O3.d,cmI,arI,Z1,Z2,seval,ZF,ZG,hg]
  replace hQ:=fun r Y R h=>hQ r Y R (.inl ⟨hg,h⟩)
  have hfr1:frT (szn s.1) (fun _ k=>decide (k=fn0 s)) 1=[[(fn0 s:Int)]]:=by
   have h2:ZR (fun k=>decide (k=fn0 s)) (szn s.1)=[(fn0 s:Int)]:=by
    rw [Zks (q:=fun k=>k==fn0 s) fun k _=>by rfl,Zl5,if_pos hfn]
   simp only [frT,tab,List.range_succ,List.range_zero,List.nil_append,List.map_cons,List.map_nil,h2]
  refine mc.lp_inv (fun j us=>∃(m:Nat) (G:Nat→Nat→Bool) (C:List (List Int×Int)),us=[⟨L V3,s.1⟩,⟨L TR,s.2⟩,⟨B,false⟩,⟨L B,tab (ZQ s l) (szn s.1)⟩,⟨L (L I),steps s⟩,⟨L (L I),frT (szn s.1) G m⟩,⟨L (L I),C.map (·.1)⟩,⟨L I,C.map (·.2)⟩,⟨L I,[]⟩]∧FK s m G∧CK s m G C∧1≤m∧m≤30∧C.length+muP (szn s.1) G m≤400 * m ∧
    (∀r,CI s (ZQ s l) m G C r→CI s (ZQ s l) 1 (fun _ k=>decide (k=fn0 s)) [] r)∧j=100 - m)
   _ _ ⟨1,_,[],by rw [hfr1];rfl,Zop,fun x hx=>(by cases hx),Yh _,by omega,?_,fun _ h=>h,rfl⟩ ?_
  ·have:=@ZS (fun k=>decide (k=fn0 s)) (szn s.1)
   simp only [muP,List.length_nil];omega
  rintro j us ⟨m,G,C,rfl,hK,hC,hm1,hm2,hbd,hcont,rfl⟩
  have hlen:(frT (szn s.1) G m).length=m:=ZN
  by_cases hm:m<30
  ·have hul:(ZR (fun _=>true) (szn s.1)).length≤szn s.1:=ZS
   have hnew:frT (szn s.1) G m++[ZR (fun _=>true) (szn s.1)]=frT (szn s.1) (exF G m) (m+1):=by
    unfold frT exF
    rw [←Zkd]
    congr 1
    ·exact ZV fun j hj=>Zks fun k _=>by rw [if_neg (by omega)]
    ·simp only [if_true]
   have hmu:muP (szn s.1) (exF G m) (m+1)≤muP (szn s.1) G m+szn s.1:=by
    have h4:=ZnA (n:=szn s.1) (F:=exF G m) (G:=G) (m:=m) fun j k hj _ hh=>by unfold exF at hh;rw [if_neg (by omega)] at hh;exact hh
    have h5:(ZR (exF G m m) (szn s.1)).length≤szn s.1:=ZS
    simp only [muP];omega
   have hKe:=Zo9 hK hm1
   have hCe:=Zoa hC
   have hFI:FI s (m+1) (exF G m) (C.map (·.1)) (C.map (·.2)):=by
    refine ⟨hKe.one,by simp,fun c hc=>?_,fun x hx=>?_,by rw [YF];omega,by omega,by omega⟩
    ·obtain ⟨y,hy,rfl⟩:=Yo.1 hc;exact (hCe y hy).1
    ·obtain ⟨y,hy,rfl⟩:=Yo.1 hx;exact (hCe y hy).2.1
   have hclose:=fun {Q:List AV→Prop}=>Zon s hs h0 m (exF G m) (C.map (·.1)) (C.map (·.2)) (ZQ s l) hFI hKe (Q:=Q)
   simp+contextual(maxSteps:=9^6)(disch:=omega)only[↓YR,↓den,↓Z0,YS,O1.d,O2.d,O3.d,cmI,arI,Z1,Z2,seval,ZF,ZG,hlen,Zj4 s hs,if_pos h0,←hz.1,Znt (szn s.1) (by omega),hnew]
   refine hclose fun F1 new w hrc=>?_
   obtain ⟨k1,k2,k3,k4,k5,k6⟩:=hrc.keep h0 hKe
   by_cases hw:w=[]
   ·subst hw
    have hC2:CK s (m+1) F1 (C++new):=(hCe.less k2).app k3
    obtain ⟨p1,p2,p3,p4⟩:=Zo8 k1 hC2 (t:=m - 1) (by omega)
    have hpush:=fun {Q:List AV→Prop}=>Zoo s hs h0 m F1 (C++new) [] hm1 (by omega) (fun x hx=>(hC2 x hx).1) (by rw [Y7];omega) (Q:=Q)
    rw [YK,YK] at hpush
    simp+contextual(maxSteps:=9^6)(disch:=omega)only[↓YR,↓den,↓Z0,YS,O1.d,O2.d,O3.d,cmI,arI,Z1,Z2,seval,ZF,ZG,List.length_nil]
    refine hpush ?_
    have hsafe:=fun i ha hb=>hcont _ (CI.safe hm hrc (i:=i) ha hb)
    have hnext:=fun r ha hr=>hcont _ (CI.next (r:=r) hm hrc ha hr)
    rw [Y7] at p4
    have hmu2:=ZnA (n:=szn s.1) (F:=(Z_ s (m - 1) F1 (C++new)).1) (G:=F1) (m:=m+1) fun i k _ _ hh=>p3 i k hh
    generalize (Z_ s (m - 1) F1 (C++new)).2=C2 at p2 p4 hnext ⊢
    generalize (Z_ s (m - 1) F1 (C++new)).1=F2 at p1 p2 p3 hmu2 hsafe hnext ⊢
    have hlen2:(frT (szn s.1) F2 (m+1)).length=m+1:=ZN
    have hrow:∀i,((frT (szn s.1) F2 (m+1)).getD i []).length≤1048576:=fun i=>by
     by_cases hi:i<m+1
     ·rw [Zob hi];exact Nat.le_trans ZS (by omega)
     ·rw [Y8,Yz (by omega)];simp
    simp+contextual(maxSteps:=9^6)(disch:=omega)only[↓YR,↓den,↓Z0,YS,O1.d,O2.d,O3.d,cmI,arI,Z1,Z2,seval,ZF,ZG,ZnH _ (by omega:(frT (szn s.1) F2 (m+1)).length≤1000) hrow]
    by_cases hex:∃i,alike (frT (szn s.1) F2 (m+1)) i
    ·obtain ⟨i,ha,hmin⟩:=least hex
     have hi1:=ha.1
     have hi2:=ha.2.1
     rw [hlen2] at hi2
     simp+contextual(maxSteps:=9^6)(disch:=omega)only[↓YR,↓den,↓Z0,YS,O1.d,O2.d,O3.d,cmI,arI,Z1,Z2,seval,ZF,ZG,ZnF ha hmin,hlen2,Zj_ _ (hrow i)]
     exact hQ _ [] [] (hsafe i ha hmin)
    ·have hno:∀j,¬alike (frT (szn s.1) F2 (m+1)) j:=fun j hj=>hex ⟨j,hj⟩
     simp+contextual(maxSteps:=9^6)(disch:=omega)only[↓YR,↓den,↓Z0,YS,O1.d,O2.d,O3.d,cmI,arI,Z1,Z2,seval,ZF,ZG,ZnG hno]
     exact ⟨_,by omega,m+1,F2,C2,⟨rfl,rfl,rfl⟩,p1,p2,by omega,by omega,by omega,fun r hr=>hnext r hno hr,rfl⟩
   ·obtain ⟨D,st,b1,b2,b3,b4⟩:=k6 hw
    have hwl:=YJ.2 hw
    simp+contextual(maxSteps:=9^6)(disch:=omega)only[↓YR,↓den,↓Z0,YS,O1.d,O2.d,O3.d,cmI,arI,Z1,Z2,seval,ZF,ZG,hwl]
    refine ZnJ s D st w hs h0 (by omega) b4 fun X R=>?_
    simp+contextual(maxSteps:=9^6)(disch:=omega)only[↓YR,↓den,↓Z0,YS,O1.d,O2.d,O3.d,cmI,arI,Z1,Z2,seval,ZF,ZG,]
    exact hQ _ X R (hcont _ (.way hm hrc hw))
  ·simp+contextual(maxSteps:=9^6)(disch:=omega)only[↓YR,↓den,↓Z0,YS,O1.d,O2.d,O3.d,cmI,arI,Z1,Z2,seval,ZF,ZG,hlen]
   exact hQ _ [] [] (hcont _ (.stop hm))
 ·have hg':ZQ s l (fn0 s)=false:=by simpa using hg
  simp+contextual(maxSteps:=9^6)(disch:=omega)only[↓YR,↓den,↓Z0,YS,O1.d,O2.d,O3.d,cmI,arI,Z1,Z2,seval,ZF,ZG,hg']
  refine ZnJ s 0 (fn0 s) [(fn0 s:Int)] hs h0 (by omega) ⟨fun _=>fn0 s,rfl,rfl,rfl,fun _ _=>hfn,fun e he=>absurd he (Nat.not_lt_zero _)⟩ fun X R=>?_
  simp+contextual(maxSteps:=9^6)(disch:=omega)only[↓YR,↓den,↓Z0,YS,O1.d,O2.d,O3.d,cmI,arI,Z1,Z2,seval,ZF,ZG,]
  exact hQ ⟨false,[[(fn0 s:Int)]],[],[(fn0 s:Int)],true⟩ X R (.inr ⟨hg',rfl⟩)
theorem Zor (s:Sy) (l:List Tm) (hs:ZK s) (hf:Few l) (h:¬(valid s∧kf l s.1.length=2)) (Q:List AV→Prop) :
  mc.C Zdr [⟨L V3,s.1⟩,⟨L TR,s.2⟩,⟨L T4,l⟩] Q=Q [⟨B,false⟩,⟨L (L I),[]⟩,⟨L I,[]⟩,⟨L (L I),[]⟩,⟨L I,[]⟩,⟨B,false⟩]:=by
 refine Mc.Ends.c (mc.ends Zia ?_)
 by_cases h0:valid s
 ·have h1:¬kf l s.1.length=2:=fun g=>h ⟨h0,g⟩
  have h5:=h0.1.2
  simp+contextual(maxSteps:=9^6)(disch:=omega)only[↓YR,↓den,↓Z0,YS,O1.d,O2.d,O3.d,cmI,arI,Z1,Z2,seval,ZF,ZG,ZfP,Zj1 s hs,h0,decide_true,Bool.not_true,ZiK l s.1.length 2 hf (by omega),decide_eq_false h1,Bool.not_false]
 ·simp+contextual(maxSteps:=9^6)(disch:=omega)only[↓YR,↓den,↓Z0,YS,O1.d,O2.d,O3.d,cmI,arI,Z1,Z2,seval,ZF,ZG,ZfP,Zj1 s hs,h0,decide_false,Bool.not_false]
theorem Zos {l : List Int} : l.reverse = tab (fun x => l.getD (l.length - 1 - x) 0) l.length := by
 apply List.ext_getElem
 ·simp [tab]
 ·intro i h1 h2
  rw [List.getElem_reverse]
  simp only [List.length_reverse] at h1
  simp only [tab,List.getElem_map,List.getElem_range]
  rw [getD_lt (by omega)]
theorem Zot (l:List Int) (hl:l.length≤1048576) (Q:List AV→Prop):mc.C Zcr [⟨L I,l⟩] Q=Q [⟨L I,l.reverse⟩]:=by
 refine Mc.Ends.c (mc.ends Zha ?_)
 rw [Zos]
 simp+contextual(maxSteps:=9^6)(disch:=omega)only[↓YR,↓den,↓Z0,YS,O1.d,O2.d,O3.d,cmI,arI,Z1,Z2,seval,ZF,ZG,ZeP]
 refine mc.lp_inv (fun k us => ∃ i : Nat, us = [⟨I, (i : Int)⟩, ⟨I, (l.length : Int) - 1 - (i : Int)⟩, ⟨L I, tab (fun x => if x < i ∨ l.length < x + 1 + i then l.getD (l.length - 1 - x) 0 else l.getD x 0) l.length⟩] ∧ i ≤ l.length ∧ k = l.length - i) _ _ ⟨0, ?_, Yf _, rfl⟩ ?_
 ·have : tab (fun x => if x < 0 ∨ l.length < x + 1 + 0 then l.getD (l.length - 1 - x) 0 else l.getD x 0) l.length = l := by
   rw [ZV (g:=fun x=>l.getD x 0) fun k hk=>if_neg (by omega)]
   exact Zna
  rw [this]
  congr 3
  simp
 ·rintro k us ⟨i,rfl,hi,rfl⟩
  obtain ⟨T, hT⟩ : ∃ T, tab (fun x => if x < i ∨ l.length < x + 1 + i then l.getD (l.length - 1 - x) 0 else l.getD x 0) l.length = T := ⟨_, rfl⟩
  have hTl:T.length=l.length:=by rw [←hT];exact ZN
  by_cases hij : (i : Int) < (l.length : Int) - 1 - (i : Int)
  ·have e1 : ((l.length : Int) - 1 - (i : Int)).toNat = l.length - 1 - i := by omega
   have g1:T.getD i 0=l.getD i 0:=by rw [←hT,ZO (by omega),if_neg (by omega)]
   have g2 : T.getD (l.length - 1 - i) 0 = l.getD (l.length - 1 - i) 0 := by rw [← hT, ZO (by omega), if_neg (by omega)]
   rw [hT]
   simp+contextual(maxSteps:=9^6)(disch:=omega)only[↓YR,↓den,↓Z0,YS,O1.d,O2.d,O3.d,cmI,arI,Z1,Z2,seval,ZF,ZG,hij,hTl,e1,g1,g2,YC]
   refine ⟨_,?_,i+1,?_,by omega,rfl⟩
   ·omega
   ·refine ⟨rfl,?_,?_⟩
    ·show (l.length : Int) - 1 - (i : Int) - 1 = (l.length : Int) - 1 - ((i + 1 : Nat) : Int)
     omega
    rw [←hT,ZkK,ZkK]
    refine ZV fun x hx=>?_
    by_cases h1 : x = l.length - 1 - i
    ·rw [if_pos h1,if_pos (by omega),h1]
     congr 1;omega
    ·rw [if_neg h1]
     by_cases h2:x=i
     ·rw [if_pos h2,if_pos (by omega),h2]
     ·rw [if_neg h2]
      by_cases h3:x<i∨l.length<x+1+i
      ·rw [if_pos h3,if_pos (by omega)]
      ·rw [if_neg h3,if_neg (by omega)]
  ·rw [hT]
   simp+contextual(maxSteps:=9^6)(disch:=omega)only[↓YR,↓den,↓Z0,YS,O1.d,O2.d,O3.d,cmI,arI,Z1,Z2,seval,ZF,ZG,hij]
   rw [←hT]
   refine ZV fun x hx=>?_
   by_cases h3:x<i∨l.length<x+1+i
   ·rw [if_pos h3]
   ·rw [if_neg h3]
    congr 1;omega
abbrev CT0:Ty:=P (P (L V3) (L TR)) (P (L (L I)) (P (L (L I)) (P (L (L B)) (P (L (P (L I) I)) (P (L I) (L I))))))
abbrev CT:Ty:=P (P (L V3) (L TR)) (P (L (L I)) (P (L (L I)) (P (L (L B)) (P (L (P (L I) I)) (P (L I) (N I))))))
def frB (n:Nat) (F:Nat→Nat→Bool) (m:Nat):List (List Bool):=tab (fun i=>tab (F i) n) m
theorem Zou {n m:Nat} {F:Nat→Nat→Bool}:(frB n F m).length=m:=ZN
theorem Zov {n m i:Nat} {F:Nat→Nat→Bool} (h:i<m):(frB n F m).getD i []=tab (F i) n:=ZO h
theorem Zow {n m:Nat} {F G:Nat→Nat→Bool} (h:∀i k,i<m→k<n→F i k=G i k):frB n F m=frB n G m:=ZV fun i hi=>ZV fun k hk=>h i k hi hk
theorem Zox {n m j x:Nat} {F:Nat→Nat→Bool} (hj:j<m):(frB n F m).set j ((tab (F j) n).set x false)=frB n (fun i k=>if i=j∧k=x then false else F i k) m:=by
 unfold frB
 rw [ZkK,ZkK]
 refine ZV fun i hi=>?_
 by_cases h:i=j
 ·rw [if_pos h,h]
  refine ZV fun k hk=>?_
  dsimp only
  by_cases g:k=x
  ·rw [if_pos g,if_pos ⟨rfl,g⟩]
  ·rw [if_neg g,if_neg fun q=>g q.2]
 ·rw [if_neg h]
  exact ZV fun k hk=>by dsimp only;rw [if_neg fun q=>h q.1]
noncomputable def drq (s:Sy) (c:List Int) (lo hi:Nat) (F:Nat→Nat→Bool) (i k:Nat):Bool:=if lo≤i∧i≤hi then F i k&&!inC s c k else F i k
theorem Zoy (s:Sy) (h:valid s) (T U:List (List Int)) (C:List (List Int×Int)) (tk wy c:List Int) (m lo hi:Nat) (F:Nat→Nat→Bool) (hm:m≤40) (hc:(c.length:Int)=bc s.1) (hlo:lo≤hi) (hhi:hi<m) (Q:List AV→Prop) :
  mc.C ZcA [⟨CT0,((s.1,s.2),(T,(U,(frB (szn s.1) F m,(C,(tk,wy))))))⟩,⟨L I,c⟩,⟨I,(lo:Int)⟩,⟨I,(hi:Int)⟩] Q=Q [⟨CT0,((s.1,s.2),(T,(U,(frB (szn s.1) (drq s c lo hi F) m,(C,(tk,wy))))))⟩]:=by
 have hz:=ZP h
 have hmem:∀x:Int,x∈ZR (inC s c) (szn s.1)↔∃a,a<szn s.1∧x=(a:Int)∧inC s c a=true:=fun x=>Zkr
 have hl:(ZR (inC s c) (szn s.1)).length≤szn s.1:=ZS
 refine Mc.Ends.c (mc.ends Zhj ?_)
 simp+contextual(maxSteps:=9^6)(disch:=omega)only[↓YR,↓den,↓Z0,YS,O1.d,O2.d,O3.d,cmI,arI,Z1,Z2,seval,ZF,ZG,ZeY,ZlV s c h hc]
 generalize ZR (inC s c) (szn s.1)=l at hmem hl
 refine mc.lp_for (Nat→Nat→Bool) (fun i G=>[⟨I,(lo:Int)⟩,⟨I,(hi:Int)⟩,⟨I,(l.length:Int)⟩,⟨I,(i:Int)⟩,⟨L V3,s.1⟩,⟨L TR,s.2⟩,⟨L (L I),T⟩,⟨L (L I),U⟩,⟨L (P (L I) I),C⟩,⟨L I,tk⟩,⟨L I,wy⟩,⟨L (L B),frB (szn s.1) G m⟩,⟨L I,l⟩])
  (fun i G=>∀j k,G j k=(F j k&&!(dB (lo≤j∧j≤hi∧(k:Int)∈l.take i)))) l.length 0 F _ rfl (Yf _) (fun j k=>by rw [ZU (by simp)];simp) ?_ ?_
 ·rintro i G hi2 hG
  obtain ⟨a,ha,hae,hac⟩:=(hmem _).1 (ZJ (d:=0) hi2)
  simp+contextual(maxSteps:=9^6)(disch:=omega)only[↓YR,↓den,↓Z0,YS,O1.d,O2.d,O3.d,cmI,arI,Z1,Z2,seval,ZF,ZG,hae]
  refine mc.lp_for (Nat→Nat→Bool) (fun q H=>[⟨I,(lo:Int)⟩,⟨I,(hi:Int)⟩,⟨I,(a:Int)⟩,⟨I,(q:Int)⟩,⟨I,(l.length:Int)⟩,⟨I,(i:Int)⟩,⟨L V3,s.1⟩,⟨L TR,s.2⟩,⟨L (L I),T⟩,⟨L (L I),U⟩,⟨L (P (L I) I),C⟩,⟨L I,tk⟩,⟨L I,wy⟩,⟨L (L B),frB (szn s.1) H m⟩,⟨L I,l⟩])
   (fun q H=>lo≤q∧∀j k,H j k=(G j k&&!(decide (lo≤j∧j<q∧k=a)))) (hi+1) lo G _ rfl (by omega) ⟨Yh _,fun j k=>by rw [decide_eq_false (by omega)];simp⟩ ?_ ?_
  ·rintro q H hq ⟨hlq,hH⟩
   simp+contextual(maxSteps:=9^6)(disch:=omega)only[↓YR,↓den,↓Z0,YS,O1.d,O2.d,O3.d,cmI,arI,Z1,Z2,seval,ZF,ZG,Zou,Zov (show q<m by omega),ZN,Zox (show q<m by omega)]
   refine ⟨_,rfl,by omega,fun j k=>?_⟩
   by_cases g:j=q∧k=a
   ·rw [if_pos g,decide_eq_true (by omega)];simp
   ·rw [if_neg g,hH]
    congr 2
    exact decide_eq_decide.2 ⟨fun z=>⟨z.1,by omega,z.2.2⟩,fun z=>⟨z.1,by omega,z.2.2⟩⟩
  ·rintro H ⟨-,hH⟩
   simp+contextual(maxSteps:=9^6)(disch:=omega)only[↓YR,↓den,↓Z0,YS,O1.d,O2.d,O3.d,cmI,arI,Z1,Z2,seval,ZF,ZG,]
   refine ⟨H,rfl,fun j k=>?_⟩
   rw [hH,hG,Bool.and_assoc]
   congr 1
   rw [Bool.eq_iff_iff]
   simp only [Y5,Yr,YH]
   constructor
   ·rintro ⟨g1,g2⟩
    refine ZU fun g=>?_
    rcases (ZkS hi2).1 g.2.2 with g3 | g3
    ·rw [ZT ⟨g.1,g.2.1,g3⟩] at g1;cases g1
    ·rw [hae] at g3
     exact g2 ⟨g.1,by omega,by omega⟩
   ·intro g
    have hn:¬(lo≤j∧j≤hi∧(k:Int)∈l.take (i+1)):=fun q=>by rw [ZT q] at g;cases g
    refine ⟨ZU fun q=>hn ⟨q.1,q.2.1,(ZkS hi2).2 (.inl q.2.2)⟩,fun q=>hn ⟨q.1,by omega,(ZkS hi2).2 (.inr (by rw [hae];omega))⟩⟩
 ·rintro G hG
  rw [Yu] at hG
  simp+contextual(maxSteps:=9^6)(disch:=omega)only[↓YR,↓den,↓Z0,YS,O1.d,O2.d,O3.d,cmI,arI,Z1,Z2,seval,ZF,ZG,]
  have:frB (szn s.1) G m=frB (szn s.1) (drq s c lo hi F) m:=Zow fun j k _ hk=>by
   rw [hG]
   unfold drq
   have hm:dB (lo≤j∧j≤hi∧(k:Int)∈l)=(decide (lo≤j∧j≤hi)&&inC s c k):=by
    rw [Bool.eq_iff_iff,ZkH]
    simp only [Y5,Ye]
    constructor
    ·rintro ⟨g1,g2,g3⟩
     obtain ⟨b,b1,b2,b3⟩:=(hmem _).1 g3
     have:k=b:=by omega
     exact ⟨⟨g1,g2⟩,this▸b3⟩
    ·rintro ⟨⟨g1,g2⟩,g3⟩
     exact ⟨g1,g2,(hmem _).2 ⟨k,hk,rfl,g3⟩⟩
   rw [hm]
   by_cases g:lo≤j∧j≤hi
   ·rw [if_pos g,decide_eq_true g];simp
   ·rw [if_neg g,decide_eq_false g];simp
  rw [this]
abbrev cv (s:Sy) (fr:List (List Bool)) (C:List (List Int×Int)) (tk w:List Int):AV:=⟨CT,((s.1,s.2),(steps s,(Zlv (steps s) (szn s.1),(fr,(C,(tk,w))))))⟩
theorem Zoz {s:Sy} {c:List Int} {l m:Nat} {F:Nat→Nat→Bool}:frB (szn s.1) (drq s c 1 l F) m=frB (szn s.1) (drp s c (l+1) F) m:=Zow fun i k _ _=>by
 unfold drq drp
 by_cases h:1≤i∧i≤l
 ·rw [if_pos h,if_pos (by omega)]
 ·rw [if_neg h,if_neg (by omega)]
theorem ZoA (s:Sy) (hs:ZK s) (h:valid s) (m:Nat) (hm:m≤40):∀(l:Nat) (F:Nat→Nat→Bool) (C:List (List Int×Int)) (tk:List Int) (st:Nat),l<m→FK s m F→C.length+muP (szn s.1) F m≤20000→st<szn s.1→(l=0→st=fn0 s)→tk.length+l≤60→∀{Q:List AV→Prop},
  (∀F' new,RB s true l F st F' new []→Q [⟨B,true⟩,cv s (frB (szn s.1) F' m) (C++new) tk []]) →
  (∀F' new w tk',RB s true l F st F' new w→w≠[]→Q [⟨B,false⟩,cv s (frB (szn s.1) F' m) (C++new) tk' (w++tk.reverse)]) →
  mc.C ZcB [cv s (frB (szn s.1) F m) C tk [],⟨I,(st:Int)⟩,⟨I,(l:Int)⟩] Q:=by
 have hz:=ZP h
 have ht:=Zlt h
 obtain ⟨hfe,hfn⟩:=Znz h
 have hpl:(Zlv (steps s) (szn s.1)).length=szn s.1:=Zlx
 intro l
 induction l with
 | zero =>
  intro F C tk st hlm hK hb hst h0 htk Q hQ1 hQ2
  refine mc.c_of Zhk ?_
  have hst0:=h0 rfl
  have hln:(tk++[(fn0 s:Int)]).length=tk.length+1:=by simp
  simp+contextual(maxSteps:=9^6)(disch:=omega)only[↓YR,↓den,↓Z0,YS,O1.d,O2.d,O3.d,cmI,arI,Z1,Z2,seval,ZF,ZG,↓ZH,ZeZ,ZjY s h.1.2,Zk4 s _ h.1.2 h.2.2.1 (ZjW h.2.2.1),hfe,hst0,hln,Zot (tk++[(fn0 s:Int)]) (by rw [hln];omega)]
  have hne:(tk++[(fn0 s:Int)]).reverse.isEmpty=false:=by simp
  have hq:=hQ2 F [] [(fn0 s:Int)] (tk++[(fn0 s:Int)]) (by rw [hst0];exact .first) (by simp)
  rw [Yx] at hq
  have e:(tk++[(fn0 s:Int)]).reverse=[(fn0 s:Int)]++tk.reverse:=by simp
  simp+contextual(maxSteps:=9^6)(disch:=omega)only[↓YR,↓den,↓Z0,YS,O1.d,O2.d,O3.d,cmI,arI,Z1,Z2,seval,ZF,ZG,hne]
  rw [e];exact hq
 | succ l ih =>
  intro F C tk st hlm hK hb hst h0 htk Q hQ1 hQ2
  refine mc.c_of Zhk ?_
  by_cases hsf:st=fn0 s
  ·have hln:(tk++[(fn0 s:Int)]).length=tk.length+1:=by simp
   simp+contextual(maxSteps:=9^6)(disch:=omega)only[↓YR,↓den,↓Z0,YS,O1.d,O2.d,O3.d,cmI,arI,Z1,Z2,seval,ZF,ZG,↓ZH,ZeZ,ZjY s h.1.2,Zk4 s _ h.1.2 h.2.2.1 (ZjW h.2.2.1),hfe,hsf,hln,Zot (tk++[(fn0 s:Int)]) (by rw [hln];omega)]
   have hne:(tk++[(fn0 s:Int)]).reverse.isEmpty=false:=by simp
   have hq:=hQ2 F [] [(fn0 s:Int)] (tk++[(fn0 s:Int)]) (by rw [hsf];exact .first) (by simp)
   rw [Yx] at hq
   have e:(tk++[(fn0 s:Int)]).reverse=[(fn0 s:Int)]++tk.reverse:=by simp
   simp+contextual(maxSteps:=9^6)(disch:=omega)only[↓YR,↓den,↓Z0,YS,O1.d,O2.d,O3.d,cmI,arI,Z1,Z2,seval,ZF,ZG,hne]
   rw [e];exact hq
  ·obtain ⟨lx,hL⟩:∃lx,l+1=lx:=⟨_,rfl⟩
   have hLi:(lx:Int) - 1=(l:Int):=by omega
   have hsfi:¬(st:Int)=(fn0 s:Int):=by omega
   obtain ⟨tk1,htk1⟩:∃tk1,tk++[(st:Int)]=tk1:=⟨_,rfl⟩
   have hln:tk1.length=tk.length+1:=by rw [←htk1];simp
   have htake:List.take tk.length tk1=tk:=by rw [←htk1];simp
   have hpg:(Zlv (steps s) (szn s.1)).getD st []=Zlq (steps s) st (szn s.1):=Zly hst
   have hpm:∀x:Int,x∈Zlq (steps s) st (szn s.1)↔∃a,a<szn s.1∧x=(a:Int)∧(st:Int)∈(steps s).getD a []:=fun x=>Zlr
   have hplen:(Zlq (steps s) st (szn s.1)).length≤8 * szn s.1:=Zls ht.2.2
   have hsrt:(Zlq (steps s) st (szn s.1)).Pairwise (·≤·):=ZmY
   generalize Zlq (steps s) st (szn s.1)=pl at hpg hpm hplen hsrt
   rw [hL] at hlm hQ1 hQ2 htk ⊢
   simp+contextual(maxSteps:=9^6)(disch:=omega)only[↓YR,↓den,↓Z0,YS,O1.d,O2.d,O3.d,cmI,arI,Z1,Z2,seval,ZF,ZG,↓ZH,ZeZ,ZjY s h.1.2,Zk4 s _ h.1.2 h.2.2.1 (ZjW h.2.2.1),hfe,hsfi,htk1]
   refine mc.lp_inv (fun j us=>∃G nw,us=[⟨I,(st:Int)⟩,⟨L V3,s.1⟩,⟨L TR,s.2⟩,⟨L (L I),steps s⟩,⟨L (L I),Zlv (steps s) (szn s.1)⟩,⟨N I,[]⟩,⟨L (L B),frB (szn s.1) G m⟩,⟨L (P (L I) I),C++nw⟩,⟨L I,tk1⟩,⟨I,(lx:Int)⟩]∧FK s m G∧(C++nw).length+muP (szn s.1) G m≤20000 ∧
     (∀F' new w,RB s false lx G st F' new w→RB s false lx F st F' (nw++new) w)∧j=muP (szn s.1) G m)
    _ _ ⟨F,[],by simp,hK,by simpa using hb,fun _ _ _ g=>g,rfl⟩ ?_
   rintro j us ⟨G,nw,rfl,hKG,hbG,hcont,rfl⟩
   have hg1:(frB (szn s.1) G m).getD lx []=tab (G lx) (szn s.1):=Zov (by omega)
   have hg0:(frB (szn s.1) G m).getD l []=tab (G l) (szn s.1):=Zov (by omega)
   have fin1:∀F' new,RB s false lx G st F' new []→Q [⟨B,true⟩,cv s (frB (szn s.1) F' m) ((C++nw)++new) tk []]:=fun F' new hrb=>by
    rw [Ym];exact hQ1 F' (nw++new) (.go hsf (hcont F' new [] hrb))
   have fin2:∀F' new w tk',RB s false lx G st F' new w→w≠[]→Q [⟨B,false⟩,cv s (frB (szn s.1) F' m) ((C++nw)++new) tk' (w++tk.reverse)]:=fun F' new w tk' hrb hw=>by
    rw [Ym];exact hQ2 F' (nw++new) w tk' (.go hsf (hcont F' new w hrb)) hw
   obtain ⟨C',hC'⟩:∃C',C++nw=C':=⟨_,rfl⟩
   rw [hC'] at hbG fin1 fin2 ⊢
   by_cases hin:G lx st=true
   ·simp+contextual(maxSteps:=9^6)(disch:=omega)only[↓YR,↓den,↓Z0,YS,O1.d,O2.d,O3.d,cmI,arI,Z1,Z2,seval,ZF,ZG,Zou,hg1,ZN,ZO hst,hin]
    refine mc.wp_join (fun us=>∃x:Int,us=[⟨I,(st:Int)⟩,⟨I,x⟩,⟨L V3,s.1⟩,⟨L TR,s.2⟩,⟨L (L I),steps s⟩,⟨L (L I),Zlv (steps s) (szn s.1)⟩,⟨N I,[]⟩,⟨L (L B),frB (szn s.1) G m⟩,⟨L (P (L I) I),C'⟩,⟨L I,tk1⟩,⟨I,(lx:Int)⟩] ∧
     ((x = -1∧∀a,a<szn s.1→G l a=true→(st:Int)∉(steps s).getD a [])∨∃i a:Nat,x=(i:Int)∧i<pl.length∧pl.getD i 0=(a:Int)∧Pd s G l st a)) ?_ ?_
    ·simp+contextual(maxSteps:=9^6)(disch:=omega)only[↓YR,↓den,↓Z0,YS,O1.d,O2.d,O3.d,cmI,arI,Z1,Z2,seval,ZF,ZG,hpl,hpg]
     refine mc.lp_for Unit (fun i _=>[⟨L I,pl⟩,⟨I,(pl.length:Int)⟩,⟨I,(i:Int)⟩,⟨I,(st:Int)⟩,⟨L V3,s.1⟩,⟨L TR,s.2⟩,⟨L (L I),steps s⟩,⟨L (L I),Zlv (steps s) (szn s.1)⟩,⟨N I,[]⟩,⟨L (L B),frB (szn s.1) G m⟩,⟨L (P (L I) I),C'⟩,⟨L I,tk1⟩,⟨I,(lx:Int)⟩]) (fun i _=>∀x∈pl.take i,G l x.toNat=false) pl.length 0 () _ rfl (Yf _) (fun x hx=>by simp at hx) ?_ ?_
     ·rintro i _ hi hI
      obtain ⟨a,h1,h2,h3⟩:=(hpm _).1 (ZJ (d:=0) hi)
      by_cases hG:G l a=true
      ·simp+contextual(maxSteps:=9^6)(disch:=omega)only[↓YR,↓den,↓Z0,YS,O1.d,O2.d,O3.d,cmI,arI,Z1,Z2,seval,ZF,ZG,h2,hLi,Zou,hg0,ZN,ZO h1,hG]
       refine .inr ⟨i,a,rfl,hi,h2,⟨h1,hG,h3⟩,fun b hb hFb hbe=>?_⟩
       obtain ⟨j,hj,hje⟩:=List.mem_iff_getElem.1 ((hpm (b:Int)).2 ⟨b,by omega,rfl,hbe⟩)
       by_cases hji:j<i
       ·have:=hI (b:Int) (by rw [List.mem_take_iff_getElem];exact ⟨j,by omega,hje⟩)
        rw [Yv,hFb] at this;cases this
       ·have:=ZmZ hsrt (show i≤j by omega) hj
        rw [h2,getD_lt hj,hje] at this
        omega
      ·simp+contextual(maxSteps:=9^6)(disch:=omega)only[↓YR,↓den,↓Z0,YS,O1.d,O2.d,O3.d,cmI,arI,Z1,Z2,seval,ZF,ZG,h2,hLi,Zou,hg0,ZN,ZO h1,hG]
       intro x hx
       rcases (ZkS hi).1 hx with h4 | h4
       ·exact hI x h4
       ·rw [h4,h2,Yv];simpa using hG
     ·rintro _ hI
      rw [Yu] at hI
      simp+contextual(maxSteps:=9^6)(disch:=omega)only[↓YR,↓den,↓Z0,YS,O1.d,O2.d,O3.d,cmI,arI,Z1,Z2,seval,ZF,ZG,]
      refine .inl fun a ha hGa hed=>?_
      have:=hI (a:Int) ((hpm _).2 ⟨a,ha,rfl,hed⟩)
      rw [Yv,hGa] at this;cases this
    ·rintro us ⟨x,rfl,⟨rfl,hno⟩ | ⟨i,a,rfl,hi,hia,hpd⟩⟩
     ·have hblk:=ZT (ZnY h hst hsf hno)
      have hgl:((gen s (ZR (G l) (szn s.1)) st).length:Int)=bc s.1:=Zm8
      have hul:(ZR (G l) (szn s.1)).length≤szn s.1:=ZS
      have hum:∀x∈ZR (G l) (szn s.1),0≤x∧x<(szn s.1:Int):=fun x hx=>by obtain ⟨k,h1,rfl,_⟩:=Zkr.1 hx;omega
      have hgi:inC s (gen s (ZR (G l) (szn s.1)) st) st=true:=ZnC
      have hdrop:=RB.drop (s:=s) (l:=l) (F:=G) (st:=st) (by rw [hL];exact hin) hno
      have hKd:=hKG.drop h (l:=l) (by omega) (c:=gen s (ZR (G l) (szn s.1)) st) (Zns (ZnY h hst hsf hno) (i:=(sb s (stN s st)).length))
      have hgen:=fun Q=>Zm9 s (ZR (G l) (szn s.1)) st h hst ⟨by omega,hum⟩ Q
      rw [if_pos hblk] at hgen
      obtain ⟨d1,d2⟩:=ZnZ (c:=gen s (ZR (G l) (szn s.1)) st) (m:=m) (F:=G) (l:=l) hst (by omega:l+1<m) (by rw [hL];exact hin) hgi
      rw [hL] at hdrop hKd d1 d2
      generalize gen s (ZR (G l) (szn s.1)) st=c at hgl hgi hdrop hKd hgen d1 d2
      have hrem:=fun Q=>Zoy s h (steps s) (Zlv (steps s) (szn s.1)) C' tk1 [] c m 1 lx G hm hgl (by omega) hlm Q
      rw [Zoz,show ((1:Nat):Int)=1 from rfl] at hrem
      simp+contextual(maxSteps:=9^6)(disch:=omega)only[↓YR,↓den,↓Z0,YS,O1.d,O2.d,O3.d,cmI,arI,Z1,Z2,seval,ZF,ZG,↓ZH,hLi,Zou,hg0,Zlj (G l) (szn s.1) (by omega),hgen,hrem]
      refine ⟨_,?_,drp s c (lx+1) G,nw++[(c,(lx:Int))],⟨rfl,?_⟩,hKd,?_,fun F' new w hr=>?_,rfl⟩
      ·omega
      ·rw [←hC'];simp
      ·have hcl:=congrArg List.length hC'
       simp only [Y7,Yj] at hcl ⊢
       omega
      ·have hF:drp s c (lx+1) G lx st=false:=by simpa using d1
       have hout:F'=drp s c (lx+1) G∧new=[]∧w=[]:=(RB.det (.out hF) hr).elim fun a b=>⟨a.symm,b.1.symm,b.2.symm⟩
       obtain ⟨rfl,rfl,rfl⟩:=hout
       rw [Yx]
       exact hcont _ _ _ hdrop
     ·have hia2:pl.getD i 0=(a:Int):=hia
      simp+contextual(maxSteps:=9^6)(disch:=omega)only[↓YR,↓den,↓Z0,YS,O1.d,O2.d,O3.d,cmI,arI,Z1,Z2,seval,ZF,ZG,hpl,hpg,hia2,hLi]
      refine ih G C' tk1 a (by omega) hKG hbG hpd.1.1 (fun hl0=>?_) (by omega) (fun G' new hrb=>?_) fun G' new w tk' hrb hw=>?_
      ·subst hl0;exact (hKG.one a hpd.1.1).1 hpd.1.2.1
      ·obtain ⟨k1,k2,k3,k4,k5,k6⟩:=hrb.keep h (m:=m) (by omega) hpd.1.1 (fun g=>by cases g) hKG
       simp+contextual(maxSteps:=9^6)(disch:=omega)only[↓YR,↓den,↓Z0,YS,O1.d,O2.d,O3.d,cmI,arI,Z1,Z2,seval,ZF,ZG,]
       have hno:=k5 rfl
       refine ⟨_,ZnB (l:=l) hpd.1.1 hpd.1.2.1 (by rw [hno];simp) (by omega) k2,G',nw++new,?_,k1,?_,fun F' new' w hr=>?_,rfl⟩
       ·rw [←hC',Ym];exact ⟨rfl,rfl⟩
       ·have hcl:=congrArg List.length hC'
        simp only [Y7] at hcl ⊢
        omega
       ·have:=hcont F' (new++new') w (by have:=RB.again (new1:=new) (new2:=new') (by rw [hL];exact hin) hpd hrb (by rw [hL];exact hr);rw [hL] at this;exact this)
        rw [Ym];exact this
      ·have hrb2:RB s false lx G st G' new (w++[(st:Int)]):=by
        have:=RB.way (by rw [hL];exact hin) hpd hrb hw
        rw [hL] at this;exact this
       have:=fin2 _ _ _ tk' hrb2 (by simp)
       simp+contextual(maxSteps:=9^6)(disch:=omega)only[↓YR,↓den,↓Z0,YS,O1.d,O2.d,O3.d,cmI,arI,Z1,Z2,seval,ZF,ZG,]
       have e:w++tk1.reverse=(w++[(st:Int)])++tk.reverse:=by rw [←htk1];simp
       rw [e];exact this
   ·have hin0:G lx st=false:=by simpa using hin
    have hlt:((tk.length+1:Nat):Int) - 1=(tk.length:Int):=by omega
    have:=fin1 _ _ (.out hin0)
    rw [Yx] at this
    simp+contextual(maxSteps:=9^6)(disch:=omega)only[↓YR,↓den,↓Z0,YS,O1.d,O2.d,O3.d,cmI,arI,Z1,Z2,seval,ZF,ZG,↓ZH,Zou,hg1,ZN,ZO hst,hin,hln,hlt,htake]
    exact this
def ZoB (k n:Nat):List Bool:=List.replicate k true++List.replicate (n - k) false
theorem ZoC {k n:Nat} (h:k≤n):(ZoB k n).length=n:=by simp [ZoB];omega
theorem ZoD {n:Nat}:Z00 (List.replicate n false) [true]=ZoB (min 1 n) n:=by
 cases n with
 | zero=>simp [Z00,ZoB]
 | succ n =>
  have:min 1 (n+1)=1:=by omega
  rw [this]
  simp [Z00,ZoB,List.replicate_succ]
theorem ZoE {k n:Nat} (h:k≤n):(ZoB k n).take k++Z00 (((ZoB k n).take n).drop k) (((ZoB k n).take k).drop 0)++(ZoB k n).drop n=ZoB (k+min k (n - k)) n:=by
 have e1:(ZoB k n).take k=List.replicate k true:=by simp [ZoB]
 have e2:(ZoB k n).take n=ZoB k n:=YI (by rw [ZoC h];omega)
 have e3:(ZoB k n).drop n=[]:=List.drop_eq_nil_of_le (by rw [ZoC h];omega)
 have e4:(ZoB k n).drop k=List.replicate (n - k) false:=by simp [ZoB]
 rw [e1,e2,e3,e4,List.drop_zero,Yx]
 unfold Z00 ZoB
 rw [Yy,Yy,List.take_replicate,List.drop_replicate,←Ym,List.replicate_append_replicate]
 congr 2
 ·omega
 ·omega
theorem ZoF (n:Nat) (h:n≤1048576) (Q:List AV→Prop):mc.C Zcq [⟨L B,[true]⟩,⟨I,(n:Int)⟩] Q=Q [⟨L B,List.replicate n true⟩]:=by
 refine Mc.Ends.c (mc.ends Zh9 ?_)
 have w1:IntKind.u64.wrap 1=1:=by decide
 have w:=wrap_u64 (n:=n) (by omega)
 simp+contextual(maxSteps:=9^6)(disch:=omega)only[↓YR,↓den,↓Z0,YS,O1.d,O2.d,O3.d,cmI,arI,Z1,Z2,seval,ZF,ZG,ZeO,w1,w,Zme n h,ZoD,Yy]
 refine mc.lp_inv (fun j us=>∃k:Nat,us=[⟨I,(k:Int)⟩,⟨L B,ZoB k n⟩]∧k≤n∧(n=0∨1≤k)∧j=n - k) (n - min 1 n) _ ⟨min 1 n,?_,Nat.min_le_right ..,by omega,rfl⟩ ?_
 ·rw [show (if (n:Int)<1 then (n:Int) else 1)=((min 1 n:Nat):Int) by omega]
 rintro j us ⟨k,rfl,i1,i2,rfl⟩
 have hl:=ZoC i1
 have l1:(List.drop k (List.take n (ZoB k n))).length=n - k:=by rw [Yq,Yb,hl];omega
 have l2:(List.drop 0 (List.take k (ZoB k n))).length=k:=by rw [Yq,Yb,hl];omega
 simp+contextual(maxSteps:=9^6)(disch:=omega)only[↓YR,↓den,↓Z0,YS,O1.d,O2.d,O3.d,cmI,arI,Z1,Z2,seval,ZF,ZG,↓ZH,hl,l1,l2,ZoE i1]
 refine ⟨fun g=>?_,fun g=>?_⟩
 ·have hkn:k<n:=Int.ofNat_lt.1 g
  refine ⟨_,?_,k+min k (n - k),⟨?_,rfl⟩,by omega,by omega,rfl⟩
  ·omega
  rw [show (if ((n - k:Nat):Int)<(k:Int) then ((n - k:Nat):Int) else (k:Int))=((min k (n - k):Nat):Int) by omega]
  rw [Zbi (by omega) (by omega)]
  exact (Int.natCast_add _ _).symm
 ·have hkn:¬k<n:=fun hh=>g (Int.ofNat_lt.2 hh)
  have:k=n:=by omega
  subst this
  simp [ZoB]
end Go.Proofs.YtdgpohclhppodaaGreat
namespace Go.Proofs.YtdgpohclhppodaaGreat
open Go Go.Sm Go.Sm.Q
theorem ZoG (s:Sy) (h:valid s) (M:Nat) (F:Nat→Nat→Bool) (C:List (List Int×Int)) (tk:List Int) (hM1:1≤M) (hM2:M≤30) (hC:∀x∈C,(x.1.length:Int)=bc s.1) (hCl:C.length≤20000) {Q:List AV→Prop}
  (hQ:∀D,Zo0 D (Z_ s (M - 1) F C).2→D.length=C.length→Q [cv s (frB (szn s.1) (Z_ s (M - 1) F C).1 (M+1)) D tk []]) :
  mc.C ZcC [cv s (frB (szn s.1) F (M+1)) C tk []] Q:=by
 have hz:=ZP h
 obtain ⟨M1,hMM⟩:∃M1,M+1=M1:=⟨_,rfl⟩
 have hM3:(M1:Int) - 1=(M:Int):=by omega
 rw [hMM] at hQ ⊢
 refine mc.c_of Zhl ?_
 simp+contextual(maxSteps:=9^6)(disch:=omega)only[↓YR,↓den,↓Z0,YS,O1.d,O2.d,O3.d,cmI,arI,Z1,Z2,seval,ZF,ZG,Ze_]
 refine mc.lp_for ((Nat→Nat→Bool)×List (List Int×Int)) (fun i z=>[⟨I,(i:Int)+1⟩,⟨L V3,s.1⟩,⟨L TR,s.2⟩,⟨L (L I),steps s⟩,⟨L (L I),Zlv (steps s) (szn s.1)⟩,⟨N I,[]⟩,⟨L (L B),frB (szn s.1) z.1 M1⟩,⟨L (P (L I) I),z.2⟩,⟨L I,tk⟩])
  (fun i z=>z.1=(Z_ s i F C).1∧Zo0 z.2 (Z_ s i F C).2∧(∀x∈z.2,(x.1.length:Int)=bc s.1)∧z.2.length=C.length) (M - 1) 0 (F,C) _ (by simp) (Yf _) ⟨rfl,Zo0.refl,hC,rfl⟩ ?_ ?_
 ·rintro i ⟨G,D⟩ hi ⟨hG,hS,hD,hDl⟩
  dsimp only at hG hS hD hDl
  have hgi:(frB (szn s.1) G M1).getD (i+1) []=tab (G (i+1)) (szn s.1):=Zov (by omega)
  have hn1:((i:Int)+1).toNat=i+1:=by omega
  have hul:(ZR (G (i+1)) (szn s.1)).length≤szn s.1:=ZS
  have hum:∀x∈ZR (G (i+1)) (szn s.1),0≤x∧x<(szn s.1:Int):=fun x hx=>by obtain ⟨k,h1,rfl,_⟩:=Zkr.1 hx;omega
  simp+contextual(maxSteps:=9^6)(disch:=omega)only[↓YR,↓den,↓Z0,YS,O1.d,O2.d,O3.d,cmI,arI,Z1,Z2,seval,ZF,ZG,Zou,hM3,hn1,hgi,Zlj (G (i+1)) (szn s.1) (by omega)]
  refine mc.lp_for (List (List Int×Int)×List (List Int×Int)) (fun k z=>[⟨I,(i:Int)+1⟩,⟨I,(D.length:Int)⟩,⟨I,(k:Int)⟩,⟨L V3,s.1⟩,⟨L TR,s.2⟩,⟨L (L I),steps s⟩,⟨L (L I),Zlv (steps s) (szn s.1)⟩,⟨N I,[]⟩,⟨L (L B),frB (szn s.1) (ZY s (i+1) G (D.take k)) M1⟩,⟨L (P (L I) I),D⟩,⟨L I,tk⟩,⟨L I,ZR (G (i+1)) (szn s.1)⟩,⟨L (P (L I) I),z.1⟩,⟨L (P (L I) I),z.2⟩])
   (fun k z=>Zo0 (z.1++z.2) ((D.take k).map (ZZ s (i+1) G))∧z.1.length+z.2.length=k) D.length 0 ([],[]) _ ?_ (Yf _) ⟨fun x=>by simp,rfl⟩ ?_ ?_
  ·rw [List.take_zero,Zom];rfl
  ·rintro k ⟨A,Z⟩ hk ⟨hA,hAl⟩
   dsimp only at hA hAl
   have hx:D.getD k ([],0)∈D:=ZJ hk
   obtain ⟨x,hxe⟩:∃x,D.getD k ([],0)=x:=⟨_,rfl⟩
   rw [hxe] at hx
   have hc:=hD x hx
   have htl:=Zok (d:=([],0)) hk
   rw [hxe] at htl
   have hfr:∀(j k':Nat),ZY s (i+1) G (D.take (k+1)) j k'=(ZY s (i+1) G (D.take k) j k'&&(if j=i+1+1∧x.2=((i+1:Nat):Int)∧dB (blk s (ZR (G (i+1)) (szn s.1)) x.1)=true then !inC s x.1 k' else true)):=fun j k'=>by rw [htl];exact Zol
   have hsn:((D.take (k+1)).map (ZZ s (i+1) G))=(D.take k).map (ZZ s (i+1) G)++[ZZ s (i+1) G x]:=by rw [htl];simp
   have hstay:ZZ s (i+1) G x=x→Zo0 ((A++[(x.1,x.2)])++Z) ((D.take (k+1)).map (ZZ s (i+1) G)):=fun g y=>by
    rw [hsn,g]
    have:=hA y
    simp only [Y6,Y1] at this ⊢
    rw [←this]
    constructor
    ·rintro ((q | q) | q)
     ·exact .inl (.inl q)
     ·exact .inr q
     ·exact .inl (.inr q)
    ·rintro ((q | q) | q)
     ·exact .inl (.inl q)
     ·exact .inr q
     ·exact .inl (.inr q)
   have hxe2:D.getD k (Ty.z (P (L I) I))=x:=hxe
   by_cases hxl:x.2=(i:Int)+1
   ·by_cases hb:dB (blk s (ZR (G (i+1)) (szn s.1)) x.1)=true
    ·have hrem:=fun Q=>Zoy s h (steps s) (Zlv (steps s) (szn s.1)) D tk [] x.1 M1 (i+1+1) (i+1+1) (ZY s (i+1) G (D.take k)) (by omega) hc (Yh _) (by omega) Q
     have hfin:frB (szn s.1) (drq s x.1 (i+1+1) (i+1+1) (ZY s (i+1) G (D.take k))) M1=frB (szn s.1) (ZY s (i+1) G (D.take (k+1))) M1:=Zow fun j k' _ _=>by
      rw [hfr]
      unfold drq
      by_cases he:j=i+1+1
      ·rw [if_pos (by omega),if_pos ⟨he,by rw [hxl];simp,hb⟩]
      ·rw [if_neg (by omega),if_neg fun q=>he q.1,Bool.and_true]
     rw [hfin,show (((i+1+1:Nat)):Int)=(i:Int)+1+1 by omega] at hrem
     simp+contextual(maxSteps:=9^6)(disch:=omega)only[↓YR,↓den,↓Z0,YS,O1.d,O2.d,O3.d,cmI,arI,Z1,Z2,seval,ZF,ZG,↓ZH,hxe2,hxe,hxl,ZlZ s _ _ h ⟨(by omega:(ZR (G (i+1)) (szn s.1)).length≤1048576),hum⟩ hc,hb,hrem]
     refine ⟨(A,Z++[(x.1,(i:Int)+1+1)]),⟨rfl,rfl⟩,fun y=>?_,by dsimp only;rw [Y7,Yj];omega⟩
     have hp:ZZ s (i+1) G x=(x.1,(i:Int)+1+1):=by
      unfold ZZ
      rw [if_pos (ZT ⟨by rw [hxl];simp,ZkH.1 hb⟩)];simp
     rw [hsn,hp]
     have:=hA y
     simp only [Y6,Y1] at this ⊢
     rw [←this]
     exact ⟨fun q=>q.elim (fun q=>.inl (.inl q)) fun q=>q.elim (fun q=>.inl (.inr q)) .inr,fun q=>q.elim (fun q=>q.elim .inl fun q=>.inr (.inl q)) fun q=>.inr (.inr q)⟩
    ·have hb0:dB (blk s (ZR (G (i+1)) (szn s.1)) x.1)=false:=by simpa using hb
     have hfin:frB (szn s.1) (ZY s (i+1) G (D.take k)) M1=frB (szn s.1) (ZY s (i+1) G (D.take (k+1))) M1:=Zow fun j k' _ _=>by
      rw [hfr,if_neg fun q=>hb q.2.2,Bool.and_true]
     have hp:=hstay (by unfold ZZ;rw [if_neg fun q=>hb (ZT (ZkH.1 q).2)])
     rw [hxl] at hp
     simp+contextual(maxSteps:=9^6)(disch:=omega)only[↓YR,↓den,↓Z0,YS,O1.d,O2.d,O3.d,cmI,arI,Z1,Z2,seval,ZF,ZG,↓ZH,hxe2,hxe,hxl,ZlZ s _ _ h ⟨(by omega:(ZR (G (i+1)) (szn s.1)).length≤1048576),hum⟩ hc,hb0,hfin]
     exact ⟨(A++[(x.1,(i:Int)+1)],Z),⟨rfl,rfl⟩,hp,by dsimp only;rw [Y7,Yj];omega⟩
   ·have hfin:frB (szn s.1) (ZY s (i+1) G (D.take k)) M1=frB (szn s.1) (ZY s (i+1) G (D.take (k+1))) M1:=Zow fun j k' _ _=>by
     rw [hfr,if_neg fun q=>hxl (by rw [q.2.1];simp),Bool.and_true]
    have hp:=hstay (by unfold ZZ;rw [if_neg fun q=>hxl (by rw [(ZkH.1 q).1];simp)])
    simp+contextual(maxSteps:=9^6)(disch:=omega)only[↓YR,↓den,↓Z0,YS,O1.d,O2.d,O3.d,cmI,arI,Z1,Z2,seval,ZF,ZG,↓ZH,hxe2,hxe,hxl,hfin]
    exact ⟨(A++[(x.1,x.2)],Z),⟨rfl,rfl⟩,hp,by dsimp only;rw [Y7,Yj];omega⟩
  ·rintro ⟨A,Z⟩ ⟨hA,hAl⟩
   dsimp only at hA hAl
   rw [Yu] at hA ⊢
   simp+contextual(maxSteps:=9^6)(disch:=omega)only[↓YR,↓den,↓Z0,YS,O1.d,O2.d,O3.d,cmI,arI,Z1,Z2,seval,ZF,ZG,]
   refine ⟨(ZY s (i+1) G D,A++Z),⟨rfl,rfl⟩,?_,?_,fun x hx=>?_,?_⟩
   ·simp only [Z_];rw [hG,Zo1 hS]
   ·simp only [Z_]
    rw [←hG]
    exact Zo0.trans hA (Zo2 hS)
   ·obtain ⟨y,hy,rfl⟩:=Yo.1 ((hA x).1 hx)
    have:=hD y hy
    unfold ZZ
    split<;>exact this
   ·dsimp only;rw [Y7];omega
 ·rintro ⟨G,D⟩ ⟨hG,hS,-,hDl⟩
  dsimp only at hG hS hDl
  have hMi:((M - 1:Nat):Int)+1=(M:Int):=by omega
  have:=hQ D hS hDl
  rw [←hG] at this
  simp+contextual(maxSteps:=9^6)(disch:=omega)only[↓YR,↓den,↓Z0,YS,O1.d,O2.d,O3.d,cmI,arI,Z1,Z2,seval,ZF,ZG,Zou,hMi,hM3]
  exact this
def ZoH (s:Sy) (g:Nat→Bool) (w:List Int) (Y:List (List Int)) (R:List Int):Prop :=
 (w=[]∧Y=[]∧R=[])∨∃(D:Nat) (ch:Nat→Nat),w=tab (fun i=>((ch i:Nat):Int)) (D+1)∧D≤60∧ch D<szn s.1∧g (ch D)=false∧IsRun s D (fun i=>stN s (ch i))∧Y=tab (fun i=>stN s (ch i)) (D+1)∧R=Zn6 s (fun i=>stN s (ch i)) D
theorem CI.same {s:Sy} {g:Nat→Bool} {m:Nat} {F:Nat→Nat→Bool} {A:List (List Int×Int)} {r:CR} (h:CI s g m F A r):∀{C:List (List Int×Int)},Zo0 A C→CI s g m F C r:=by
 induction h with
 | stop h1=>exact fun _=>.stop h1
 | way h1 h2 h3=>exact fun _=>.way h1 h2 h3
 | @safe m F F1 A new i h1 h2 h3 h4 =>
  intro C hs
  have hp:=(Zo3 (s:=s) (F:=F1) (t:=m - 1) (hs.app new)).1
  rw [hp] at h3 h4
  rw [hp]
  exact .safe h1 h2 h3 h4
 | @next m F F1 A new r h1 h2 h3 _ ih =>
  intro C hs
  obtain ⟨hp,hq⟩:=Zo3 (s:=s) (F:=F1) (t:=m - 1) (hs.app new)
  refine .next h1 h2 (by rw [←hp];exact h3) ?_
  rw [←hp]
  exact ih hq
theorem ZoI (s:Sy) (hs:ZK s) (h:valid s) (g:Nat→Bool) (m:Nat) (F:Nat→Nat→Bool) (C:List (List Int×Int)) (tk w:List Int) (hm:m≤40) (hw:w=[]∨∃D st,D≤60∧st<szn s.1∧g st=false∧IsW s D st w) {Q:List AV→Prop}
  (hQ:∀Y R,ZoH s g w Y R→Q [⟨B,false⟩,⟨L (L I),frT (szn s.1) F m⟩,⟨L I,[]⟩,⟨L (L I),Y⟩,⟨L I,R⟩,cv s (frB (szn s.1) F m) C tk w]) :
  mc.C Zcm [cv s (frB (szn s.1) F m) C tk w] Q:=by
 have hz:=ZP h
 refine mc.c_of Zh5 ?_
 simp+contextual(maxSteps:=9^6)(disch:=omega)only[↓YR,↓den,↓Z0,YS,O1.d,O2.d,O3.d,cmI,arI,Z1,Z2,seval,ZF,ZG,ZeK,Zou]
 refine mc.lp_for (List (List Int)) (fun i o=>[⟨I,(m:Int)⟩,⟨I,(i:Int)⟩,⟨L V3,s.1⟩,⟨L TR,s.2⟩,⟨L (L I),steps s⟩,⟨L (L I),Zlv (steps s) (szn s.1)⟩,⟨N I,w⟩,⟨L (L B),frB (szn s.1) F m⟩,⟨L (P (L I) I),C⟩,⟨L I,tk⟩,⟨B,false⟩,⟨B,false⟩,⟨L (L I),o⟩]) (fun i o=>o=frT (szn s.1) F i) m 0 [] _ rfl (Yf _) rfl ?_ ?_
 ·rintro i o hi rfl
  have hl:(frT (szn s.1) F i).length=i:=ZN
  simp+contextual(maxSteps:=9^6)(disch:=omega)only[↓YR,↓den,↓Z0,YS,O1.d,O2.d,O3.d,cmI,arI,Z1,Z2,seval,ZF,ZG,Zou,Zov hi,Zlj (F i) (szn s.1) (by omega)]
  exact Zkd
 ·rintro o rfl
  have hl:(frT (szn s.1) F m).length=m:=ZN
  rcases hw with rfl | ⟨D,st,hD,hst,hg,hw⟩
  ·have:=hQ [] [] (.inl ⟨rfl,rfl,rfl⟩)
   simp+contextual(maxSteps:=9^6)(disch:=omega)only[↓YR,↓den,↓Z0,YS,O1.d,O2.d,O3.d,cmI,arI,Z1,Z2,seval,ZF,ZG,↓ZH,ZjU _ (by omega:(frT (szn s.1) F m).length≤1048576),List.isEmpty_nil]
   exact this
  ·have hw1:=hw.ne
   obtain ⟨ch,hwe,c0,cD,cn,ce⟩:=hw
   obtain ⟨hfe,hfn⟩:=Znz h
   have hrun:IsRun s D (fun i=>stN s (ch i)):=⟨by omega,ZmP h (by rw [hfe];exact congrArg Int.ofNat c0.symm),fun e he=>Zkh h (cn e he),fun e he=>ZmU h (cn e (by omega)) (ce e he)⟩
   have hne:w.isEmpty=false:=by simpa using hw1.1
   have hwl:=hw1.2
   have:=hQ _ _ (.inr ⟨D,ch,hwe,hD,by rw [cD];exact hst,by rw [cD];exact hg,hrun,rfl,rfl⟩)
   simp+contextual(maxSteps:=9^6)(disch:=omega)only[↓YR,↓den,↓Z0,YS,O1.d,O2.d,O3.d,cmI,arI,Z1,Z2,seval,ZF,ZG,↓ZH,ZjU _ (by omega:(frT (szn s.1) F m).length≤1048576),hne]
   refine mc.lp_for (List (List Int)) (fun i o=>[⟨N I,w⟩,⟨I,(w.length:Int)⟩,⟨I,(i:Int)⟩,⟨L V3,s.1⟩,⟨L TR,s.2⟩,⟨L (L I),steps s⟩,⟨L (L I),Zlv (steps s) (szn s.1)⟩,⟨N I,w⟩,⟨L (L B),frB (szn s.1) F m⟩,⟨L (P (L I) I),C⟩,⟨L I,tk⟩,⟨B,false⟩,⟨B,false⟩,⟨L (L I),frT (szn s.1) F m⟩,⟨L (L I),o⟩]) (fun i o=>o=tab (fun i=>stN s (ch i)) i) (D+1) 0 [] _ rfl (Yf _) rfl ?_ ?_
   ·rintro i o hi rfl
    have h3:=cn i (by omega)
    have h4:(tab (fun i=>stN s (ch i)) i).length=i:=ZN
    have hwi:w.getD i 0=((ch i:Nat):Int):=by rw [hwe];exact ZO hi
    simp+contextual(maxSteps:=9^6)(disch:=omega)only[↓YR,↓den,↓Z0,YS,O1.d,O2.d,O3.d,cmI,arI,Z1,Z2,seval,ZF,ZG,hwl,hwi,Zkb s ((ch i:Nat):Int) h.1.2 h.2.2.1 (by omega:(0:Int)≤((ch i:Nat):Int)∧((ch i:Nat):Int)≤3200000)]
    exact Zkd
   ·rintro o rfl
    simp+contextual(maxSteps:=9^6)(disch:=omega)only[↓YR,↓den,↓Z0,YS,O1.d,O2.d,O3.d,cmI,arI,Z1,Z2,seval,ZF,ZG,hwl,Zn7 s D (fun i=>stN s (ch i)) hs h hrun]
    exact this
theorem ZoJ (s:Sy) (l:List Tm) (hs:ZK s) (hf:Few l) (h0:valid s) (h1:kf l s.1.length=2) {Q:List AV→Prop} (hQ:∀(r:CR) (Y:List (List Int)) (R:List Int),CI0 s (ZQ s l) r→ZoH s (ZQ s l) r.w Y R→Q [⟨B,r.safe⟩,⟨L (L I),r.X⟩,⟨L I,r.sh⟩,⟨L (L I),Y⟩,⟨L I,R⟩,⟨B,r.ok⟩]) :
  mc.C ZcE [⟨L V3,s.1⟩,⟨L TR,s.2⟩,⟨L T4,l⟩] Q:=by
 refine mc.c_of Zhn ?_
 have hz:=ZP h0
 obtain ⟨hfe,hfn⟩:=Znz h0
 have hgl:(tab (ZQ s l) (szn s.1)).length=szn s.1:=ZN
 have hmk:∀x∈[(fn0 s:Int)],0≤x∧x<(szn s.1:Int):=fun x hx=>by rw [Y1.1 hx];omega
 have hfr1:[tab (fun k=>dB ((k:Int)∈[(fn0 s:Int)])) (szn s.1)]=frB (szn s.1) (fun _ k=>decide (k=fn0 s)) 1:=by
  simp only [frB]
  show [_]=[_]
  congr 1
  refine ZV fun k _=>?_
  rw [ZkJ]
  exact decide_eq_decide.2 ⟨fun q=>by have:=Y1.1 q;omega,fun q=>by rw [q];exact Y1.2 rfl⟩
 have hpe:∀Q,mc.C Zce [⟨L (L I),steps s⟩] Q=Q [⟨L (L I),Zlv (steps s) (szn s.1)⟩]:=fun Q=>Zlw (steps s) (szn s.1) (Zlt h0) Q
 simp+contextual(maxSteps:=9^6)(disch:=omega)only[↓YR,↓den,↓Z0,YS,O1.d,O2.d,O3.d,cmI,arI,Z1,Z2,seval,ZF,ZG,↓ZH,Zf1,ZmH s l hs hf ⟨h0,h1⟩,ZjY s h0.1.2,Zk4 s _ h0.1.2 h0.2.2.1 (ZjW h0.2.2.1),hfe,Zkn s h0,hgl,Zlk [(fn0 s:Int)] (szn s.1) (by omega) (by simp) hmk,hfr1,hpe,ZO hfn]
 by_cases hg:ZQ s l (fn0 s)=true
 ·simp+contextual(maxSteps:=9^6)(disch:=omega)only[↓YR,↓den,↓Z0,YS,O1.d,O2.d,O3.d,cmI,arI,Z1,Z2,seval,ZF,ZG,hg]
  replace hQ:=fun r Y R h=>hQ r Y R (.inl ⟨hg,h⟩)
  refine mc.lp_inv (fun j us=>∃(m:Nat) (G:Nat→Nat→Bool) (C:List (List Int×Int)),us=[⟨I,(szn s.1:Int)⟩,⟨B,false⟩,⟨L B,tab (ZQ s l) (szn s.1)⟩,⟨L V3,s.1⟩,⟨L TR,s.2⟩,⟨L (L I),steps s⟩,⟨L (L I),Zlv (steps s) (szn s.1)⟩,⟨N I,[]⟩,⟨L (L B),frB (szn s.1) G m⟩,⟨L (P (L I) I),C⟩,⟨L I,[]⟩]∧FK s m G∧CK s m G C∧1≤m∧m≤30∧C.length+muP (szn s.1) G m≤400 * m ∧
    (∀r,CI s (ZQ s l) m G C r→CI s (ZQ s l) 1 (fun _ k=>decide (k=fn0 s)) [] r)∧j=100 - m)
   _ _ ⟨1,_,[],rfl,Zop,fun x hx=>(by cases hx),Yh _,by omega,?_,fun _ h=>h,rfl⟩ ?_
  ·have:=@ZS (fun k=>decide (k=fn0 s)) (szn s.1)
   simp only [muP,List.length_nil];omega
  rintro j us ⟨m,G,C,rfl,hK,hC,hm1,hm2,hbd,hcont,rfl⟩
  by_cases hm:m<30
  ·have hnew:frB (szn s.1) G m++[List.replicate (szn s.1) true]=frB (szn s.1) (exF G m) (m+1):=by
    unfold frB exF
    rw [←Zkd]
    congr 1
    ·exact ZV fun j hj=>ZV fun k _=>by rw [if_neg (by omega)]
    ·simp only [if_true]
     have:List.replicate (szn s.1) true=tab (fun _=>true) (szn s.1):=by
      apply List.ext_getElem
      ·simp [tab]
      ·intro i a b;simp [tab]
     rw [this]
   have hmu:muP (szn s.1) (exF G m) (m+1)≤muP (szn s.1) G m+szn s.1:=by
    have h4:=ZnA (n:=szn s.1) (F:=exF G m) (G:=G) (m:=m) fun j k hj _ hh=>by unfold exF at hh;rw [if_neg (by omega)] at hh;exact hh
    have h5:(ZR (exF G m m) (szn s.1)).length≤szn s.1:=ZS
    simp only [muP];omega
   have hKe:=Zo9 hK hm1
   have hCe:=Zoa hC
   obtain ⟨M1,hMM⟩:∃M1,m+1=M1:=⟨_,rfl⟩
   have hMi:(M1:Int) - 1=(m:Int):=by omega
   rw [hMM] at hnew
   simp+contextual(maxSteps:=9^6)(disch:=omega)only[↓YR,↓den,↓Z0,YS,O1.d,O2.d,O3.d,cmI,arI,Z1,Z2,seval,ZF,ZG,Zou,ZoF (szn s.1) (by omega),hnew,hMi]
   refine mc.lp_for ((Nat→Nat→Bool)×List (List Int×Int)) (fun k z=>[⟨I,(szn s.1:Int)⟩,⟨I,(m:Int)⟩,⟨I,(szn s.1:Int)⟩,⟨I,(k:Int)⟩,⟨B,false⟩,⟨L B,tab (ZQ s l) (szn s.1)⟩,⟨L V3,s.1⟩,⟨L TR,s.2⟩,⟨L (L I),steps s⟩,⟨L (L I),Zlv (steps s) (szn s.1)⟩,⟨N I,[]⟩,⟨L (L B),frB (szn s.1) z.1 M1⟩,⟨L (P (L I) I),C++z.2⟩,⟨L I,[]⟩])
    (fun k z=>FK s (m+1) z.1∧(C++z.2).length+muP (szn s.1) z.1 (m+1)≤20000∧∀F' new w,RC s (ZQ s l) m k z.1 F' new w→RC s (ZQ s l) m 0 (exF G m) F' (z.2++new) w) (szn s.1) 0 (exF G m,[]) _ (by simp) (Yf _) ⟨hKe,by show (C++[]).length+muP (szn s.1) (exF G m) (m+1)≤20000;rw [Yx];omega,fun _ _ _ q=>q⟩ ?_ ?_
   ·rintro k ⟨H,nw⟩ hk ⟨hKH,hbH,hcH⟩
    dsimp only at hKH hbH hcH
    have hgm:(frB (szn s.1) H M1).getD m []=tab (H m) (szn s.1):=Zov (by omega)
    obtain ⟨C',hC'⟩:∃C',C++nw=C':=⟨_,rfl⟩
    have htake:=fun {Q:List AV→Prop}=>ZoA s hs h0 (m+1) (by omega) m H (C++nw) [] k (by omega) hKH hbH hk (fun q=>by omega) (by simp;omega) (Q:=Q)
    rw [hC',hMM] at htake
    rw [hC']
    have skip:(H m k=true→ZQ s l k=true)→∀F' new w,RC s (ZQ s l) m (k+1) H F' new w→RC s (ZQ s l) m 0 (exF G m) F' (nw++new) w:=fun q F' new w hr=>hcH _ _ _ (.skip hk q hr)
    by_cases hin:H m k=true
    ·by_cases hgk:ZQ s l k=true
     ·simp+contextual(maxSteps:=9^6)(disch:=omega)only[↓YR,↓den,↓Z0,YS,O1.d,O2.d,O3.d,cmI,arI,Z1,Z2,seval,ZF,ZG,↓ZH,Zou,hgm,hgl,ZN,ZO hk,hin,hgk]
      exact ⟨(H,nw),⟨rfl,hC'.symm⟩,hKH,(by rw [Y7] at hbH;exact hbH),skip fun _=>hgk⟩
     ·have hgk0:ZQ s l k=false:=by simpa using hgk
      simp+contextual(maxSteps:=9^6)(disch:=omega)only[↓YR,↓den,↓Z0,YS,O1.d,O2.d,O3.d,cmI,arI,Z1,Z2,seval,ZF,ZG,↓ZH,Zou,hgm,hgl,ZN,ZO hk,hin,hgk0]
      refine htake (fun F' new hrb=>?_) fun F' new w tk' hrb hw=>?_
      ·obtain ⟨k1,k2,k3,k4,k5,k6⟩:=hrb.keep h0 (m:=m+1) (by omega) hk (fun g=>by cases g) hKH
       simp+contextual(maxSteps:=9^6)(disch:=omega)only[↓YR,↓den,↓Z0,YS,O1.d,O2.d,O3.d,cmI,arI,Z1,Z2,seval,ZF,ZG,↓ZH,]
       refine ⟨(F',nw++new),⟨rfl,by rw [←hC',Ym]⟩,k1,?_,fun F'' new' w' hr=>?_⟩
       ·simp only [Y7] at hbH ⊢
        omega
       ·dsimp only
        rw [Ym]
        exact hcH _ _ _ (.next hk hin hgk0 hrb hr)
      ·have hrc:=hcH _ _ _ (RC.way hk hin hgk0 hrb hw)
       obtain ⟨D,st,b1,b2,b3,b4⟩:=(hrc.keep h0 hKe).2.2.2.2.2 hw
       have hres:=fun {Q:List AV→Prop}=>ZoI s hs h0 (ZQ s l) M1 F' (C'++new) tk' w (by omega) (.inr ⟨D,st,by omega,b2,b3,b4⟩) (Q:=Q)
       rw [List.reverse_nil,Yx]
       simp+contextual(maxSteps:=9^6)(disch:=omega)only[↓YR,↓den,↓Z0,YS,O1.d,O2.d,O3.d,cmI,arI,Z1,Z2,seval,ZF,ZG,↓ZH,]
       refine hres fun Y R hY=>?_
       simp+contextual(maxSteps:=9^6)(disch:=omega)only[↓YR,↓den,↓Z0,YS,O1.d,O2.d,O3.d,cmI,arI,Z1,Z2,seval,ZF,ZG,↓ZH,]
       have:=hQ _ Y R (hcont _ (.way hm hrc hw)) hY
       rw [hMM] at this
       exact this
    ·simp+contextual(maxSteps:=9^6)(disch:=omega)only[↓YR,↓den,↓Z0,YS,O1.d,O2.d,O3.d,cmI,arI,Z1,Z2,seval,ZF,ZG,↓ZH,Zou,hgm,hgl,ZN,ZO hk,hin]
     exact ⟨(H,nw),⟨rfl,hC'.symm⟩,hKH,(by rw [Y7] at hbH;exact hbH),skip fun q=>absurd q hin⟩
   ·rintro ⟨H,nw⟩ ⟨hKH,hbH,hcH⟩
    dsimp only at hKH hbH hcH
    have hrc:RC s (ZQ s l) m 0 (exF G m) H nw []:=by
     have:=hcH H [] [] (.done (Yh _))
     rwa [Yx] at this
    obtain ⟨k1,k2,k3,k4,k5,k6⟩:=hrc.keep h0 hKe
    have hC2:CK s (m+1) H (C++nw):=(hCe.less k2).app k3
    obtain ⟨p1,p2,p3,p4⟩:=Zo8 k1 hC2 (t:=m - 1) (by omega)
    have hpush:=fun {Q:List AV→Prop}=>ZoG s h0 m H (C++nw) [] hm1 (by omega) (fun x hx=>(hC2 x hx).1) (by simp only [Y7] at hbH ⊢;omega) (Q:=Q)
    have hsafe:=fun i ha hb=>hcont _ (CI.safe hm hrc (i:=i) ha hb)
    have hnext:=fun r ha hr=>hcont _ (CI.next (r:=r) hm hrc ha hr)
    have hmu2:=ZnA (n:=szn s.1) (F:=(Z_ s (m - 1) H (C++nw)).1) (G:=H) (m:=m+1) fun i k _ _ hh=>p3 i k hh
    obtain ⟨C',hC'⟩:∃C',C++nw=C':=⟨_,rfl⟩
    have hCl:C'.length+muP (szn s.1) H (m+1)≤400 * (m+1):=by rw [←hC',Y7];omega
    rw [hC'] at hpush hsafe hnext hmu2 p1 p2 p3 p4 hbH ⊢
    rw [hMM] at hpush
    simp+contextual(maxSteps:=9^6)(disch:=omega)only[↓YR,↓den,↓Z0,YS,O1.d,O2.d,O3.d,cmI,arI,Z1,Z2,seval,ZF,ZG,Zou]
    refine hpush fun D hS hDl=>?_
    have hres:=fun {Q:List AV→Prop}=>ZoI s hs h0 (ZQ s l) M1 (Z_ s (m - 1) H C').1 D [] [] (by omega) (.inl rfl) (Q:=Q)
    generalize (Z_ s (m - 1) H C').2=C2 at p2 p4 hnext hS
    generalize (Z_ s (m - 1) H C').1=F2 at p1 p2 p3 hmu2 hsafe hnext hres ⊢
    simp+contextual(maxSteps:=9^6)(disch:=omega)only[↓YR,↓den,↓Z0,YS,O1.d,O2.d,O3.d,cmI,arI,Z1,Z2,seval,ZF,ZG,]
    refine hres fun Y R hY=>?_
    rcases hY with ⟨-,rfl,rfl⟩ | ⟨D',ch,he,-⟩
    case inr =>
     have:=congrArg List.length he
     rw [ZN] at this;simp at this
    rw [hMM] at hsafe hnext
    have hlen2:(frT (szn s.1) F2 M1).length=M1:=ZN
    have hrow:∀i,((frT (szn s.1) F2 M1).getD i []).length≤1048576:=fun i=>by
     by_cases hi:i<M1
     ·rw [Zob hi];exact Nat.le_trans ZS (by omega)
     ·rw [Y8,Yz (by omega)];simp
    simp+contextual(maxSteps:=9^6)(disch:=omega)only[↓YR,↓den,↓Z0,YS,O1.d,O2.d,O3.d,cmI,arI,Z1,Z2,seval,ZF,ZG,ZnI _ (by omega:(frT (szn s.1) F2 M1).length≤1000) hrow]
    by_cases hex:∃i,alike (frT (szn s.1) F2 M1) i
    ·obtain ⟨i,ha,hmin⟩:=least hex
     have hi1:=ha.1
     have hi2:=ha.2.1
     rw [hlen2] at hi2
     simp+contextual(maxSteps:=9^6)(disch:=omega)only[↓YR,↓den,↓Z0,YS,O1.d,O2.d,O3.d,cmI,arI,Z1,Z2,seval,ZF,ZG,ZnF ha hmin,hlen2,Zju _ (hrow i)]
     exact hQ _ [] [] (hsafe i ha hmin) (.inl ⟨rfl,rfl,rfl⟩)
    ·have hno:∀j,¬alike (frT (szn s.1) F2 M1) j:=fun j hj=>hex ⟨j,hj⟩
     simp+contextual(maxSteps:=9^6)(disch:=omega)only[↓YR,↓den,↓Z0,YS,O1.d,O2.d,O3.d,cmI,arI,Z1,Z2,seval,ZF,ZG,ZnG hno]
     refine ⟨_,?_,m+1,F2,D,?_,p1,?_,by omega,by omega,?_,fun r hr=>?_,rfl⟩
     ·omega
     ·rw [hMM];exact ⟨rfl,rfl⟩
     ·intro x hx;exact p2 x ((hS x).1 hx)
     ·rw [hDl];omega
     ·exact hnext r hno (by rw [←hMM];exact hr.same hS)
  ·simp+contextual(maxSteps:=9^6)(disch:=omega)only[↓YR,↓den,↓Z0,YS,O1.d,O2.d,O3.d,cmI,arI,Z1,Z2,seval,ZF,ZG,Zou]
   exact hQ _ [] [] (hcont _ (.stop hm)) (.inl ⟨rfl,rfl,rfl⟩)
 ·have hg':ZQ s l (fn0 s)=false:=by simpa using hg
  have hisw:IsW s 0 (fn0 s) [(fn0 s:Int)]:=⟨fun _=>fn0 s,rfl,rfl,rfl,fun _ _=>hfn,fun e he=>absurd he (Nat.not_lt_zero _)⟩
  have hres:=fun {Q:List AV→Prop}=>ZoI s hs h0 (ZQ s l) 1 (fun _ k=>decide (k=fn0 s)) [] [] [(fn0 s:Int)] (by omega) (.inr ⟨0,fn0 s,by omega,hfn,hg',hisw⟩) (Q:=Q)
  have hne:[(fn0 s:Int)].isEmpty=false:=rfl
  simp+contextual(maxSteps:=9^6)(disch:=omega)only[↓YR,↓den,↓Z0,YS,O1.d,O2.d,O3.d,cmI,arI,Z1,Z2,seval,ZF,ZG,hg',hne]
  refine hres fun Y R hY=>?_
  have hfrT:frT (szn s.1) (fun _ k=>decide (k=fn0 s)) 1=[[(fn0 s:Int)]]:=by
   have h2:ZR (fun k=>decide (k=fn0 s)) (szn s.1)=[(fn0 s:Int)]:=by
    rw [Zks (q:=fun k=>k==fn0 s) fun k _=>by rfl,Zl5,if_pos hfn]
   simp only [frT,tab,List.range_succ,List.range_zero,List.nil_append,List.map_cons,List.map_nil,h2]
  rw [hfrT]
  simp+contextual(maxSteps:=9^6)(disch:=omega)only[↓YR,↓den,↓Z0,YS,O1.d,O2.d,O3.d,cmI,arI,Z1,Z2,seval,ZF,ZG,]
  exact hQ ⟨false,[[(fn0 s:Int)]],[],[(fn0 s:Int)],true⟩ Y R (.inr ⟨hg',rfl⟩) hY
theorem ZoK (s:Sy) (l:List Tm) (hs:ZK s) (hf:Few l) (h:¬(valid s∧kf l s.1.length=2)) (Q:List AV→Prop) :
  mc.C ZcE [⟨L V3,s.1⟩,⟨L TR,s.2⟩,⟨L T4,l⟩] Q=Q [⟨B,false⟩,⟨L (L I),[]⟩,⟨L I,[]⟩,⟨L (L I),[]⟩,⟨L I,[]⟩,⟨B,false⟩]:=by
 refine Mc.Ends.c (mc.ends Zhn ?_)
 simp+contextual(maxSteps:=9^6)(disch:=omega)only[↓YR,↓den,↓Z0,YS,O1.d,O2.d,O3.d,cmI,arI,Z1,Z2,seval,ZF,ZG,Zf1,ZmI s l hs hf h]
theorem ZoL (b:List Int) (hb:Byt b) (hl:Zit b):mc.C ZdI [⟨L U,b⟩] (·=[⟨B,true⟩]):=by
 refine mc.c_of Zir ?_
 simp+contextual(maxSteps:=9^6)(disch:=omega)only[↓YR,↓den,↓Z0,YS,O1.d,O2.d,O3.d,cmI,arI,Z1,Z2,seval,ZF,ZG,Zg5]
 intro _
 refine mc.c_of Zgu ?_
 simp+contextual(maxSteps:=9^6)(disch:=omega)only[↓YR,↓den,↓Z0,YS,O1.d,O2.d,O3.d,cmI,arI,Z1,Z2,seval,ZF,ZG,Ze8]
 refine ZmK b hb hl fun s l k hss hl2 hk=>?_
 have hs:=hss.few
 have hf:Few l:=by unfold Few;omega
 simp+contextual(maxSteps:=9^6)(disch:=omega)only[↓YR,↓den,↓Z0,YS,O1.d,O2.d,O3.d,cmI,arI,Z1,Z2,seval,ZF,ZG,]
 by_cases h:valid s∧kf l s.1.length=2
 ·obtain ⟨hv,hkf⟩:=h
  have hz:=ZP hv
  refine ZoJ s l hs hf hv hkf fun r Y R hr hY=>?_
  simp+contextual(maxSteps:=9^6)(disch:=omega)only[↓YR,↓den,↓Z0,YS,O1.d,O2.d,O3.d,cmI,arI,Z1,Z2,seval,ZF,ZG,]
  refine Zoq s l hs hf hv hkf fun r2 Y2 R2 hr2=>?_
  have:=hr2.det hr
  subst this
  obtain ⟨g1,g2,g3⟩:=hr.good hv
  obtain ⟨A,hA⟩:∃A,dB (valid s∧kf l s.1.length=2∧Zle (Zlb s) (ZQ s l) (szn s.1))=A:=⟨_,rfl⟩
  obtain ⟨sf,X,sh,w,ok⟩:=r2
  dsimp only at g1 g2 g3 hY ⊢
  cases ok with
  | false =>
   have:=g3 rfl
   simp only [CR.mk.injEq] at this
   obtain ⟨rfl,rfl,rfl,rfl,-⟩:=this
   simp+contextual(maxSteps:=9^6)(disch:=omega)only[↓YR,↓den,↓Z0,YS,O1.d,O2.d,O3.d,cmI,arI,Z1,Z2,seval,ZF,ZG,ZmB [] [] (by simp) (by simp),Zj3 s hs,Zj1 s hs]
  | true =>
   cases sf with
   | true =>
    obtain ⟨q1,q2,q3,rfl⟩:=g1 rfl rfl
    have hP:prv s l sh:=⟨hkf,q2,q3⟩
    have hAt:=Znu hv hP
    have hA':A=true:=by rw [←hA];exact ZT hAt
    subst hA'
    have hshl:sh.length≤400:=by have:=q2.1.len;omega
    have hXl:=q1.2.1
    have hXr:∀r∈X,r.length≤401:=fun r hr=>by
     obtain ⟨i,hi,rfl⟩:=List.mem_iff_getElem.1 hr
     have hset:=ZnL hv q1.2.2.1 (i:=i) fun j hj=>q1.2.2.2 j (by omega)
     rw [getD_lt hi] at hset
     have:=ZkO hset (by omega)
     omega
    rcases hY with ⟨-,rfl,rfl⟩ | ⟨D',ch,he,-⟩
    ·simp+contextual(maxSteps:=9^6)(disch:=omega)only[↓YR,↓den,↓Z0,YS,O1.d,O2.d,O3.d,cmI,arI,Z1,Z2,seval,ZF,ZG,↓ZH,ZmB sh sh (by omega) (by omega),Zj3 s hs,Zj1 s hs,Zlh s l hs hf,hA,ZnN s X hs (by omega) hXr,ZT q1,ZmJ s l sh hs hf (by omega),ZT hP]
    ·have:=congrArg List.length he
     rw [ZN] at this;simp at this
   | false =>
    obtain ⟨rfl,hXl,hXr,D,st,d1,d2,d3,d4⟩:=g2 rfl rfl
    have hAf:¬alw s l:=fun q=>by
     obtain ⟨ch,-,c0,cD,cn,ce⟩:=d4
     have hr:∀e,e≤D→Rch (steps s) [num s.1 (ZM s.1)] (ch e):=by
      intro e
      induction e with
      | zero=>intro _;exact .base (by rw [(Znz hv).1,c0];exact Y1.2 rfl)
      | succ e ih=>intro he;exact .step (ih (by omega)) (ce e (by omega))
     have:=q.2.2 st d2 (ZT (by rw [←cD];exact hr D (Yh _)))
     rw [d3] at this;cases this
    have hA':A=false:=by rw [←hA];exact ZU hAf
    subst hA'
    rcases hY with ⟨rfl,-⟩ | ⟨D',ch,-,e1,e2,e3,hrun,rfl,rfl⟩
    ·exact absurd rfl d4.ne.1
    ·have hst:=Zkh hv e2
     have h5:=hv.1.2
     have hX:(tab (fun i=>stN s (ch i)) (D'+1)).length=D'+1:=ZN
     have hR:(Zn6 s (fun i=>stN s (ch i)) D').length=D':=ZN
     have hlast:(tab (fun i=>stN s (ch i)) (D'+1)).getD D' []=stN s (ch D'):=ZO (by omega)
     have hsl:=hst.1
     have hkl:kf l (stN s (ch D')).length≠0:=by rw [hst.1];omega
     have hev:evl l (stN s (ch D'))=0:=by
      rcases Zjk (l:=l) hkf (hst.bds hv.2.2.1) (by rw [hst.1]) with q | q
      ·exact q
      ·unfold ZQ at e3;rw [q] at e3;cases e3
     obtain ⟨D1,hD1⟩:∃D1,D'+1=D1:=⟨_,rfl⟩
     have hTV:=fun Q=>Znh s D' (fun i=>stN s (ch i)) hs hv hrun Q
     have hDi:(D1:Int) - 1=(D':Int):=by omega
     rw [hD1] at hX hlast hTV ⊢
     cases hfv:dB (fvs s X) with
     | true=>simp+contextual(maxSteps:=9^6)(disch:=omega)only[↓YR,↓den,↓Z0,YS,O1.d,O2.d,O3.d,cmI,arI,Z1,Z2,seval,ZF,ZG,↓ZH,ZmB [] [] (by simp) (by simp),Zj3 s hs,Zj1 s hs,Zlh s l hs hf,hA,ZnN s X hs (by omega) (fun r hr=>Nat.le_trans (hXr r hr) (by omega)),hfv,hX,hDi,hlast,Znk l (stN s (ch D')) hf (by omega) (hst.bds hv.2.2.1) hkl,hev,hTV]
     | false=>simp+contextual(maxSteps:=9^6)(disch:=omega)only[↓YR,↓den,↓Z0,YS,O1.d,O2.d,O3.d,cmI,arI,Z1,Z2,seval,ZF,ZG,↓ZH,ZmB [] [] (by simp) (by simp),Zj3 s hs,Zj1 s hs,Zlh s l hs hf,hA,ZnN s X hs (by omega) (fun r hr=>Nat.le_trans (hXr r hr) (by omega)),hfv,hX,hDi,hlast,Znk l (stN s (ch D')) hf (by omega) (hst.bds hv.2.2.1) hkl,hev,hTV]
 ·simp+contextual(maxSteps:=9^6)(disch:=omega)only[↓YR,↓den,↓Z0,YS,O1.d,O2.d,O3.d,cmI,arI,Z1,Z2,seval,ZF,ZG,ZoK s l hs hf h,Zor s l hs hf h,ZmB [] [] (by simp) (by simp),Zj3 s hs,Zj1 s hs]
end Go.Proofs.YtdgpohclhppodaaGreat
