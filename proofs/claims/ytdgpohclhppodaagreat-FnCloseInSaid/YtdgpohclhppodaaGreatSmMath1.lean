/- What the trees come to: plain mathematics; no condition. -/
import Derived.Test.YtdgpohclhppodaaGreatSmMath0
set_option linter.unusedSimpArgs false
set_option linter.unusedVariables false
namespace Go.Proofs.YtdgpohclhppodaaGreat
open Go Go.Sm Go.Sm.Q
theorem Zlu {l:List Int} {j:Nat} {x:Int} (h:j<l.length):(l.take (j+1)).count x=(l.take j).count x+if l.getD j 0=x then 1 else 0:=by
 rw [←Zjx (d:=0) h,List.count_append,List.count_singleton]
 by_cases h1:l.getD j 0=x
 ·simp [h1]
 ·simp [h1]
def Zlv (T:List (List Int)) (n:Nat):List (List Int):=tab (fun k=>Zlq T k n) n
theorem Zlw (T:List (List Int)) (n:Nat) (ht:Tb8 T n) (Q:List AV→Prop):mc.C Zce [⟨L (L I),T⟩] Q=Q [⟨L (L I),Zlv T n⟩]:=by
 obtain ⟨ht,hn,h8⟩:=ht
 have hl:=ht.1
 refine Mc.Ends.c (mc.ends ZgY ?_)
 simp+contextual(maxSteps:=9^6)(disch:=omega)only[↓YR,↓den,↓Z0,YS,O1.d,O2.d,O3.d,cmI,arI,Z1,Z2,seval,ZF,ZG,ZeC,hl]
 refine mc.lp_for (List (List Int)) (fun i o=>[⟨L (L I),T⟩,⟨I,(n:Int)⟩,⟨I,(i:Int)⟩,⟨L (L I),o⟩]) (fun i o=>o=tab (fun k=>Zlq T k i) n) n 0 (List.replicate n []) _ rfl (Yf _) ?_ ?_ ?_
 ·rw [ZkL];rfl
 ·rintro i o hi rfl
  have hrow:=ht.row (i:=i)
  have hrl:(T.getD i []).length≤8:=h8 _ (ZJ (by omega))
  simp+contextual(maxSteps:=9^6)(disch:=omega)only[↓YR,↓den,↓Z0,YS,O1.d,O2.d,O3.d,cmI,arI,Z1,Z2,seval,ZF,ZG,hl]
  refine mc.lp_for (List (List Int)) (fun j o=>[⟨I,(i:Int)⟩,⟨L (L I),T⟩,⟨I,(n:Int)⟩,⟨I,(i:Int)⟩,⟨L I,T.getD i []⟩,⟨I,((T.getD i []).length:Int)⟩,⟨I,(j:Int)⟩,⟨L (L I),o⟩]) (fun j o=>o=tab (fun k=>Zlq T k i++List.replicate (((T.getD i []).take j).count (k:Int)) (i:Int)) n) (T.getD i []).length 0 _ _ rfl (Yf _) ?_ ?_ ?_
  ·exact ZV fun k _=>by simp
  ·rintro j o hj rfl
   have hx:=hrow _ (ZJ (d:=0) hj)
   obtain ⟨x,hxe⟩:∃x:Nat,(T.getD i []).getD j 0=x:=⟨((T.getD i []).getD j 0).toNat,by omega⟩
   have hxn:x<n:=by omega
   have hpl:=Zls (k:=x) h8 (m:=i)
   have hc:((T.getD i []).take j).count (x:Int)≤8:=Nat.le_trans List.count_le_length (by rw [Yb];omega)
   have hlen:(Zlq T x i).length+(List.replicate (((T.getD i []).take j).count (x:Int)) (i:Int)).length≤4000:=by
    rw [Yy];omega
   simp+contextual(maxSteps:=9^6)(disch:=omega)only[↓YR,↓den,↓Z0,YS,O1.d,O2.d,O3.d,cmI,arI,Z1,Z2,seval,ZF,ZG,hxe,ZN,ZO hxn,ZkK]
   refine ZV fun k hk=>?_
   rw [Zlu hj,hxe]
   by_cases hkx:k=x
   ·subst hkx;rw [if_pos rfl,if_pos rfl,List.replicate_succ',Ym]
   ·rw [if_neg hkx,if_neg (by omega),Nat.add_zero]
  ·rintro o rfl
   rw [Yu]
   simp+contextual(maxSteps:=9^6)(disch:=omega)only[↓YR,↓den,↓Z0,YS,O1.d,O2.d,O3.d,cmI,arI,Z1,Z2,seval,ZF,ZG,]
   rfl
 ·rintro o rfl
  simp+contextual(maxSteps:=9^6)(disch:=omega)only[↓YR,↓den,↓Z0,YS,O1.d,O2.d,O3.d,cmI,arI,Z1,Z2,seval,ZF,ZG,]
  rfl
theorem Zlx {T:List (List Int)} {n:Nat}:(Zlv T n).length=n:=ZN
theorem Zly {T:List (List Int)} {n k:Nat} (h:k<n):(Zlv T n).getD k []=Zlq T k n:=ZO h
noncomputable def ovr (T:List (List Int)) (l:List Int) (k:Nat):Bool:=dB (∃x∈l,(k:Int)∈T.getD x.toNat [])
theorem Zlz (T:List (List Int)) (l:List Int) (n:Nat) (hn:n≤1000) (ht:Tbl T n) (hl:l.length≤1048576) (h:∀x∈l,0≤x∧x<n) (Q:List AV→Prop):mc.C Zdy [⟨L (L I),T⟩,⟨L I,l⟩] Q=Q [⟨L I,ZR (ovr T l) n⟩]:=by
 have hT:=ht.1
 refine Mc.Ends.c (mc.ends Zih ?_)
 simp+contextual(maxSteps:=9^6)(disch:=omega)only[↓YR,↓den,↓Z0,YS,O1.d,O2.d,O3.d,cmI,arI,Z1,Z2,seval,ZF,ZG,ZfW,hT]
 refine mc.lp_for (List Bool) (fun i o=>[⟨L (L I),T⟩,⟨L I,l⟩,⟨I,(l.length:Int)⟩,⟨I,(i:Int)⟩,⟨L B,o⟩]) (fun i o=>o=tab (ovr T (l.take i)) n) l.length 0 (List.replicate n false) _ rfl (Yf _) ?_ ?_ ?_
 ·rw [ZkL];exact ZV fun k _=>(ZU (by simp)).symm
 ·rintro i o hi rfl
  have hx:=h _ (ZJ (d:=0) hi)
  obtain ⟨x,hxe⟩:∃x:Nat,l.getD i 0=x:=⟨(l.getD i 0).toNat,by omega⟩
  have hxn:x<n:=by omega
  have hrow:=ht.row (i:=x)
  have hrl:(T.getD x []).length≤1048576:=(ht.2 _ (ZJ (by omega))).1
  simp+contextual(maxSteps:=9^6)(disch:=omega)only[↓YR,↓den,↓Z0,YS,O1.d,O2.d,O3.d,cmI,arI,Z1,Z2,seval,ZF,ZG,hT,hxe]
  refine mc.lp_for (List Bool) (fun j o=>[⟨L (L I),T⟩,⟨L I,l⟩,⟨I,(l.length:Int)⟩,⟨I,(i:Int)⟩,⟨L I,T.getD x []⟩,⟨I,((T.getD x []).length:Int)⟩,⟨I,(j:Int)⟩,⟨L B,o⟩]) (fun j o=>o=tab (fun k=>dB (ovr T (l.take i) k=true∨(k:Int)∈(T.getD x []).take j)) n) (T.getD x []).length 0 _ _ rfl (Yf _) ?_ ?_ ?_
  ·exact ZV fun k _=>by simp [ZkJ]
  ·rintro j o hj rfl
   have hy:=hrow _ (ZJ (d:=0) hj)
   simp+contextual(maxSteps:=9^6)(disch:=omega)only[↓YR,↓den,↓Z0,YS,O1.d,O2.d,O3.d,cmI,arI,Z1,Z2,seval,ZF,ZG,ZN,ZkK]
   refine ZV fun k hk=>?_
   by_cases hk2:k=((T.getD x []).getD j 0).toNat
   ·rw [if_pos hk2,ZT];exact .inr ((ZkS hj).2 (.inr (by omega)))
   ·rw [if_neg hk2];refine ZkI ?_
    rw [ZkS hj]
    exact ⟨fun h=>h.elim .inl fun h=>.inr (.inl h),fun h=>h.elim .inl fun h=>.inr (h.elim id fun h=>absurd h (by omega))⟩
  ·rintro o rfl
   rw [Yu]
   simp+contextual(maxSteps:=9^6)(disch:=omega)only[↓YR,↓den,↓Z0,YS,O1.d,O2.d,O3.d,cmI,arI,Z1,Z2,seval,ZF,ZG,]
   refine ZV fun k hk=>ZkI ⟨?_,?_⟩
   ·rintro (h | h)
    ·obtain ⟨y,h1,h2⟩:=ZkH.1 h
     exact ⟨y,(ZkS hi).2 (.inl h1),h2⟩
    ·exact ⟨(x:Int),(ZkS hi).2 (.inr hxe.symm),by simpa using h⟩
   ·rintro ⟨y,h1,h2⟩
    rcases (ZkS hi).1 h1 with h | h
    ·exact .inl (ZT ⟨y,h,h2⟩)
    ·rw [h,hxe] at h2;exact .inr (by simpa using h2)
 ·rintro o rfl
  rw [Yu]
  simp+contextual(maxSteps:=9^6)(disch:=omega)only[↓YR,↓den,↓Z0,YS,O1.d,O2.d,O3.d,cmI,arI,Z1,Z2,seval,ZF,ZG,Zlj (ovr T l) n (by omega)]
def ahead (T:List (List Int)) (p:Nat→Bool) (n:Nat) (k:Nat):Prop:=∃b,b<n∧p b=true∧(b:Int)∈T.getD k []
theorem ZlA (l:List Int) (x:Int) (hl:l.length≤1048576) (Q:List AV→Prop):mc.C Zd6 [⟨L I,l⟩,⟨I,x⟩] Q=Q [⟨B,dB (x∈l)⟩]:=by
 refine Mc.Ends.c (mc.ends ZhQ ?_)
 generalize hK:dB (x∈l)=K
 simp+contextual(maxSteps:=9^6)(disch:=omega)only[↓YR,↓den,↓Z0,YS,O1.d,O2.d,O3.d,cmI,arI,Z1,Z2,seval,ZF,ZG,Zfu]
 refine Zis (fun i=>[⟨L I,l⟩,⟨I,x⟩,⟨I,(i:Int)⟩]) (fun i=>¬l.getD i 0=x) l.length _ rfl ?_ ?_
 ·intro i hi
  simp+contextual(maxSteps:=9^6)(disch:=omega)only[↓YR,↓den,↓Z0,YS,O1.d,O2.d,O3.d,cmI,arI,Z1,Z2,seval,ZF,ZG,]
  intro h
  rw [←hK,ZT]
  rw [←h];exact ZJ hi
 ·intro h
  simp+contextual(maxSteps:=9^6)(disch:=omega)only[↓YR,↓den,↓Z0,YS,O1.d,O2.d,O3.d,cmI,arI,Z1,Z2,seval,ZF,ZG,]
  rw [←hK,ZU]
  intro hx
  obtain ⟨i,hi,rfl⟩:=List.getElem_of_mem hx
  exact h i hi (getD_lt hi)
theorem ZlB {T:List (List Int)} {l:List Int} {n k:Nat} (h:∀x∈l,0≤x∧x<(n:Int)):behind T (fun k=>dB ((k:Int)∈l)) n k↔∃x∈l,(k:Int)∈T.getD x.toNat []:=by
 constructor
 ·rintro ⟨a,h1,h2,h3⟩
  exact ⟨(a:Int),ZkH.1 h2,by simpa using h3⟩
 ·rintro ⟨x,h1,h2⟩
  have:=h x h1
  exact ⟨x.toNat,by omega,ZT (by rw [show ((x.toNat:Nat):Int)=x by omega];exact h1),h2⟩
theorem ZlC {T:List (List Int)} {l:List Int} {n k:Nat} (h:∀x∈l,0≤x∧x<(n:Int)):ovr T l k=dB (behind T (fun k=>dB ((k:Int)∈l)) n k):=ZkI (ZlB h).symm
noncomputable def ZlD (s:Sy) (l:List Int):List Int:=ZR (fun k=>dB (behind (steps s) (fun k=>dB ((k:Int)∈l)) (szn s.1) k)) (szn s.1)
theorem getD_set_ne {α:Type} {l:List α} {i j:Nat} {x d:α} (h:i≠j):(l.set i x).getD j d=l.getD j d:=by
 simp [Y8,YM,h]
def Same {α:Type} (l s:List α) (d:α) (i:Nat):Prop:=s.length=l.length∧∀j,i≤j→s.getD j d=l.getD j d
theorem Same.refl {α:Type} {l:List α} {d:α} {i:Nat}:Same l l d i:=⟨rfl,fun _ _=>rfl⟩
theorem Same.set {α:Type} {l s:List α} {d x:α} {i:Nat} (h:Same l s d i):Same l (s.set i x) d (i+1) :=
 ⟨by rw [YC];exact h.1,fun j hj=>by rw [getD_set_ne (by omega)];exact h.2 j (by omega)⟩
theorem ZlE {n k:Nat} (hk:k≤60):shI false .i64 (n:Int) (k:Int)=((n / 2 ^ k:Nat):Int):=by
 have h:min (k:Int).toNat IntKind.i64.bits=k:=by simp [IntKind.bits];omega
 unfold shI
 rw [h]
 simp only [Yg,if_false]
 rw [Int.fdiv_eq_ediv_of_nonneg _ (Int.le_of_lt (Int.pow_pos (by omega)))]
 simp
theorem and_one {n:Nat} (h:n<9223372036854775808):IntKind.i64.wrap ((BitVec.ofInt IntKind.i64.bits (n:Int) &&& BitVec.ofInt IntKind.i64.bits 1).toNat:Int)=((n % 2:Nat):Int):=by
 have e:(BitVec.ofInt 64 (n:Int) &&& BitVec.ofInt 64 1).toNat=n % 2:=by
  rw [BitVec.toNat_and,BitVec.toNat_ofInt,BitVec.toNat_ofInt]
  rw [show ((n:Int) % ((2 ^ 64:Nat):Int)).toNat=n by omega,show ((1:Int) % ((2 ^ 64:Nat):Int)).toNat=1 by decide]
  exact Nat.and_one_is_mod n
 have e2:(BitVec.ofInt IntKind.i64.bits (n:Int) &&& BitVec.ofInt IntKind.i64.bits 1).toNat=n % 2:=e
 rw [e2]
 exact Zbi (by omega) (by omega)
def vb (n w : Nat) : List Int := tab (fun i => ((n / 2 ^ (w - 1 - i) % 2 : Nat) : Int)) w
theorem ZlF {n w:Nat}:(vb n w).length=w:=ZN
theorem ZlG {n w:Nat}:∀x∈vb n w,x=0∨x=1:=by
 intro x hx
 simp only [vb,tab,Yo,List.mem_range] at hx
 obtain ⟨i,_,rfl⟩:=hx
 omega
theorem ZlH (n w:Nat) (hn:n≤1000) (hw:w≤12) (Q:List AV→Prop):mc.C Zcu [⟨I,(n:Int)⟩,⟨I,(w:Int)⟩] Q=Q [⟨L I,vb n w⟩]:=by
 refine Mc.Ends.c (mc.ends Zhd ?_)
 simp+contextual(maxSteps:=9^6)(disch:=omega)only[↓YR,↓den,↓Z0,YS,O1.d,O2.d,O3.d,cmI,arI,Z1,Z2,seval,ZF,ZG,ZeS,Yy]
 refine mc.lp_for (List Int) (fun i o => [⟨I, (n : Int)⟩, ⟨I, (w : Int)⟩, ⟨I, (w : Int)⟩, ⟨I, (i : Int)⟩, ⟨L I, o⟩]) (fun i o => o = tab (fun i => ((n / 2 ^ (w - 1 - i) % 2 : Nat) : Int)) i ++ List.replicate (w - i) 0) w 0 (List.replicate w 0) _ rfl (Yf _) (by simp [tab]) ?_ ?_
 ·rintro i o hi rfl
  have e : (w : Int) - 1 - (i : Int) = ((w - 1 - i : Nat) : Int) := by omega
  have hd : n / 2 ^ (w - 1 - i) ≤ n := Nat.div_le_self _ _
  simp (contextual := true) (maxSteps := 1000000) (disch := omega) only [↓Sd, ↓So, ↓Sk, ↓den, ↓Z0, Sa, Sb, Sc, Se, O1.d, O2.d, O3.d, cmI, arI, Z1, Z2, seval, ZF, ZG, e, ZlE (n := n) (show w - 1 - i ≤ 60 by omega), and_one (show n / 2 ^ (w - 1 - i) < 9223372036854775808 by omega), ZN, Yy]
  exact Zke hi rfl
 ·rintro o rfl
  simp+contextual(maxSteps:=9^6)(disch:=omega)only[↓YR,↓den,↓Z0,YS,O1.d,O2.d,O3.d,cmI,arI,Z1,Z2,seval,ZF,ZG,]
  simp [vb]
theorem ZlI (n w:Nat) (hn:n≤1000) (hw:w≤12) (Q:List AV→Prop):mc.C Zda [⟨I,(n:Int)⟩,⟨I,(w:Int)⟩] Q=Q [⟨L I,vb n w⟩]:=by
 refine Mc.Ends.c (mc.ends ZhU ?_)
 simp+contextual(maxSteps:=9^6)(disch:=omega)only[↓YR,↓den,↓Z0,YS,O1.d,O2.d,O3.d,cmI,arI,Z1,Z2,seval,ZF,ZG,Zfy]
 refine mc.lp_for (List Int) (fun i o => [⟨I, (n : Int)⟩, ⟨I, (w : Int) - 1 - (i : Int)⟩, ⟨L I, o⟩]) (fun i o => o = tab (fun i => ((n / 2 ^ (w - 1 - i) % 2 : Nat) : Int)) i) w 0 [] _ (by simp) (Yf _) rfl ?_ ?_
 ·rintro i o hi rfl
  have e : (w : Int) - 1 - (i : Int) = ((w - 1 - i : Nat) : Int) := by omega
  have e2 : (w : Int) - 1 - ((i : Int) + 1) = ((w - 1 - i : Nat) : Int) - 1 := by omega
  simp (contextual := true) (maxSteps := 1000000) (disch := omega) only [↓Sd, ↓So, ↓Sk, ↓den, ↓Z0, Sa, Sb, Sc, Se, O1.d, O2.d, O3.d, cmI, arI, Z1, Z2, seval, ZF, ZG, e, e2, ZlE (n := n) (show w - 1 - i ≤ 60 by omega), ZN]
  exact Zkd
 ·rintro o rfl
  have e : (w : Int) - 1 - (w : Int) = -1 := by omega
  simp+contextual(maxSteps:=9^6)(disch:=omega)only[↓YR,↓den,↓Z0,YS,O1.d,O2.d,O3.d,cmI,arI,Z1,Z2,seval,ZF,ZG,e]
  rfl
def sbN (l:List Vr) (st:List Int):Nat→List Int
 | 0=>[]
 | i+1=>sbN l st i++vb (st.getD i 0 - (l.getD i (0,0,0)).1).toNat (bw l i).toNat
def sb (s:Sy) (st:List Int):List Int:=sbN s.1 st s.1.length
theorem ZlJ (l:List Vr) (i:Nat):0≤bw l i∧bw l i≤5:=Zku _
theorem ZlK {l:List Vr} {st:List Int}:∀{i:Nat},((sbN l st i).length:Int)=ZkD (bw l) i
 | 0=>rfl
 | i+1=>by
  have h:=ZlJ l i
  have ih:=@ZlK l st i
  simp only [sbN,ZkD,Y7,ZlF]
  omega
theorem ZlL {s:Sy} {st:List Int}:((sb s st).length:Int)=bc s.1:=ZlK
theorem ZlM {s:Sy} (h:valid s):0≤bc s.1∧bc s.1≤25:=by
 have h1:=ZkE (f:=bw s.1) (ZlJ s.1) s.1.length
 have h2:=h.1.2
 unfold bc
 omega
theorem ZlN {l:List Vr} {st:List Int}:∀{i:Nat},∀x∈sbN l st i,x=0∨x=1
 | 0,x,h=>by simp [sbN] at h
 | i+1,x,h=>by
  simp only [sbN,Y6] at h
  exact h.elim (ZlN x) (ZlG x)
theorem ZlO {s:Sy} {st:List Int} (h:valid s) (hst:inR s.1 st) {i:Nat} (hi:i<s.1.length):∃m:Nat,st.getD i 0 - (s.1.getD i (0,0,0)).1=m∧m<20∧(-10000≤st.getD i 0∧st.getD i 0≤10000) ∧ -10000≤(s.1.getD i (0,0,0)).1∧(s.1.getD i (0,0,0)).1≤10000:=by
 have h1:=hst.2 i hi
 have h2:=h.2.2.1 _ (ZJ (d:=(0,0,0)) hi)
 unfold vOk at h2
 exact ⟨(st.getD i 0 - (s.1.getD i (0,0,0)).1).toNat,by omega,by omega,by omega,by omega,by omega⟩
theorem ZlP (s:Sy) (st:List Int) (h:valid s) (hst:inR s.1 st) (Q:List AV→Prop):mc.C Zcv [⟨L V3,s.1⟩,⟨L TR,s.2⟩,⟨L I,st⟩] Q=Q [⟨L I,sb s st⟩]:=by
 have h5:=h.1.2
 have hl:=hst.1
 refine Mc.Ends.c (mc.ends Zhe ?_)
 simp+contextual(maxSteps:=9^6)(disch:=omega)only[↓YR,↓den,↓Z0,YS,O1.d,O2.d,O3.d,cmI,arI,Z1,Z2,seval,ZF,ZG,ZeT,ZkF s h,ZN]
 refine mc.lp_for (List Int) (fun i o=>[⟨L I,st⟩,⟨I,(s.1.length:Int)⟩,⟨I,(i:Int)⟩,⟨L V3,s.1⟩,⟨L TR,s.2⟩,⟨L I,o⟩,⟨L I,tab (bw s.1) s.1.length⟩]) (fun i o=>o=sbN s.1 st i) s.1.length 0 [] _ rfl (Yf _) rfl ?_ ?_
 ·rintro i o hi rfl
  obtain ⟨m,hm,hm2,hm3,hm4⟩:=ZlO h hst hi
  have hb:=ZlJ s.1 i
  obtain ⟨w,hw⟩:∃w:Nat,bw s.1 i=w:=⟨(bw s.1 i).toNat,by omega⟩
  have hlen:=@ZlK s.1 st i
  have hsum:=ZkE (f:=bw s.1) (ZlJ s.1) i
  have e:sbN s.1 st (i+1)=sbN s.1 st i++vb m w:=by simp only [sbN,hm,hw,Yv]
  simp+contextual(maxSteps:=9^6)(disch:=omega)only[↓YR,↓den,↓Z0,YS,O1.d,O2.d,O3.d,cmI,arI,Z1,Z2,seval,ZF,ZG,ZN,ZO hi,hm,hw,ZlH m w (by omega) (by omega),ZlF]
  exact e.symm
 ·rintro o rfl
  have hlen:=@ZlL s st
  have hb:=ZlM h
  simp+contextual(maxSteps:=9^6)(disch:=omega)only[↓YR,↓den,↓Z0,YS,O1.d,O2.d,O3.d,cmI,arI,Z1,Z2,seval,ZF,ZG,Zju (sb s st) (by omega)]
  have e:sbN s.1 st s.1.length=sb s st:=rfl
  simp+contextual(maxSteps:=9^6)(disch:=omega)only[↓YR,↓den,↓Z0,YS,O1.d,O2.d,O3.d,cmI,arI,Z1,Z2,seval,ZF,ZG,e,Zju (sb s st) (by omega)]
theorem ZlQ (s:Sy) (st:List Int) (h:valid s) (hst:inR s.1 st) (Q:List AV→Prop):mc.C Zdb [⟨L V3,s.1⟩,⟨L TR,s.2⟩,⟨L I,st⟩] Q=Q [⟨L I,sb s st⟩]:=by
 have h5:=h.1.2
 have hl:=hst.1
 refine Mc.Ends.c (mc.ends ZhV ?_)
 simp+contextual(maxSteps:=9^6)(disch:=omega)only[↓YR,↓den,↓Z0,YS,O1.d,O2.d,O3.d,cmI,arI,Z1,Z2,seval,ZF,ZG,Zfz,ZkG s h]
 refine mc.lp_for (List Int) (fun i o=>[⟨L I,st⟩,⟨I,(i:Int)⟩,⟨L V3,s.1⟩,⟨L TR,s.2⟩,⟨L I,o⟩,⟨L I,tab (bw s.1) s.1.length⟩]) (fun i o=>o=sbN s.1 st i) s.1.length 0 [] _ rfl (Yf _) rfl ?_ ?_
 ·rintro i o hi rfl
  obtain ⟨m,hm,hm2,hm3,hm4⟩:=ZlO h hst hi
  have hb:=ZlJ s.1 i
  obtain ⟨w,hw⟩:∃w:Nat,bw s.1 i=w:=⟨(bw s.1 i).toNat,by omega⟩
  have hlen:=@ZlK s.1 st i
  have hsum:=ZkE (f:=bw s.1) (ZlJ s.1) i
  have e:sbN s.1 st (i+1)=sbN s.1 st i++vb m w:=by simp only [sbN,hm,hw,Yv]
  simp+contextual(maxSteps:=9^6)(disch:=omega)only[↓YR,↓den,↓Z0,YS,O1.d,O2.d,O3.d,cmI,arI,Z1,Z2,seval,ZF,ZG,ZN,ZO hi,hm,hw,ZlI m w (by omega) (by omega)]
  refine mc.lp_for (List Int) (fun j o=>[⟨L I,st⟩,⟨I,(i:Int)⟩,⟨I,(j:Int)⟩,⟨L V3,s.1⟩,⟨L TR,s.2⟩,⟨L I,o⟩,⟨L I,tab (bw s.1) s.1.length⟩,⟨L I,vb m w⟩]) (fun j o=>o=sbN s.1 st i++(vb m w).take j) w 0 _ _ rfl (Yf _) (by simp) ?_ ?_
  ·rintro j o hj rfl
   have hj':j<(vb m w).length:=by rw [ZlF];exact hj
   have hol:(sbN s.1 st i).length+((vb m w).take j).length≤1000:=by rw [Yb,ZlF];omega
   simp+contextual(maxSteps:=9^6)(disch:=omega)only[↓YR,↓den,↓Z0,YS,O1.d,O2.d,O3.d,cmI,arI,Z1,Z2,seval,ZF,ZG,ZlF,Y7]
   rw [Ym,Zjx hj']
  ·rintro o rfl
   simp+contextual(maxSteps:=9^6)(disch:=omega)only[↓YR,↓den,↓Z0,YS,O1.d,O2.d,O3.d,cmI,arI,Z1,Z2,seval,ZF,ZG,ZlF]
   rw [e,YI (by rw [ZlF];exact Yh _)]
 ·rintro o rfl
  simp+contextual(maxSteps:=9^6)(disch:=omega)only[↓YR,↓den,↓Z0,YS,O1.d,O2.d,O3.d,cmI,arI,Z1,Z2,seval,ZF,ZG,]
  rfl
def ZlR (c b:List Int):Prop:=∀i,i<c.length→c.getD i 0=2∨c.getD i 0=b.getD i 0
theorem ZlS (c b:List Int) (hc:c.length≤1048576) (h:c.length=b.length) (Q:List AV→Prop):mc.C Zcw [⟨L I,c⟩,⟨L I,b⟩] Q=Q [⟨B,dB (ZlR c b)⟩]:=by
 refine Mc.Ends.c (mc.ends Zhf ?_)
 generalize hK:dB (ZlR c b)=K
 simp+contextual(maxSteps:=9^6)(disch:=omega)only[↓YR,↓den,↓Z0,YS,O1.d,O2.d,O3.d,cmI,arI,Z1,Z2,seval,ZF,ZG,ZeU]
 refine Zis (fun i=>[⟨L I,b⟩,⟨L I,c⟩,⟨I,(c.length:Int)⟩,⟨I,(i:Int)⟩]) (fun i=>c.getD i 0=2∨c.getD i 0=b.getD i 0) c.length _ rfl ?_ ?_
 ·intro i hi
  have hno:¬(c.getD i 0=2∨c.getD i 0=b.getD i 0)→false=K:=fun g=>by rw [←hK,ZU];exact fun g1=>g (g1 i hi)
  simp+contextual(maxSteps:=9^6)(disch:=omega)only[↓YR,↓den,↓Z0,YS,O1.d,O2.d,O3.d,cmI,arI,Z1,Z2,seval,ZF,ZG,↓ZH,]
  grind
 ·intro g
  simp+contextual(maxSteps:=9^6)(disch:=omega)only[↓YR,↓den,↓Z0,YS,O1.d,O2.d,O3.d,cmI,arI,Z1,Z2,seval,ZF,ZG,]
  rw [←hK,ZT];exact g
theorem ZlT (c b:List Int) (hc:c.length≤1048576) (h:c.length=b.length) (Q:List AV→Prop):mc.C Zdc [⟨L I,c⟩,⟨L I,b⟩] Q=Q [⟨B,dB (ZlR c b)⟩]:=by
 refine Mc.Ends.c (mc.ends ZhW ?_)
 generalize hK:dB (ZlR c b)=K
 simp+contextual(maxSteps:=9^6)(disch:=omega)only[↓YR,↓den,↓Z0,YS,O1.d,O2.d,O3.d,cmI,arI,Z1,Z2,seval,ZF,ZG,ZfA]
 refine Zis (fun i=>[⟨L I,c⟩,⟨L I,b⟩,⟨I,(i:Int)⟩]) (fun i=>c.getD i 0=2∨c.getD i 0=b.getD i 0) c.length _ rfl ?_ ?_
 ·intro i hi
  have hno:¬(c.getD i 0=2∨c.getD i 0=b.getD i 0)→false=K:=fun g=>by rw [←hK,ZU];exact fun g1=>g (g1 i hi)
  simp+contextual(maxSteps:=9^6)(disch:=omega)only[↓YR,↓den,↓Z0,YS,O1.d,O2.d,O3.d,cmI,arI,Z1,Z2,seval,ZF,ZG,↓ZH,]
  grind
 ·intro g
  simp+contextual(maxSteps:=9^6)(disch:=omega)only[↓YR,↓den,↓Z0,YS,O1.d,O2.d,O3.d,cmI,arI,Z1,Z2,seval,ZF,ZG,]
  rw [←hK,ZT];exact g
noncomputable def inC (s:Sy) (c:List Int) (n:Nat):Bool:=dB (ZlR c (sb s (stN s n)))
theorem ZlU {s:Sy} {c:List Int} (hc:(c.length:Int)=bc s.1) {st:List Int}:c.length=(sb s st).length:=by have:=@ZlL s st;omega
theorem ZlV (s:Sy) (c:List Int) (h:valid s) (hc:(c.length:Int)=bc s.1) (Q:List AV→Prop):mc.C Zcx [⟨L V3,s.1⟩,⟨L TR,s.2⟩,⟨L I,c⟩] Q=Q [⟨L I,ZR (inC s c) (szn s.1)⟩]:=by
 have hz:=ZP h
 have hb:=ZlM h
 have h5:=h.1.2
 have hv:=h.2.2.1
 refine Mc.Ends.c (mc.ends Zhg ?_)
 simp+contextual(maxSteps:=9^6)(disch:=omega)only[↓YR,↓den,↓Z0,YS,O1.d,O2.d,O3.d,cmI,arI,Z1,Z2,seval,ZF,ZG,ZeV,Zj2 s.1 h5 hv,←hz.1,Yy]
 refine mc.lp_for (List Bool) (fun i o=>[⟨L I,c⟩,⟨I,(szn s.1:Int)⟩,⟨I,(i:Int)⟩,⟨L V3,s.1⟩,⟨L TR,s.2⟩,⟨L B,o⟩]) (fun i o=>o=tab (inC s c) i++List.replicate (szn s.1 - i) false) (szn s.1) 0 (List.replicate (szn s.1) false) _ rfl (Yf _) rfl ?_ ?_
 ·rintro i o hi rfl
  have hin:=Zkh h hi
  have hst:Zk5 s.1 (i:Int)=stN s i:=rfl
  simp+contextual(maxSteps:=9^6)(disch:=omega)only[↓YR,↓den,↓Z0,YS,O1.d,O2.d,O3.d,cmI,arI,Z1,Z2,seval,ZF,ZG,Zkb s i h5 hv (by omega),hst,ZlP s (stN s i) h hin,ZlS c (sb s (stN s i)) (by omega) (ZlU hc),ZN,Yy]
  exact Zke hi rfl
 ·rintro o rfl
  rw [Nat.sub_self,List.replicate_zero,Yx]
  simp+contextual(maxSteps:=9^6)(disch:=omega)only[↓YR,↓den,↓Z0,YS,O1.d,O2.d,O3.d,cmI,arI,Z1,Z2,seval,ZF,ZG,Zlj (inC s c) (szn s.1) (by omega)]
theorem ZlW (s:Sy) (c:List Int) (hs:ZK s) (h:valid s) (hc:(c.length:Int)=bc s.1) (Q:List AV→Prop):mc.C Zdd [⟨L V3,s.1⟩,⟨L TR,s.2⟩,⟨L I,c⟩] Q=Q [⟨L I,ZR (inC s c) (szn s.1)⟩]:=by
 have hz:=ZP h
 have hb:=ZlM h
 refine Mc.Ends.c (mc.ends ZhX ?_)
 simp+contextual(maxSteps:=9^6)(disch:=omega)only[↓YR,↓den,↓Z0,YS,O1.d,O2.d,O3.d,cmI,arI,Z1,Z2,seval,ZF,ZG,ZfB]
 refine mc.lp_for (List Int) (fun i o=>[⟨L I,c⟩,⟨I,(i:Int)⟩,⟨L V3,s.1⟩,⟨L TR,s.2⟩,⟨L I,o⟩]) (fun i o=>o=ZR (inC s c) i) (szn s.1) 0 [] _ rfl (Yf _) rfl ?_ ?_
 ·rintro i o hi rfl
  have hin:=Zkh h hi
  have hst:Zk5 s.1 (i:Int)=stN s i:=rfl
  have hlen:=@ZS (inC s c) i
  simp+contextual(maxSteps:=9^6)(disch:=omega)only[↓YR,↓den,↓Z0,YS,O1.d,O2.d,O3.d,cmI,arI,Z1,Z2,seval,ZF,ZG,↓ZH,Zj4 s hs,h,Zkc s i hs h (by omega),hst,ZlQ s (stN s i) h hin,ZlT c (sb s (stN s i)) (by omega) (ZlU hc)]
  exact ⟨fun g=>(Zkp g).symm,fun g=>(Zkq g).symm⟩
 ·rintro o rfl
  simp+contextual(maxSteps:=9^6)(disch:=omega)only[↓YR,↓den,↓Z0,YS,O1.d,O2.d,O3.d,cmI,arI,Z1,Z2,seval,ZF,ZG,Zj4 s hs,h]
def blk (s:Sy) (F c:List Int):Prop:=inC s c (num s.1 (ZM s.1)).toNat=false∧∀x∈F,inC s c x.toNat=false→∀y∈(steps s).getD x.toNat [],inC s c y.toNat=false
theorem ZlX {s:Sy} (h:valid s):∃m:Nat,num s.1 (ZM s.1)=m∧m<szn s.1:=by
 have h1:=Zk2 h.2.2.1 (ZjW h.2.2.1)
 have h2:=ZP h
 exact ⟨(num s.1 (ZM s.1)).toNat,by omega,by omega⟩
theorem ZlY {p:Nat→Bool} {n:Nat}:tab (fun k=>dB ((k:Int)∈ZR p n)) n=tab p n:=ZV fun k hk=>by rw [ZkZ];simp [hk]
theorem ZlZ (s:Sy) (F c:List Int) (h:valid s) (hF:F.length≤1048576∧∀x∈F,0≤x∧x<(szn s.1:Int)) (hc:(c.length:Int)=bc s.1) (Q:List AV→Prop) :
  mc.C Zcy [⟨L V3,s.1⟩,⟨L TR,s.2⟩,⟨L (L I),steps s⟩,⟨L I,F⟩,⟨L I,c⟩] Q=Q [⟨B,dB (blk s F c)⟩]:=by
 have hz:=ZP h
 have h5:=h.1.2
 have hv:=h.2.2.1
 have ht:=Zl3 h
 have hT:=ht.1
 obtain ⟨m,hm,hmn⟩:=ZlX h
 refine Mc.Ends.c (mc.ends Zhh ?_)
 generalize hK:dB (blk s F c)=K
 simp+contextual(maxSteps:=9^6)(disch:=omega)only[↓YR,↓den,↓Z0,YS,O1.d,O2.d,O3.d,cmI,arI,Z1,Z2,seval,ZF,ZG,ZeW,ZlV s c h hc,Zj2 s.1 h5 hv,Zll (ZR (inC s c) (szn s.1)) (sz s.1) (szn s.1) hz.1.symm (by omega) (by have:=@ZS (inC s c) (szn s.1);omega) (ZkM (ZkR (Yh _))),ZlY,↓ZH]
 simp+contextual(maxSteps:=9^6)(disch:=omega)only[↓YR,↓den,↓Z0,YS,O1.d,O2.d,O3.d,cmI,arI,Z1,Z2,seval,ZF,ZG,ZjY s h5,Zk4 s _ h5 hv (ZjW hv),hm,ZN,ZO hmn]
 refine ⟨fun g=>?_,fun g=>?_⟩
 ·rw [←hK,ZU];intro g1;have:=g1.1;rw [hm] at this;simp only [Yv] at this;rw [g] at this;cases this
 refine Zis (fun i=>[⟨L I,F⟩,⟨I,(F.length:Int)⟩,⟨I,(i:Int)⟩,⟨L B,tab (inC s c) (szn s.1)⟩,⟨L (L I),steps s⟩]) (fun i=>inC s c (F.getD i 0).toNat=false→∀y∈(steps s).getD (F.getD i 0).toNat [],inC s c y.toNat=false) F.length _ rfl ?_ ?_
 ·intro i hi
  have hx:=hF.2 _ (ZJ (d:=0) hi)
  obtain ⟨x,hxe⟩:∃x:Nat,F.getD i 0=x:=⟨(F.getD i 0).toNat,by omega⟩
  have hxn:x<szn s.1:=by omega
  have hno:¬(inC s c x=false→∀y∈(steps s).getD x [],inC s c y.toNat=false)→false=K:=fun g=>by
   rw [←hK,ZU]
   refine fun g1=>g fun g2=>?_
   have:=g1.2 _ (ZJ (d:=0) hi)
   rw [hxe] at this
   exact this g2
  have hrow:=ht.row (i:=x)
  have hrl:((steps s).getD x []).length≤1048576:=(ht.2 _ (ZJ (by omega))).1
  simp+contextual(maxSteps:=9^6)(disch:=omega)only[↓YR,↓den,↓Z0,YS,O1.d,O2.d,O3.d,cmI,arI,Z1,Z2,seval,ZF,ZG,↓ZH,hxe,hT,ZN,ZO hxn]
  intro g
  refine Zis (fun j=>[⟨L I,(steps s).getD x []⟩,⟨I,(((steps s).getD x []).length:Int)⟩,⟨I,(j:Int)⟩,⟨L I,F⟩,⟨I,(i:Int)⟩,⟨I,(F.length:Int)⟩,⟨I,(i:Int)⟩,⟨L B,tab (inC s c) (szn s.1)⟩,⟨L (L I),steps s⟩]) (fun j=>inC s c (((steps s).getD x []).getD j 0).toNat=false) ((steps s).getD x []).length _ rfl ?_ ?_
  ·intro j hj
   have hy:=hrow _ (ZJ (d:=0) hj)
   obtain ⟨y,hye⟩:∃y:Nat,((steps s).getD x []).getD j 0=y:=⟨(((steps s).getD x []).getD j 0).toNat,by omega⟩
   have hyn:y<szn s.1:=by omega
   simp+contextual(maxSteps:=9^6)(disch:=omega)only[↓YR,↓den,↓Z0,YS,O1.d,O2.d,O3.d,cmI,arI,Z1,Z2,seval,ZF,ZG,hye,ZN,ZO hyn]
   intro g1
   have h0:(i:Int)≥0:=by omega
   have:=hno fun g2=>by
    have:=g2 g _ (ZJ (d:=0) hj)
    rw [hye] at this
    simp only [Yv] at this
    rw [g1] at this;cases this
   simpa [h0] using this
  ·intro g1
   simp+contextual(maxSteps:=9^6)(disch:=omega)only[↓YR,↓den,↓Z0,YS,O1.d,O2.d,O3.d,cmI,arI,Z1,Z2,seval,ZF,ZG,]
   exact Zi_ (p:=fun y:Int=>inC s c y.toNat=false) (d:=0) g1
 ·intro g1
  simp+contextual(maxSteps:=9^6)(disch:=omega)only[↓YR,↓den,↓Z0,YS,O1.d,O2.d,O3.d,cmI,arI,Z1,Z2,seval,ZF,ZG,]
  rw [←hK,ZT]
  ·rfl
  ·refine ⟨by rw [hm];simpa using g,fun x hx=>?_⟩
   obtain ⟨i,hi,rfl⟩:=List.getElem_of_mem hx
   have:=g1 i hi
   rwa [getD_lt hi] at this
theorem Zl_ (a b:List Int) (N:Nat) (hN:N=400) (ha:ZW a 400) (hb:ZW b 400) (Q:List AV→Prop):mc.C Zdf [⟨L I,a⟩,⟨L I,b⟩,⟨I,0⟩] Q=Q [⟨L I,ZR (fun k=>dB ((k:Int)∈a)&&dB ((k:Int)∈b)) N⟩]:=by
 have la:=ZkO ha (by omega)
 have lb:=ZkO hb (by omega)
 have ma:=ZkM ha
 have mb:=ZkM hb
 refine Mc.Ends.c (mc.ends ZhZ ?_)
 simp+contextual(maxSteps:=9^6)(disch:=omega)only[↓YR,↓den,↓Z0,YS,O1.d,O2.d,O3.d,cmI,arI,Z1,Z2,seval,ZF,ZG,ZfD,ZkX a (by omega),ZkX b (by omega),ha,hb,ZkU a 400 N (by omega) (by omega) (by omega) (fun x hx=>by have:=ma x hx;omega),ZkU b 400 N (by omega) (by omega) (by omega) (fun x hx=>by have:=mb x hx;omega)]
 refine mc.lp_for (List Int) (fun i o=>[⟨I,0⟩,⟨I,(i:Int)⟩,⟨L I,o⟩,⟨L B,tab (fun k=>dB ((k:Int)∈a)) N⟩,⟨L B,tab (fun k=>dB ((k:Int)∈b)) N⟩]) (fun i o=>o=ZR (fun k=>dB ((k:Int)∈a)&&dB ((k:Int)∈b)) i) N 0 [] _ rfl (Yf _) rfl ?_ ?_
 ·rintro i o hi rfl
  have hl:=@ZS (fun k=>dB ((k:Int)∈a)&&dB ((k:Int)∈b)) i
  simp+contextual(maxSteps:=9^6)(disch:=omega)only[↓YR,↓den,↓Z0,YS,O1.d,O2.d,O3.d,cmI,arI,Z1,Z2,seval,ZF,ZG,]
  refine mc.wp_join (fun us=>us=[⟨I,0⟩,⟨I,(i:Int)⟩,⟨L I,ZR (fun k=>dB ((k:Int)∈a)&&dB ((k:Int)∈b)) (i+1)⟩,⟨L B,tab (fun k=>dB ((k:Int)∈a)) N⟩,⟨L B,tab (fun k=>dB ((k:Int)∈b)) N⟩]) ?_ (by rintro _ rfl;simp+contextual(maxSteps:=9^6)(disch:=omega)only[↓YR,↓den,↓Z0,YS,O1.d,O2.d,O3.d,cmI,arI,Z1,Z2,seval,ZF,ZG,])
  simp only [ZR]
  simp+contextual(maxSteps:=9^6)(disch:=omega)only[↓YR,↓den,↓Z0,YS,O1.d,O2.d,O3.d,cmI,arI,Z1,Z2,seval,ZF,ZG,ZN,ZO hi,Y5,Bool.true_and,Bool.and_true,Bool.and_false,Bool.false_and]
 ·rintro o rfl
  simp+contextual(maxSteps:=9^6)(disch:=omega)only[↓YR,↓den,↓Z0,YS,O1.d,O2.d,O3.d,cmI,arI,Z1,Z2,seval,ZF,ZG,]
theorem Zm0 (a b:List Int) (ha:ZW a 400) (hb:ZW b 400) (Q:List AV→Prop):mc.C Zdj [⟨L I,a⟩,⟨L I,b⟩] Q=Q [⟨L I,ZR (fun k=>dB ((k:Int)∈a)&&dB ((k:Int)∈b)) 400⟩]:=by
 refine Mc.Ends.c (mc.ends Zi2 ?_)
 obtain ⟨N,hN⟩:∃N:Nat,N=400:=⟨_,rfl⟩
 rw [←hN]
 simp+contextual(maxSteps:=9^6)(disch:=omega)only[↓YR,↓den,↓Z0,YS,O1.d,O2.d,O3.d,cmI,arI,Z1,Z2,seval,ZF,ZG,ZfH,Zl_ a b N hN ha hb]
theorem Zm1 {l:List Int} {n m:Int} (h:ZW l n) (hm:n≤m):ZW l m:=fun i hi=>⟨⟨(h i hi).1.1,by have:=(h i hi).1.2;omega⟩,(h i hi).2⟩
theorem Zm2 {p:Nat→Bool} {n:Nat}:0<(ZR p n).length↔∃k,k<n∧p k=true:=by
 constructor
 ·intro h
  obtain ⟨k,h1,_,h3⟩:=Zkr.1 (ZJ (d:=0) h)
  exact ⟨k,h1,h3⟩
 ·rintro ⟨k,h1,h2⟩
  exact List.length_pos_of_mem (Zkr.2 ⟨k,h1,rfl,h2⟩)
theorem Zm3 (l:List Int) (N:Nat) (hN:N=400) (hl:l.length≤1048576) (h:∀x∈l,0≤x∧x<(N:Int)) (Q:List AV→Prop):mc.C Zdi [⟨L I,l⟩] Q=Q [⟨L I,ZR (fun k=>dB ((k:Int)∈l)) N⟩]:=by
 refine Mc.Ends.c (mc.ends Zi1 ?_)
 simp+contextual(maxSteps:=9^6)(disch:=omega)only[↓YR,↓den,↓Z0,YS,O1.d,O2.d,O3.d,cmI,arI,Z1,Z2,↓reduceIte,Nat.reduceLT,Nat.reduceSub,Nat.reduceAdd,Int.reduceAdd,Int.reduceEq,Int.reduceLT,Int.reduceLE,ZF,ZG,ZfG]
 refine mc.lp_for (List Bool) (fun i o=>[⟨L I,l⟩,⟨I,(i:Int)⟩,⟨L B,o⟩]) (fun i o=>o=tab (fun k=>dB ((k:Int)∈l.take i)) N) l.length 0 (List.replicate N false) _ (by rw [hN];rfl) (Yf _) ?_ ?_ ?_
 ·rw [ZkL];exact ZV fun k _=>(ZU (by simp)).symm
 ·rintro i o hi rfl
  have hx:=h _ (ZJ (d:=0) hi)
  simp+contextual(maxSteps:=9^6)(disch:=omega)only[↓YR,↓den,↓Z0,YS,O1.d,O2.d,O3.d,cmI,arI,Z1,Z2,seval,ZF,ZG,ZN,ZkK]
  refine ZV fun k hk=>?_
  by_cases hk2:k=(l.getD i 0).toNat
  ·rw [if_pos hk2,ZT];exact (ZkS hi).2 (.inr (by omega))
  ·rw [if_neg hk2];refine ZkI ?_
   rw [ZkS hi]
   exact ⟨.inl,fun h=>h.elim id fun h=>absurd h (by omega)⟩
 ·rintro o rfl
  rw [Yu]
  simp+contextual(maxSteps:=9^6)(disch:=omega)only[↓YR,↓den,↓Z0,YS,O1.d,O2.d,O3.d,cmI,arI,Z1,Z2,seval,ZF,ZG,ZkW _ N (by omega:N≤1048576)]
theorem Zm4 (s:Sy) (F c:List Int) (hs:ZK s) (h:valid s) (hF:ZW F (szn s.1)) (hc:(c.length:Int)=bc s.1) (Q:List AV→Prop) :
  mc.C Zdk [⟨L V3,s.1⟩,⟨L TR,s.2⟩,⟨L (L I),steps s⟩,⟨L I,F⟩,⟨L I,c⟩] Q=Q [⟨B,dB (blk s F c)⟩]:=by
 have hz:=ZP h
 have h5:=h.1.2
 have hv:=h.2.2.1
 have ht:=Zl3 h
 have hT:=ht.1
 obtain ⟨m,hm,hmn⟩:=ZlX h
 have hCl:=@ZS (inC s c) (szn s.1)
 have hCs:ZW (ZR (inC s c) (szn s.1)) 400:=ZkR (m:=400) (by omega)
 have hFs:ZW F 400:=Zm1 hF (by omega)
 have hFm:=ZkM hF
 refine Mc.Ends.c (mc.ends Zi3 ?_)
 generalize hK:dB (blk s F c)=K
 simp+contextual(maxSteps:=9^6)(disch:=omega)only[↓YR,↓den,↓Z0,YS,O1.d,O2.d,O3.d,cmI,arI,Z1,Z2,seval,ZF,ZG,ZfI,ZlW s c hs h hc,ZjZ s hs h,Zk3 s _ h5 hv (ZjW hv),hm,ZlA _ (m:Int) (by omega:(ZR (inC s c) (szn s.1)).length≤1048576),ZkZ,hmn,Zl1 F (ZR (inC s c) (szn s.1)) hFs hCs]
 simp only [decide_true,Bool.true_and]
 refine ⟨fun g=>?_,fun g=>?_⟩
 ·rw [←hK,ZU];intro g1;have:=g1.1;rw [hm] at this;simp only [Yv] at this;rw [g] at this;cases this
 generalize hfr:ZR (fun k=>dB ((k:Int)∈F)&&!(decide (k<szn s.1)&&inC s c k)) 400=fr
 have hfm:∀x,x∈fr↔x∈F∧inC s c x.toNat=false:=by
  intro x
  rw [←hfr,Zkr]
  constructor
  ·rintro ⟨k,h1,rfl,h2⟩
   simp only [Y5,Yr,Bool.and_eq_false_iff,YH] at h2
   have h3:=ZkH.1 h2.1
   have h4:=hFm _ h3
   exact ⟨h3,h2.2.elim (fun h5=>absurd h4.2 (by omega)) (by simp)⟩
  ·rintro ⟨h1,h2⟩
   have h4:=hFm _ h1
   refine ⟨x.toNat,by omega,by omega,?_⟩
   rw [show ((x.toNat:Nat):Int)=x by omega,ZT h1,h2]
   simp
 have hfl:fr.length≤400:=by rw [←hfr];exact ZS
 refine Zis (fun i=>[⟨L (L I),steps s⟩,⟨I,(i:Int)⟩,⟨L I,ZR (inC s c) (szn s.1)⟩,⟨L I,fr⟩]) (fun i=>∀y∈(steps s).getD (fr.getD i 0).toNat [],inC s c y.toNat=false) fr.length _ rfl ?_ ?_
 ·intro i hi
  have hxf:=(hfm _).1 (ZJ (d:=0) hi)
  have hx:=hFm _ hxf.1
  obtain ⟨x,hxe⟩:∃x:Nat,fr.getD i 0=x:=⟨(fr.getD i 0).toNat,by omega⟩
  rw [hxe] at hxf
  have hxn:x<szn s.1:=by omega
  have hrow:=ht.row (i:=x)
  have hrl:((steps s).getD x []).length≤1048576:=(ht.2 _ (ZJ (by omega))).1
  obtain ⟨N,hN⟩:∃N:Nat,N=400:=⟨_,rfl⟩
  simp+contextual(maxSteps:=9^6)(disch:=omega)only[↓YR,↓den,↓Z0,YS,O1.d,O2.d,O3.d,cmI,arI,Z1,Z2,seval,ZF,ZG,hxe,hT,Zm3 ((steps s).getD x []) N hN hrl (fun y hy=>by have:=hrow y hy;omega)]
  have ho:ZW (ZR (fun k=>dB ((k:Int)∈(steps s).getD x [])) N) 400:=ZkR (m:=400) (by omega)
  simp+contextual(maxSteps:=9^6)(disch:=omega)only[↓YR,↓den,↓Z0,YS,O1.d,O2.d,O3.d,cmI,arI,Z1,Z2,seval,ZF,ZG,Zm0 _ _ ho hCs]
  have hiff:0<(ZR (fun k=>dB ((k:Int)∈ZR (fun k=>dB ((k:Int)∈(steps s).getD x [])) N)&&dB ((k:Int)∈ZR (inC s c) (szn s.1))) 400).length↔¬ ∀y∈(steps s).getD x [],inC s c y.toNat=false:=by
   rw [Zm2]
   constructor
   ·rintro ⟨k,h1,h2⟩ h3
    simp only [ZkZ,Y5,Ye] at h2
    have:=h3 _ (ZkH.1 h2.1.2)
    simp only [Yv] at this
    rw [h2.2.2] at this;cases this
   ·intro h3
    refine Classical.byContradiction fun h4=>h3 fun y hy=>?_
    have hyb:=hrow y hy
    refine Bool.eq_false_iff.2 fun h5=>h4 ⟨y.toNat,by omega,?_⟩
    simp only [ZkZ,Y5,Ye]
    exact ⟨⟨by omega,ZT (by rw [show ((y.toNat:Nat):Int)=y by omega];exact hy)⟩,by omega,h5⟩
  refine ⟨fun g1=>?_,fun g1=>?_⟩
  ·rw [←hK,ZU]
   intro g2
   exact hiff.1 (by omega) (g2.2 _ hxf.1 (by simpa using hxf.2))
  ·exact Classical.byContradiction fun g2=>g1 (by have:=hiff.2 g2;omega)
 ·intro g1
  simp+contextual(maxSteps:=9^6)(disch:=omega)only[↓YR,↓den,↓Z0,YS,O1.d,O2.d,O3.d,cmI,arI,Z1,Z2,seval,ZF,ZG,]
  rw [←hK,ZT]
  refine ⟨by rw [hm];simpa using g,fun x hx hxc=>?_⟩
  obtain ⟨i,hi,he⟩:=List.getElem_of_mem ((hfm x).2 ⟨hx,hxc⟩)
  have:=g1 i hi
  rwa [getD_lt hi,he] at this
noncomputable def wdn (P:List Int→Prop) (c:List Int):Nat→List Int
 | 0=>c
 | i+1=>if dB (P ((wdn P c i).set i 2))=true then (wdn P c i).set i 2 else wdn P c i
theorem Zm5 {P:List Int→Prop} {c:List Int}:∀{i:Nat},(wdn P c i).length=c.length
 | 0=>rfl
 | i+1=>by
  simp only [wdn]
  split
  ·rw [YC,Zm5]
  ·exact Zm5
theorem Zm6 {P:List Int→Prop} {c:List Int} {d:Int}:∀{i:Nat},Same c (wdn P c i) d i
 | 0=>Same.refl
 | i+1=>by
  have ih:=@Zm6 P c d i
  simp only [wdn]
  split
  ·exact ih.set
  ·exact ⟨ih.1,fun j hj=>ih.2 j (by omega)⟩
theorem set_self {α:Type} {l:List α} {i:Nat} {x d:α} (hi:i<l.length) (h:l.getD i d=x):l.set i x=l:=by
 rw [←h,getD_lt hi,List.set_getElem_self]
noncomputable def gen (s:Sy) (F:List Int) (n:Nat):List Int:=wdn (blk s F) (sb s (stN s n)) (sb s (stN s n)).length
theorem Zm7 {s:Sy} {n:Nat}:((sb s (stN s n)).length:Int)=bc s.1:=ZlL
theorem Zm8 {s:Sy} {F:List Int} {n:Nat}:((gen s F n).length:Int)=bc s.1:=by rw [gen,Zm5];exact ZlL
theorem Zm9 (s:Sy) (F:List Int) (n:Nat) (h:valid s) (hn:n<szn s.1) (hF:F.length≤1048576∧∀x∈F,0≤x∧x<(szn s.1:Int)) (Q:List AV→Prop) :
  mc.C Zcz [⟨L V3,s.1⟩,⟨L TR,s.2⟩,⟨L (L I),steps s⟩,⟨L I,F⟩,⟨I,(n:Int)⟩] Q=Q (if dB (blk s F (sb s (stN s n)))=true then [⟨L I,gen s F n⟩,⟨B,true⟩] else [⟨L I,[]⟩,⟨B,false⟩]):=by
 have hz:=ZP h
 have hb:=ZlM h
 have h5:=h.1.2
 have hv:=h.2.2.1
 have hin:=Zkh h hn
 have hst:Zk5 s.1 (n:Int)=stN s n:=rfl
 have hlen:=@Zm7 s n
 refine Mc.Ends.c (mc.ends Zhi ?_)
 simp+contextual(maxSteps:=9^6)(disch:=omega)only[↓YR,↓den,↓Z0,YS,O1.d,O2.d,O3.d,cmI,arI,Z1,Z2,seval,ZF,ZG,ZeX,Zkb s n h5 hv (by omega),hst,ZlP s (stN s n) h hin,ZlZ s F (sb s (stN s n)) h hF hlen]
 intro g
 simp+contextual(maxSteps:=9^6)(disch:=omega)only[↓YR,↓den,↓Z0,YS,O1.d,O2.d,O3.d,cmI,arI,Z1,Z2,seval,ZF,ZG,Zju (sb s (stN s n)) (by omega)]
 generalize hc:sb s (stN s n)=c at *
 refine mc.lp_for (List Int) (fun i o=>[⟨I,(c.length:Int)⟩,⟨I,(i:Int)⟩,⟨L V3,s.1⟩,⟨L TR,s.2⟩,⟨L (L I),steps s⟩,⟨L I,F⟩,⟨L I,o⟩,⟨L I,c⟩]) (fun i o=>o=wdn (blk s F) c i) c.length 0 c _ rfl (Yf _) rfl ?_ ?_
 ·rintro i o hi rfl
  have hl:=@Zm5 (blk s F) c i
  have hsm:=(@Zm6 (blk s F) c 0 i).2 i (Yh _)
  have hl2:(((wdn (blk s F) c i).set i 2).length:Int)=bc s.1:=by rw [YC,hl];exact hlen
  have e:(wdn (blk s F) c i).set i (c.getD i 0)=wdn (blk s F) c i:=set_self (d:=0) (by omega) hsm
  simp+contextual(maxSteps:=9^6)(disch:=omega)only[↓YR,↓den,↓Z0,YS,O1.d,O2.d,O3.d,cmI,arI,Z1,Z2,seval,ZF,ZG,↓ZH,ZlZ s F ((wdn (blk s F) c i).set i 2) h hF hl2,YC,List.set_set,e]
  simp only [wdn]
  refine ⟨fun g1=>by rw [if_neg (by rw [g1];simp)],fun g1=>by rw [if_pos (by simpa using g1)]⟩
 ·rintro o rfl
  simp+contextual(maxSteps:=9^6)(disch:=omega)only[↓YR,↓den,↓Z0,YS,O1.d,O2.d,O3.d,cmI,arI,Z1,Z2,seval,ZF,ZG,]
  rw [gen,hc]
theorem Zma (s:Sy) (F:List Int) (n:Nat) (hs:ZK s) (h:valid s) (hn:n<szn s.1) (hF:ZW F (szn s.1)) (hB:dB (blk s F (sb s (stN s n)))=true) (Q:List AV→Prop) :
  mc.C Zdl [⟨L V3,s.1⟩,⟨L TR,s.2⟩,⟨L (L I),steps s⟩,⟨L I,F⟩,⟨I,(n:Int)⟩] Q=Q [⟨L I,gen s F n⟩]:=by
 have hz:=ZP h
 have hb:=ZlM h
 have hin:=Zkh h hn
 have hst:Zk5 s.1 (n:Int)=stN s n:=rfl
 have hlen:=@Zm7 s n
 refine Mc.Ends.c (mc.ends Zi4 ?_)
 simp+contextual(maxSteps:=9^6)(disch:=omega)only[↓YR,↓den,↓Z0,YS,O1.d,O2.d,O3.d,cmI,arI,Z1,Z2,seval,ZF,ZG,ZfJ,Zkc s n hs h (by omega),hst,ZlQ s (stN s n) h hin,Zm4 s F (sb s (stN s n)) hs h hF hlen,hB]
 generalize hc:sb s (stN s n)=c at *
 refine mc.lp_for (List Int) (fun i o=>[⟨L (L I),steps s⟩,⟨L I,F⟩,⟨I,(i:Int)⟩,⟨L V3,s.1⟩,⟨L TR,s.2⟩,⟨L I,o⟩]) (fun i o=>o=wdn (blk s F) c i) c.length 0 c _ rfl (Yf _) rfl ?_ ?_
 ·rintro i o hi rfl
  have hl:=@Zm5 (blk s F) c i
  have hl2:(((wdn (blk s F) c i).set i 2).length:Int)=bc s.1:=by rw [YC,hl];exact hlen
  simp+contextual(maxSteps:=9^6)(disch:=omega)only[↓YR,↓den,↓Z0,YS,O1.d,O2.d,O3.d,cmI,arI,Z1,Z2,seval,ZF,ZG,↓ZH,Zj_ (wdn (blk s F) c i) (by omega),Zm4 s F ((wdn (blk s F) c i).set i 2) hs h hF hl2]
  simp only [wdn]
  refine ⟨fun g1=>by rw [if_pos g1],fun g1=>by rw [if_neg g1]⟩
 ·rintro o rfl
  have hl:=@Zm5 (blk s F) c c.length
  simp+contextual(maxSteps:=9^6)(disch:=omega)only[↓YR,↓den,↓Z0,YS,O1.d,O2.d,O3.d,cmI,arI,Z1,Z2,seval,ZF,ZG,hl]
  rw [gen,hc]
theorem wrap_u64 {n:Nat} (h:n<18446744073709551616):IntKind.u64.wrap (n:Int)=n:=by
 unfold IntKind.wrap
 simp only [IntKind.bits,IntKind.signed]
 have:((n:Int) % (2:Int) ^ 64)=n:=by omega
 simpa using this
theorem Zmb {n:Nat} (h:n<4294967296):(n:Int).fdiv (2 ^ min (Int.toNat 32) IntKind.u64.bits)=0:=by
 have:min (Int.toNat 32) IntKind.u64.bits=32:=by decide
 rw [this,Int.fdiv_eq_ediv_of_nonneg _ (by decide)]
 omega
theorem Zmc {n:Nat} (h:n<4294967296):shI false .u64 (n:Int) 32=0:=by
 unfold shI
 simp only [Yg,if_false]
 exact Zmb h
theorem Zmd {n:Nat} (h:n<4294967296):IntKind.u64.wrap ((BitVec.ofInt IntKind.u64.bits (n:Int) &&& BitVec.ofInt IntKind.u64.bits 4294967295).toNat:Int)=n:=by
 have h1:(BitVec.ofInt IntKind.u64.bits (n:Int) &&& BitVec.ofInt IntKind.u64.bits 4294967295).toNat=n:=by
  rw [BitVec.toNat_and]
  have e1:(BitVec.ofInt IntKind.u64.bits (n:Int)).toNat=n:=by
   rw [BitVec.toNat_ofInt]
   show Int.toNat ((n:Int) % (2:Int) ^ 64)=n
   omega
  have e2:(BitVec.ofInt IntKind.u64.bits 4294967295).toNat=2 ^ 32 - 1:=by decide
  rw [e1,e2,Nat.and_two_pow_sub_one_eq_mod,Nat.mod_eq_of_lt h]
 rw [h1]
 exact wrap_u64 (by omega)
theorem Zme (n:Nat) (h:n≤1048576) (Q:List AV→Prop):mc.C Zcp [⟨.int .u64,(1:Int)⟩,⟨.int .u64,(n:Int)⟩] Q=Q [⟨.int .u64,(0:Int)⟩,⟨.int .u64,(n:Int)⟩]:=by
 have e1:mc.C Zco [⟨.int .u64,(1:Int)⟩,⟨.int .u64,(n:Int)⟩]=fun Q=>Q [⟨.int .u64,(0:Int)⟩,⟨.int .u64,(n:Int)⟩]:=by
  funext Q
  refine Mc.Ends.c (mc.ends Zh7 ?_)
  have s1:shI false .u64 1 32=0:=Zmc (n:=1) (by omega)
  have s0:shI false .u64 0 32=0:=Zmc (n:=0) (by omega)
  have sn:=Zmc (n:=n) (by omega)
  have a1:IntKind.u64.wrap ((BitVec.ofInt IntKind.u64.bits 1 &&& BitVec.ofInt IntKind.u64.bits 4294967295).toNat:Int)=1:=Zmd (n:=1) (by omega)
  have a0:IntKind.u64.wrap ((BitVec.ofInt IntKind.u64.bits 0 &&& BitVec.ofInt IntKind.u64.bits 4294967295).toNat:Int)=0:=Zmd (n:=0) (by omega)
  have an:=Zmd (n:=n) (by omega)
  have w:=wrap_u64 (n:=n) (by omega)
  have w0:IntKind.u64.wrap 0=0:=by decide
  simp+contextual(maxSteps:=9^6)(disch:=omega)only[↓YR,↓den,↓Z0,YS,O1.d,O2.d,O3.d,cmI,arI,Z1,Z2,seval,ZF,ZG,ZeM,s1,s0,sn,a1,an,a0,w,w0,Int.zero_mul,Int.mul_zero,Int.one_mul,Int.add_zero,Int.zero_add]
 refine Mc.Ends.c (mc.ends Zh8 ?_)
 simp+contextual(maxSteps:=9^6)(disch:=omega)only[↓YR,↓den,↓Z0,YS,O1.d,O2.d,O3.d,cmI,arI,Z1,Z2,seval,ZF,ZG,ZeN,e1]
def Lay (T:List (List Int)) (F:List Int):Nat→Nat→Prop
 | 0,k=>(k:Int)∈F
 | d+1,k=>Lay T F d k∨∃a,Lay T F d a∧(k:Int)∈T.getD a []
theorem least {P:Nat→Prop} (h:∃d,P d):∃d,P d∧∀e,e<d→¬P e:=by
 obtain ⟨d,hd⟩:=h
 induction d using Nat.strongRecOn with
 | ind d ih =>
  by_cases g:∃e,e<d∧P e
  ·obtain ⟨e,h1,h2⟩:=g;exact ih e h1 h2
  ·exact ⟨d,hd,fun e he hp=>g ⟨e,he,hp⟩⟩
open Classical in
noncomputable def dst (T:List (List Int)) (F:List Int) (k:Nat):Int:=if h:∃d,Lay T F d k then ((Classical.choose (least h):Nat):Int) else -1
theorem Lay.up {T:List (List Int)} {F:List Int} {d e k:Nat} (h:Lay T F d k) (he:d≤e):Lay T F e k:=by
 induction e with
 | zero => have : d = 0 := by omega
           subst this;exact h
 | succ e ih =>
  by_cases g:d≤e
  ·exact .inl (ih g)
  ·have:d=e+1:=by omega
   subst this;exact h
structure IsDst (T:List (List Int)) (F:List Int) (n:Nat) (f:Nat→Int):Prop where
 ge:∀k,k<n → -1≤f k
 zero:∀k,k<n→(f k=0↔(k:Int)∈F)
 pre:∀k,k<n→0<f k→∃a,a<n∧f a+1=f k∧(k:Int)∈T.getD a []
 nxt:∀a,a<n→0≤f a→∀k:Nat,(k:Int)∈T.getD a []→0≤f k∧f k≤f a+1
theorem IsDst.eq {T:List (List Int)} {F:List Int} {n:Nat} {f:Nat→Int} (ht:Tbl T n) (hF:∀x∈F,0≤x∧x<n) (h:IsDst T F n f):∀k,k<n→f k=dst T F k:=by
 have a1:∀d k,k<n→f k=(d:Nat)→Lay T F d k:=by
  intro d
  induction d with
  | zero=>intro k hk h1;exact (h.zero k hk).1 h1
  | succ d ih =>
   intro k hk h1
   obtain ⟨a,b1,b2,b3⟩:=h.pre k hk (by omega)
   exact .inr ⟨a,ih a b1 (by omega),b3⟩
 have a2:∀d k,Lay T F d k→k<n∧0≤f k∧f k≤(d:Nat):=by
  intro d
  induction d with
  | zero => intro k h1; have := hF _ h1; have hk : k < n := by omega
            have:=(h.zero k hk).2 h1;exact ⟨hk,by omega,by omega⟩
  | succ d ih =>
   intro k h1
   rcases h1 with h1 | ⟨a,h1,h2⟩
   ·have:=ih k h1;exact ⟨this.1,this.2.1,by omega⟩
   ·obtain ⟨b1,b2,b3⟩:=ih a h1
    have:=ht.row _ h2
    have:=h.nxt a b1 b2 k h2
    exact ⟨by omega,this.1,by omega⟩
 intro k hk
 unfold dst
 by_cases g:∃d,Lay T F d k
 ·rw [dif_pos g]
  obtain ⟨b1,b2⟩:=Classical.choose_spec (least g)
  generalize Classical.choose (least g)=d at b1 b2
  obtain ⟨-,c1,c2⟩:=a2 d k b1
  have c3:=a1 (f k).toNat k hk (by omega)
  have:¬(f k).toNat<d:=fun hh=>b2 _ hh c3
  omega
 ·rw [dif_neg g]
  have:=h.ge k hk
  by_cases g2:0≤f k
  ·exact absurd ⟨_,a1 (f k).toNat k hk (by omega)⟩ g
  ·omega
structure Rnd (T:List (List Int)) (p:Nat→Bool) (n:Nat) (d a0 C:Nat) (ag:Bool) (f:Nat→Int):Prop where
 ge:∀k,k<n → -1≤f k
 zero:∀k,k<n→(f k=0↔p k=true)
 pre:∀k,k<n→0<f k→∃a,a<n∧f a+1=f k∧(k:Int)∈T.getD a []
 le:∀k,k<n→f k≤(d:Int)+1
 closed:∀a,a<n→0≤f a→(f a<d∨f a=d∧a<a0)→∀k:Nat,(k:Int)∈T.getD a []→0≤f k∧f k≤f a+1
 none:ag=false→∀k,k<n→f k≤d
 cnt:cntF (fun k=>decide (0≤f k)) n≤C
 less:ag=true→cntF (fun k=>decide (0≤f k)) n<C
theorem Rnd.skip {T:List (List Int)} {p:Nat→Bool} {n d a0 C:Nat} {ag:Bool} {f:Nat→Int} (h:Rnd T p n d a0 C ag f) (ht:Tbl T n) (hx:f a0=d→∀k:Nat,(k:Int)∈T.getD a0 []→0≤f k):Rnd T p n d (a0+1) C ag f:=by
 refine ⟨h.ge,h.zero,h.pre,h.le,fun a h1 h2 h3 k hk=>?_,h.none,h.cnt,h.less⟩
 by_cases e:a=a0
 ·subst e
  rcases h3 with h3 | h3
  ·exact h.closed a h1 h2 (.inl h3) k hk
  ·have h4:=ht.row _ hk
   have h5:=h.le k (by omega)
   exact ⟨hx h3.1 k hk,by omega⟩
 ·refine h.closed a h1 h2 (h3.imp_right fun h4=>⟨h4.1,?_⟩) k hk
  omega
theorem Rch.trans {T:List (List Int)} {a b c:Nat} (h:Rch T [(a:Int)] b) (h2:Rch T [(b:Int)] c):Rch T [(a:Int)] c:=by
 induction h2 with
 | base h3=>simp only [Y1] at h3;have h3:=Int.ofNat_inj.1 h3;subst h3;exact h
 | step _ h3 ih=>exact .step ih h3
theorem Rch.one {T:List (List Int)} {a:Nat}:Rch T [(a:Int)] a:=.base (by simp)
def eqv (T:List (List Int)) (i k:Nat):Prop:=Rch T [(i:Int)] k∧Rch T [(k:Int)] i
noncomputable def cmp (T:List (List Int)):Nat→Nat→Int
 | 0,_ => -1
 | i+1,k=>if 0≤cmp T i k then cmp T i k else if dB (eqv T i k)=true then (i:Int) else -1
def Zmf (l:List Int) (M:Int):Prop:=M∈l∧∀x∈l,x≤M
theorem Zmf.eq {l:List Int} {M N:Int} (h:Zmf l M) (h2:Zmf l N):M=N:=Int.le_antisymm (h2.2 _ h.1) (h.2 _ h2.1)
abbrev RD:Ty:=P (L U) I
def Byt (b:List Int):Prop:=∀x∈b,0≤x∧x≤255
def Rdy (b:List Int):Prop:=Byt b∧b.length≤2000
theorem Byt.get {b:List Int} (h:Byt b) (i:Nat):0≤b.getD i 0∧b.getD i 0≤255:=by
 by_cases hi:i<b.length
 ·exact h _ (ZJ hi)
 ·rw [Y8,Yz (by omega)];simp
theorem Zmg {x y:Int} (hx:0≤x∧x<1099511627776) (hy:0≤y∧y<1099511627776):0≤IntKind.i64.wrap ((BitVec.ofInt IntKind.i64.bits x ^^^ BitVec.ofInt IntKind.i64.bits y).toNat:Int):=by
 have e:∀z:Int,0≤z∧z<1099511627776→(BitVec.ofInt IntKind.i64.bits z).toNat<2 ^ 40:=by
  intro z hz
  rw [BitVec.toNat_ofInt]
  show Int.toNat (z % (2:Int) ^ 64)<2 ^ 40
  omega
 have h:(BitVec.ofInt IntKind.i64.bits x ^^^ BitVec.ofInt IntKind.i64.bits y).toNat<2 ^ 40:=by
  rw [BitVec.toNat_xor]
  exact Nat.xor_lt_two_pow (e x hx) (e y hy)
 rw [Zbi (by omega) (by omega)]
 omega
theorem Zmh (b:List Int) (p n:Int) (hb:Rdy b) (hp:0≤p∧p≤1000000000) {Q:List AV→Prop} (h:∀v:Int,0≤v→(1≤n→v<n)→Q [⟨I,v⟩,⟨RD,(b,p+1)⟩]):mc.C ZI [⟨RD,(b,p)⟩,⟨I,n⟩] Q:=by
 refine mc.c_of Zg7 ?_
 have hl:=hb.2
 simp+contextual(maxSteps:=9^6)(disch:=omega)only[↓YR,↓den,↓Z0,YS,O1.d,O2.d,O3.d,cmI,arI,Z1,Z2,seval,ZF,ZG,ZdM]
 refine ⟨fun g=>h 0 (by omega) (by omega),fun g=>⟨fun g2=>h 0 (by omega) (by omega),fun g2=>?_⟩⟩
 have hn:1≤n:=by omega
 have hlb:0<(b.length:Int):=by omega
 refine ⟨fun g3=>?_,fun g3=>?_⟩
 ·have h1:=hb.1.get p.toNat
  rw [Zbi (by omega) (by omega),Int.tmod_eq_emod_of_nonneg h1.1]
  exact h _ (Int.emod_nonneg _ (by omega)) fun _=>Int.emod_lt_of_pos _ (by omega)
 ·have a1:=Int.emod_nonneg p (show (b.length:Int)≠0 by omega)
  have a2:=Int.emod_lt_of_pos p hlb
  have a3:=Int.emod_nonneg (p * 7+3) (show (b.length:Int)≠0 by omega)
  have a4:=Int.emod_lt_of_pos (p * 7+3) hlb
  have a5:=Int.ediv_nonneg hp.1 (Int.le_of_lt hlb)
  have a6:=Int.ediv_le_self (b.length:Int) hp.1
  have h1:=hb.1.get (p % (b.length:Int)).toNat
  have h2:=hb.1.get ((p * 7+3) % (b.length:Int)).toNat
  refine ⟨a1,a2,a3,a4,?_⟩
  generalize b.getD (p % (b.length:Int)).toNat 0=x1 at *
  generalize b.getD ((p * 7+3) % (b.length:Int)).toNat 0=x2 at *
  generalize p / (b.length:Int)=x3 at *
  rw [Zbi (x:=x1) (by omega) (by omega),Zbi (x:=x2) (by omega) (by omega),Zbi (x:=x3) (by omega) (by omega),Zbi (x:=x1 * 131) (by omega) (by omega),Zbi (x:=x2 * 1117) (by omega) (by omega),Zbi (x:=x1 * 131+x2 * 1117) (by omega) (by omega),Zbi (x:=x1 * 131+x2 * 1117+p * 29) (by omega) (by omega),Zbi (x:=x3 * 53) (by omega) (by omega),Zbi (x:=x1 * 131+x2 * 1117+p * 29+x3 * 53) (by omega) (by omega)]
  obtain ⟨y,hy⟩:∃y,x1 * 131+x2 * 1117+p * 29+x3 * 53=y:=⟨_,rfl⟩
  have hyb:0≤y∧y<1099511627776:=by omega
  rw [hy,Int.tdiv_eq_ediv_of_nonneg hyb.1,Zbi (x:=y / 64) (by omega) (by omega)]
  have h4:=Zmg hyb (y:=y / 64) (by omega)
  rw [Int.tmod_eq_emod_of_nonneg h4]
  exact h _ (Int.emod_nonneg _ (by omega)) fun _=>Int.emod_lt_of_pos _ (by omega)
theorem ZX (b:List Int) (p n:Int) (hb:Rdy b) (hp:0≤p∧p≤1000000000) (hn:1≤n) {Q:List AV→Prop} (h:∀v:Int,0≤v→v<n→Q [⟨I,v⟩,⟨RD,(b,p+1)⟩]):mc.C ZI [⟨RD,(b,p)⟩,⟨I,n⟩] Q:=Zmh b p n hb hp fun v h0 h1=>h v h0 (h1 hn)
theorem Zmi (b:List Int) (p:Int) (l:List Int) (hb:Rdy b) (hp:0≤p∧p≤1000000000) (hl:l≠[]) (hl2:l.length≤1048576) {Q:List AV→Prop} (h:∀v:Int,v∈l→Q [⟨I,v⟩,⟨RD,(b,p+1)⟩]):mc.C Zbp [⟨RD,(b,p)⟩,⟨L I,l⟩] Q:=by
 have hl1:0<l.length:=YJ.2 hl
 refine mc.c_of Zg8 ?_
 simp+contextual(maxSteps:=9^6)(disch:=omega)only[↓YR,↓den,↓Z0,YS,O1.d,O2.d,O3.d,cmI,arI,Z1,Z2,seval,ZF,ZG,ZdN]
 refine ZX b p _ hb hp (by omega) fun v h0 h1=>?_
 simp+contextual(maxSteps:=9^6)(disch:=omega)only[↓YR,↓den,↓Z0,YS,O1.d,O2.d,O3.d,cmI,arI,Z1,Z2,seval,ZF,ZG,]
 exact h _ (ZJ (by omega))
theorem Zmj (b:List Int) (hb:Byt b) (hl:Zit b) {Q:List AV→Prop} (h:∀b',Rdy b'→Q [⟨RD,(b',0)⟩]):mc.C Zbo [⟨L U,b⟩] Q:=by
 unfold Zit at hl
 refine mc.c_of Zg6 ?_
 simp+contextual(maxSteps:=9^6)(disch:=omega)only[↓YR,↓den,↓Z0,YS,O1.d,O2.d,O3.d,cmI,arI,Z1,Z2,seval,ZF,ZG,↓ZH,ZdL]
 refine ⟨fun g=>?_,fun g=>h b ⟨hb,by omega⟩⟩
 refine h _ ⟨fun x hx=>hb x ?_,?_⟩
 ·exact List.mem_of_mem_take hx
 ·rw [Yb];omega
theorem Zmk (b:List Int) (p:Int) (hb:Rdy b) (hp:0≤p∧p≤900000000) {Q:List AV→Prop} (h:∀v p':Int,p≤p'∧p'≤p+6→Q [⟨I,v⟩,⟨RD,(b,p')⟩]):mc.C ZbB [⟨RD,(b,p)⟩] Q:=by
 refine mc.c_of Zgk ?_
 simp+contextual(maxSteps:=9^6)(disch:=omega)only[↓YR,↓den,↓Z0,YS,O1.d,O2.d,O3.d,cmI,arI,Z1,Z2,seval,ZF,ZG,ZdZ]
 refine ZX _ _ _ hb (by omega) (by omega) fun v1 v10 v11=>?_;simp+contextual(maxSteps:=9^6)(disch:=omega)only[↓YR,↓den,↓Z0,YS,O1.d,O2.d,O3.d,cmI,arI,Z1,Z2,seval,ZF,ZG,]
 refine ZX _ _ _ hb (by omega) (by omega) fun v2 v20 v21=>?_;simp+contextual(maxSteps:=9^6)(disch:=omega)only[↓YR,↓den,↓Z0,YS,O1.d,O2.d,O3.d,cmI,arI,Z1,Z2,seval,ZF,ZG,]
 refine ZX _ _ _ hb (by omega) (by omega) fun v3 v30 v31=>?_;simp+contextual(maxSteps:=9^6)(disch:=omega)only[↓YR,↓den,↓Z0,YS,O1.d,O2.d,O3.d,cmI,arI,Z1,Z2,seval,ZF,ZG,]
 refine ZX _ _ _ hb (by omega) (by omega) fun v4 v40 v41=>?_;simp+contextual(maxSteps:=9^6)(disch:=omega)only[↓YR,↓den,↓Z0,YS,O1.d,O2.d,O3.d,cmI,arI,Z1,Z2,seval,ZF,ZG,]
 refine ZX _ _ _ hb (by omega) (by omega) fun v5 v50 v51=>?_;simp+contextual(maxSteps:=9^6)(disch:=omega)only[↓YR,↓den,↓Z0,YS,O1.d,O2.d,O3.d,cmI,arI,Z1,Z2,seval,ZF,ZG,]
 refine Zmi _ _ _ hb (by omega) (by simp) (by simp) fun v v0=>?_;simp+contextual(maxSteps:=9^6)(disch:=omega)only[↓YR,↓den,↓Z0,YS,O1.d,O2.d,O3.d,cmI,arI,Z1,Z2,seval,ZF,ZG,]
 exact h v _ (by omega)
theorem Zml (b:List Int) (p:Int) (ks:List Int) (kind:Int) (hb:Rdy b) (hp:0≤p∧p≤900000000) (hk:0<ks.length) (hk2:ks.length≤1000) {Q:List AV→Prop} (h:∀v:Int,-1≤v∧v<ks.length→Q [⟨I,v⟩,⟨RD,(b,p+1)⟩]):mc.C ZbC [⟨RD,(b,p)⟩,⟨L I,ks⟩,⟨I,kind⟩] Q:=by
 refine mc.c_of Zgl ?_
 simp+contextual(maxSteps:=9^6)(disch:=omega)only[↓YR,↓den,↓Z0,YS,O1.d,O2.d,O3.d,cmI,arI,Z1,Z2,seval,ZF,ZG,Zd_]
 refine ZX _ _ _ hb (by omega) (by omega) fun a a0 a1=>?_;simp+contextual(maxSteps:=9^6)(disch:=omega)only[↓YR,↓den,↓Z0,YS,O1.d,O2.d,O3.d,cmI,arI,Z1,Z2,seval,ZF,ZG,]
 refine mc.lp_for Unit (fun i _=>[⟨L I,ks⟩,⟨I,kind⟩,⟨I,a⟩,⟨I,(i:Int)⟩,⟨L U,b⟩,⟨I,p+1⟩]) (fun _ _=>True) ks.length 0 () _ rfl (Yf _) trivial ?_ ?_
 ·rintro i - hi -
  have a1:=Int.emod_nonneg (a+(i:Int)) (show (ks.length:Int)≠0 by omega)
  have a2:=Int.emod_lt_of_pos (a+(i:Int)) (show 0<(ks.length:Int) by omega)
  simp+contextual(maxSteps:=9^6)(disch:=omega)only[↓YR,↓den,↓Z0,YS,O1.d,O2.d,O3.d,cmI,arI,Z1,Z2,seval,ZF,ZG,]
  exact fun _=>h _ (by omega)
 ·rintro - -
  simp+contextual(maxSteps:=9^6)(disch:=omega)only[↓YR,↓den,↓Z0,YS,O1.d,O2.d,O3.d,cmI,arI,Z1,Z2,seval,ZF,ZG,]
  exact h _ (by omega)
theorem Zmm (n:Int) (Q:List AV→Prop):mc.C Zbq [⟨I,n⟩] Q=Q [⟨I,1⟩,⟨I,n⟩,⟨I,0⟩,⟨I,0⟩]:=Mc.Ends.c (mc.ends Zg9 (by simp+contextual(maxSteps:=9^6)(disch:=omega)only[↓YR,↓den,↓Z0,YS,O1.d,O2.d,O3.d,cmI,arI,Z1,Z2,seval,ZF,ZG,ZdO]))
theorem Zmn (n:Int) (Q:List AV→Prop):mc.C Zbr [⟨I,n⟩] Q=Q [⟨I,0⟩,⟨I,n⟩,⟨I,0⟩,⟨I,0⟩]:=Mc.Ends.c (mc.ends Zga (by simp+contextual(maxSteps:=9^6)(disch:=omega)only[↓YR,↓den,↓Z0,YS,O1.d,O2.d,O3.d,cmI,arI,Z1,Z2,seval,ZF,ZG,ZdP]))
theorem Zmo (b:List Int) (p:Int) (v:Vr) (at_:Int) (hb:Rdy b) (hp:0≤p∧p≤900000000) {Q:List AV→Prop} (h:∀(l:List Tm) (p':Int),p≤p'∧p'≤p+3→l.length≤4→Q [⟨L T4,l⟩,⟨RD,(b,p')⟩]):mc.C Zbs [⟨RD,(b,p)⟩,⟨I,v.1⟩,⟨I,v.2.1⟩,⟨I,v.2.2⟩,⟨I,at_⟩] Q:=by
 refine mc.c_of Zgb ?_
 simp+contextual(maxSteps:=9^6)(disch:=omega)only[↓YR,↓den,↓Z0,YS,O1.d,O2.d,O3.d,cmI,arI,Z1,Z2,seval,ZF,ZG,ZdQ]
 refine Zmh _ _ _ hb (by omega) fun n _ _=>?_
 simp+contextual(maxSteps:=9^6)(disch:=omega)only[↓YR,↓den,↓Z0,YS,O1.d,O2.d,O3.d,cmI,arI,Z1,Z2,seval,ZF,ZG,↓ZH,]
 refine Zmi _ _ _ hb (by omega) (by simp) (by simp) fun o o0=>?_;simp+contextual(maxSteps:=9^6)(disch:=omega)only[↓YR,↓den,↓Z0,YS,O1.d,O2.d,O3.d,cmI,arI,Z1,Z2,seval,ZF,ZG,]
 simp+contextual(maxSteps:=9^6)(disch:=omega)only[↓YR,↓den,↓Z0,YS,O1.d,O2.d,O3.d,cmI,arI,Z1,Z2,seval,ZF,ZG,↓ZH,Zmm,Zmn]
 refine ZX _ _ _ hb (by omega) (by omega) fun k k0 k1=>?_;simp+contextual(maxSteps:=9^6)(disch:=omega)only[↓YR,↓den,↓Z0,YS,O1.d,O2.d,O3.d,cmI,arI,Z1,Z2,seval,ZF,ZG,]
 exact ⟨fun _=>h _ _ (by omega) (by simp),fun _=>h _ _ (by omega) (by simp)⟩
def mvT (t:Tm) (n:Int):Tm:=if 2≤t.1 then (t.1,0,IntKind.i64.wrap (t.2.2.1+n),IntKind.i64.wrap (t.2.2.2+n)) else t
theorem Zmp (t:Tm) (n:Int) (Q:List AV→Prop):mc.C Zby [⟨I,t.1⟩,⟨I,t.2.1⟩,⟨I,t.2.2.1⟩,⟨I,t.2.2.2⟩,⟨I,n⟩] Q=Q [⟨I,(mvT t n).1⟩,⟨I,(mvT t n).2.1⟩,⟨I,(mvT t n).2.2.1⟩,⟨I,(mvT t n).2.2.2⟩]:=by
 refine Mc.Ends.c (mc.ends Zgh ?_)
 unfold mvT
 by_cases g:2≤t.1
 ·rw [if_pos g]
  simp+contextual(maxSteps:=9^6)(disch:=omega)only[↓YR,↓den,↓Z0,YS,O1.d,O2.d,O3.d,cmI,arI,Z1,Z2,seval,ZF,ZG,ZdW]
 ·rw [if_neg g]
  simp+contextual(maxSteps:=9^6)(disch:=omega)only[↓YR,↓den,↓Z0,YS,O1.d,O2.d,O3.d,cmI,arI,Z1,Z2,seval,ZF,ZG,ZdW]
theorem Zmq (l:List Tm) (vars:Int) (hl:Few l) (Q:List AV→Prop):mc.C Zbx [⟨L T4,l⟩,⟨I,vars⟩] Q=Q [⟨B,decide (((ZiB l vars).length:Int) > 0)⟩]:=by
 refine Mc.Ends.c (mc.ends Zgg ?_)
 simp+contextual(maxSteps:=9^6)(disch:=omega)only[↓YR,↓den,↓Z0,YS,O1.d,O2.d,O3.d,cmI,arI,Z1,Z2,seval,ZF,ZG,ZdV,ZiG l vars hl]
theorem Zmr (o:Int) (l m:List Tm) (vars:Int) (hl:l.length≤1000) (hm:m.length≤1000) {Q:List AV→Prop} (h:∀(r:List Tm),r.length≤l.length+m.length+1→Q [⟨L T4,r⟩]):mc.C Zbz [⟨I,o⟩,⟨L T4,l⟩,⟨L T4,m⟩,⟨I,vars⟩] Q:=by
 have h1:Few l:=by unfold Few;omega
 have h2:Few m:=by unfold Few;omega
 refine mc.c_of Zgi ?_
 simp+contextual(maxSteps:=9^6)(disch:=omega)only[↓YR,↓den,↓Z0,YS,O1.d,O2.d,O3.d,cmI,arI,Z1,Z2,seval,ZF,ZG,ZdX,Zmq l vars h1,Zmq m vars h2]
 refine ⟨fun _=>h _ (by simp),fun _=>⟨fun _=>h _ (by simp),fun _=>?_⟩⟩
 refine mc.lp_for (List Tm) (fun i s=>[⟨I,o⟩,⟨L T4,l⟩,⟨L T4,m⟩,⟨I,vars⟩,⟨I,(i:Int)⟩,⟨L T4,s⟩]) (fun i s=>s.length=i) l.length 0 [] _ rfl (Yf _) rfl ?_ ?_
 ·rintro i s hi hs
  simp+contextual(maxSteps:=9^6)(disch:=omega)only[↓YR,↓den,↓Z0,YS,O1.d,O2.d,O3.d,cmI,arI,Z1,Z2,seval,ZF,ZG,]
  omega
 rintro s hs
 simp+contextual(maxSteps:=9^6)(disch:=omega)only[↓YR,↓den,↓Z0,YS,O1.d,O2.d,O3.d,cmI,arI,Z1,Z2,seval,ZF,ZG,↓ZH,]
 refine mc.lp_for (List Tm) (fun i s=>[⟨I,o⟩,⟨L T4,l⟩,⟨L T4,m⟩,⟨I,vars⟩,⟨I,(i:Int)⟩,⟨L T4,s⟩]) (fun i s=>s.length≤l.length+i) m.length 0 s _ rfl (Yf _) (by omega) ?_ ?_
 ·rintro i s hi hs
  simp+contextual(maxSteps:=9^6)(disch:=omega)only[↓YR,↓den,↓Z0,YS,O1.d,O2.d,O3.d,cmI,arI,Z1,Z2,seval,ZF,ZG,Ziy,Zmp]
  refine ⟨fun _=>by omega,fun g=>?_⟩
  have hf:Few (s++[((7:Int),(0:Int),(l.length:Int) - 1,(s.length:Int) - 1)]):=by unfold Few;simp only [Y7,Yj];omega
  simp+contextual(maxSteps:=9^6)(disch:=omega)only[↓YR,↓den,↓Z0,YS,O1.d,O2.d,O3.d,cmI,arI,Z1,Z2,seval,ZF,ZG,Zmq _ vars hf]
  exact ⟨fun _=>h _ (by simp),fun _=>h _ (by simp only [Y7,Yj];omega)⟩
 ·rintro s hs
  simp+contextual(maxSteps:=9^6)(disch:=omega)only[↓YR,↓den,↓Z0,YS,O1.d,O2.d,O3.d,cmI,arI,Z1,Z2,seval,ZF,ZG,]
  refine ⟨fun _=>h _ (by simp),fun _=>?_⟩
  have hf:Few (s++[(o,(0:Int),(l.length:Int) - 1,(s.length:Int) - 1)]):=by unfold Few;simp only [Y7,Yj];omega
  simp+contextual(maxSteps:=9^6)(disch:=omega)only[↓YR,↓den,↓Z0,YS,O1.d,O2.d,O3.d,cmI,arI,Z1,Z2,seval,ZF,ZG,Zmq _ vars hf]
  exact ⟨fun _=>h _ (by simp),fun _=>h _ (by simp only [Y7,Yj];omega)⟩
theorem Zms (b:List Int) (p:Int) (vs:List Vr) (hb:Rdy b) (hp:0≤p∧p≤800000000) (hv:1≤vs.length) (hv2:vs.length≤1000) {Q:List AV→Prop} (h:∀(l:List Tm) (p':Int),p≤p'∧p'≤p+10→l.length≤9→Q [⟨L T4,l⟩,⟨RD,(b,p')⟩]):mc.C ZbA [⟨RD,(b,p)⟩,⟨L V3,vs⟩] Q:=by
 refine mc.c_of Zgj ?_
 simp+contextual(maxSteps:=9^6)(disch:=omega)only[↓YR,↓den,↓Z0,YS,O1.d,O2.d,O3.d,cmI,arI,Z1,Z2,seval,ZF,ZG,ZdY]
 refine ZX _ _ _ hb (by omega) (by omega) fun i i0 i1=>?_;simp+contextual(maxSteps:=9^6)(disch:=omega)only[↓YR,↓den,↓Z0,YS,O1.d,O2.d,O3.d,cmI,arI,Z1,Z2,seval,ZF,ZG,]
 refine Zmo _ _ (vs.getD i.toNat (0,0,0)) _ hb (by omega) fun l p1 hp1 hl=>?_
 simp+contextual(maxSteps:=9^6)(disch:=omega)only[↓YR,↓den,↓Z0,YS,O1.d,O2.d,O3.d,cmI,arI,Z1,Z2,seval,ZF,ZG,↓ZH,]
 refine ZX _ _ _ hb (by omega) (by omega) fun k k0 k1=>?_;simp+contextual(maxSteps:=9^6)(disch:=omega)only[↓YR,↓den,↓Z0,YS,O1.d,O2.d,O3.d,cmI,arI,Z1,Z2,seval,ZF,ZG,]
 refine ⟨fun _=>?_,fun _=>h _ _ (by omega) (by omega)⟩
 refine ZX _ _ _ hb (by omega) (by omega) fun j j0 j1=>?_;simp+contextual(maxSteps:=9^6)(disch:=omega)only[↓YR,↓den,↓Z0,YS,O1.d,O2.d,O3.d,cmI,arI,Z1,Z2,seval,ZF,ZG,]
 refine Zmi _ _ _ hb (by omega) (by simp) (by simp) fun o o0=>?_;simp+contextual(maxSteps:=9^6)(disch:=omega)only[↓YR,↓den,↓Z0,YS,O1.d,O2.d,O3.d,cmI,arI,Z1,Z2,seval,ZF,ZG,]
 refine Zmo _ _ (vs.getD j.toNat (0,0,0)) _ hb (by omega) fun m p2 hp2 hm=>?_
 simp+contextual(maxSteps:=9^6)(disch:=omega)only[↓YR,↓den,↓Z0,YS,O1.d,O2.d,O3.d,cmI,arI,Z1,Z2,seval,ZF,ZG,]
 refine Zmr _ _ _ _ (by omega) (by omega) fun r hr=>?_
 simp+contextual(maxSteps:=9^6)(disch:=omega)only[↓YR,↓den,↓Z0,YS,O1.d,O2.d,O3.d,cmI,arI,Z1,Z2,seval,ZF,ZG,↓ZH,]
 exact h _ _ (by omega) (by omega)
theorem Zmt (b:List Int) (p vars kind most:Int) (hb:Rdy b) (hp:0≤p∧p≤800000000) (hv:0≤vars∧vars≤5) (hm:1≤most∧most≤12) {Q:List AV→Prop} (h:∀(l:List Tm) (p':Int),p≤p'∧p'≤p+400→1≤l.length→l.length≤16→Q [⟨L T4,l⟩,⟨RD,(b,p')⟩]):mc.C ZbD [⟨RD,(b,p)⟩,⟨I,vars⟩,⟨I,kind⟩,⟨I,most⟩] Q:=by
 refine mc.c_of Zgm ?_
 simp+contextual(maxSteps:=9^6)(disch:=omega)only[↓YR,↓den,↓Z0,YS,O1.d,O2.d,O3.d,cmI,arI,Z1,Z2,seval,ZF,ZG,Ze0]
 refine ZX _ _ _ hb (by omega) (by omega) fun n n0 n1=>?_;simp+contextual(maxSteps:=9^6)(disch:=omega)only[↓YR,↓den,↓Z0,YS,O1.d,O2.d,O3.d,cmI,arI,Z1,Z2,seval,ZF,ZG,]
 obtain ⟨N,hN⟩:∃N:Nat,n=N:=⟨n.toNat,by omega⟩
 subst hN
 refine mc.lp_inv (fun k us=>∃(p1:Int) (l:List Tm) (ks:List Int),us=[⟨I,vars⟩,⟨I,kind⟩,⟨I,(k:Int)⟩,⟨L U,b⟩,⟨I,p1⟩,⟨L T4,l⟩,⟨L I,ks⟩]∧l.length=ks.length∧l.length+k≤2+N∧p≤p1∧p1+20 * k≤p+1+20 * (2+N)) (2+N) _ ⟨p+1,[],[],by simp,rfl,by simp,by omega,by omega⟩ ?_
 rintro k us ⟨p1,l,ks,rfl,i1,i2,i3,i4⟩
 cases k with
 | zero =>
  simp+contextual(maxSteps:=9^6)(disch:=omega)only[↓YR,↓den,↓Z0,YS,O1.d,O2.d,O3.d,cmI,arI,Z1,Z2,seval,ZF,ZG,]
  refine mc.wp_join (fun us=>∃(l:List Tm) (ks:List Int),us=[⟨I,kind⟩,⟨L U,b⟩,⟨I,p1⟩,⟨L T4,l⟩,⟨L I,ks⟩]∧l.length=ks.length∧1≤l.length∧l.length≤14) ?_ ?_
  ·simp+contextual(maxSteps:=9^6)(disch:=omega)only[↓YR,↓den,↓Z0,YS,O1.d,O2.d,O3.d,cmI,arI,Z1,Z2,seval,ZF,ZG,]
   refine ⟨fun g=>⟨_,_,⟨rfl,rfl⟩,by simp [i1],by simp,?_⟩,fun g=>⟨l,ks,⟨rfl,rfl⟩,i1,by omega,by omega⟩⟩
   simp only [Y7,Yj];omega
  ·rintro us ⟨l,ks,rfl,a1,a2,a3⟩
   refine mc.wp_join (fun us=>∃(p2:Int) (l:List Tm),us=[⟨L U,b⟩,⟨I,p2⟩,⟨L T4,l⟩]∧p≤p2∧p2≤p+390∧1≤l.length∧l.length≤16) ?_ ?_
   ·have ln1:∀x:Tm,1≤(l++[x]).length∧(l++[x]).length≤16:=fun x=>by simp only [Y7,Yj];omega
    simp+contextual(maxSteps:=9^6)(disch:=omega)only[↓YR,↓den,↓Z0,YS,O1.d,O2.d,O3.d,cmI,arI,Z1,Z2,seval,ZF,ZG,]
    refine ⟨fun _=>⟨fun _=>?_,fun _=>⟨_,_,⟨rfl,rfl⟩,by omega,by omega,by omega,by omega⟩⟩,fun _=>⟨fun _=>⟨fun _=>?_,fun _=>⟨_,_,⟨rfl,rfl⟩,by omega,by omega,by omega,by omega⟩⟩,fun _=>⟨_,_,⟨rfl,rfl⟩,by omega,by omega,by omega,by omega⟩⟩⟩
    ·refine Zmi _ _ _ hb (by omega) (by simp) (by simp) fun o o0=>?_;simp+contextual(maxSteps:=9^6)(disch:=omega)only[↓YR,↓den,↓Z0,YS,O1.d,O2.d,O3.d,cmI,arI,Z1,Z2,seval,ZF,ZG,]
     refine Zml _ _ _ _ hb (by omega) (by omega) (by omega) fun x hx=>?_
     simp+contextual(maxSteps:=9^6)(disch:=omega)only[↓YR,↓den,↓Z0,YS,O1.d,O2.d,O3.d,cmI,arI,Z1,Z2,seval,ZF,ZG,]
     exact ⟨_,_,⟨rfl,rfl⟩,by omega,by omega,(ln1 _).1,(ln1 _).2⟩
    ·refine Zml _ _ _ _ hb (by omega) (by omega) (by omega) fun x hx=>?_
     simp+contextual(maxSteps:=9^6)(disch:=omega)only[↓YR,↓den,↓Z0,YS,O1.d,O2.d,O3.d,cmI,arI,Z1,Z2,seval,ZF,ZG,]
     refine Zmi _ _ _ hb (by omega) (by simp) (by simp) fun o o0=>?_;simp+contextual(maxSteps:=9^6)(disch:=omega)only[↓YR,↓den,↓Z0,YS,O1.d,O2.d,O3.d,cmI,arI,Z1,Z2,seval,ZF,ZG,]
     refine Zml _ _ _ _ hb (by omega) (by omega) (by omega) fun y hy=>?_
     simp+contextual(maxSteps:=9^6)(disch:=omega)only[↓YR,↓den,↓Z0,YS,O1.d,O2.d,O3.d,cmI,arI,Z1,Z2,seval,ZF,ZG,]
     exact ⟨_,_,⟨rfl,rfl⟩,by omega,by omega,(ln1 _).1,(ln1 _).2⟩
   ·rintro us ⟨p2,l,rfl,c1,c2,c3,c4⟩
    simp+contextual(maxSteps:=9^6)(disch:=omega)only[↓YR,↓den,↓Z0,YS,O1.d,O2.d,O3.d,cmI,arI,Z1,Z2,seval,ZF,ZG,]
    exact h _ _ (by omega) (by omega) (by omega)
 | succ k =>
  simp+contextual(maxSteps:=9^6)(disch:=omega)only[↓YR,↓den,↓Z0,YS,O1.d,O2.d,O3.d,cmI,arI,Z1,Z2,seval,ZF,ZG,]
  refine mc.wp_join (fun us=>∃(p2:Int) (l:List Tm) (ks:List Int),us=[⟨I,vars⟩,⟨I,kind⟩,⟨I,(k:Int)+1⟩,⟨L U,b⟩,⟨I,p2⟩,⟨L T4,l⟩,⟨L I,ks⟩]∧l.length=ks.length∧l.length+k≤2+N∧p≤p2∧p2+20 * k≤p+1+20 * (2+N)) ?_ ?_
  ·simp+contextual(maxSteps:=9^6)(disch:=omega)only[↓YR,↓den,↓Z0,YS,O1.d,O2.d,O3.d,cmI,arI,Z1,Z2,seval,ZF,ZG,]
   refine Zmi _ _ _ hb (by omega) (by simp) (by simp) fun o o0=>?_;simp+contextual(maxSteps:=9^6)(disch:=omega)only[↓YR,↓den,↓Z0,YS,O1.d,O2.d,O3.d,cmI,arI,Z1,Z2,seval,ZF,ZG,]
   refine mc.wp_join (fun us=>∃(p2:Int) (t:Tm),us=[⟨I,vars⟩,⟨I,kind⟩,⟨I,(k:Int)+1⟩,⟨L U,b⟩,⟨I,p2⟩,⟨L T4,l⟩,⟨L I,ks⟩,⟨I,t.1⟩,⟨I,t.2.1⟩,⟨I,t.2.2.1⟩,⟨I,t.2.2.2⟩]∧p≤p2∧p2≤p1+10) ?_ ?_
   ·simp+contextual(maxSteps:=9^6)(disch:=omega)only[↓YR,↓den,↓Z0,YS,O1.d,O2.d,O3.d,cmI,arI,Z1,Z2,seval,ZF,ZG,]
    refine ⟨fun g=>?_,fun g=>⟨fun g2=>?_,fun g2=>?_⟩⟩
    ·refine Zmk _ _ hb (by omega) fun x p2 hp2=>?_
     simp+contextual(maxSteps:=9^6)(disch:=omega)only[↓YR,↓den,↓Z0,YS,O1.d,O2.d,O3.d,cmI,arI,Z1,Z2,seval,ZF,ZG,]
     refine ⟨fun _=>⟨fun _=>?_,fun _=>⟨_,((0:Int),x,(0:Int),(0:Int)),⟨rfl,rfl,rfl,rfl,rfl⟩,by omega,by omega⟩⟩,fun _=>⟨_,((0:Int),x,(0:Int),(0:Int)),⟨rfl,rfl,rfl,rfl,rfl⟩,by omega,by omega⟩⟩
     refine ZX _ _ _ hb (by omega) (by omega) fun y y0 y1=>?_;simp+contextual(maxSteps:=9^6)(disch:=omega)only[↓YR,↓den,↓Z0,YS,O1.d,O2.d,O3.d,cmI,arI,Z1,Z2,seval,ZF,ZG,]
     exact ⟨_,((1:Int),y,(0:Int),(0:Int)),⟨rfl,rfl,rfl,rfl,rfl⟩,by omega,by omega⟩
    ·refine Zmk _ _ hb (by omega) fun x p2 hp2=>?_
     simp+contextual(maxSteps:=9^6)(disch:=omega)only[↓YR,↓den,↓Z0,YS,O1.d,O2.d,O3.d,cmI,arI,Z1,Z2,seval,ZF,ZG,]
     refine ⟨fun _=>⟨fun _=>?_,fun _=>⟨_,((0:Int),x,(0:Int),(0:Int)),⟨rfl,rfl,rfl,rfl,rfl⟩,by omega,by omega⟩⟩,fun _=>⟨_,((0:Int),x,(0:Int),(0:Int)),⟨rfl,rfl,rfl,rfl,rfl⟩,by omega,by omega⟩⟩
     refine ZX _ _ _ hb (by omega) (by omega) fun y y0 y1=>?_;simp+contextual(maxSteps:=9^6)(disch:=omega)only[↓YR,↓den,↓Z0,YS,O1.d,O2.d,O3.d,cmI,arI,Z1,Z2,seval,ZF,ZG,]
     exact ⟨_,((1:Int),y,(0:Int),(0:Int)),⟨rfl,rfl,rfl,rfl,rfl⟩,by omega,by omega⟩
    ·refine mc.wp_join (fun us=>∃w:Int,us=[⟨I,vars⟩,⟨I,kind⟩,⟨I,(k:Int)+1⟩,⟨I,o⟩,⟨I,w⟩,⟨L U,b⟩,⟨I,p1+1⟩,⟨L T4,l⟩,⟨L I,ks⟩,⟨I,o⟩,⟨I,(0:Int)⟩,⟨I,(0:Int)⟩,⟨I,(0:Int)⟩]) ?_ ?_
     ·simp+contextual(maxSteps:=9^6)(disch:=omega)only[↓YR,↓den,↓Z0,YS,O1.d,O2.d,O3.d,cmI,arI,Z1,Z2,seval,ZF,ZG,]
      exact ⟨fun _=>⟨2,rfl⟩,fun _=>⟨1,rfl⟩⟩
     ·rintro us ⟨w,rfl⟩
      simp+contextual(maxSteps:=9^6)(disch:=omega)only[↓YR,↓den,↓Z0,YS,O1.d,O2.d,O3.d,cmI,arI,Z1,Z2,seval,ZF,ZG,]
      refine Zml _ _ _ _ hb (by omega) (by omega) (by omega) fun x hx=>?_
      simp+contextual(maxSteps:=9^6)(disch:=omega)only[↓YR,↓den,↓Z0,YS,O1.d,O2.d,O3.d,cmI,arI,Z1,Z2,seval,ZF,ZG,]
      refine Zml _ _ _ _ hb (by omega) (by omega) (by omega) fun y hy=>?_
      simp+contextual(maxSteps:=9^6)(disch:=omega)only[↓YR,↓den,↓Z0,YS,O1.d,O2.d,O3.d,cmI,arI,Z1,Z2,seval,ZF,ZG,Ziy]
      exact ⟨fun _=>⟨_,((7:Int),(0:Int),x,x),⟨rfl,rfl,rfl,rfl,rfl⟩,by omega,by omega⟩,fun _=>⟨_,(o,(0:Int),x,y),⟨rfl,rfl,rfl,rfl,rfl⟩,by omega,by omega⟩⟩
   ·rintro us ⟨p2,t,rfl,c1,c2⟩
    simp+contextual(maxSteps:=9^6)(disch:=omega)only[↓YR,↓den,↓Z0,YS,O1.d,O2.d,O3.d,cmI,arI,Z1,Z2,seval,ZF,ZG,ZiF t ks vars hv (by omega)]
    refine ⟨fun _=>⟨_,_,_,⟨rfl,rfl,rfl⟩,?_,?_,by omega,by omega⟩,fun _=>⟨_,_,_,⟨rfl,rfl,rfl⟩,i1,by omega,by omega,by omega⟩⟩
    ·simp only [Y7,Yj];omega
    ·simp only [Y7,Yj];omega
  ·rintro us ⟨p2,l,ks,rfl,a1,a2,a3,a4⟩
   simp+contextual(maxSteps:=9^6)(disch:=omega)only[↓YR,↓den,↓Z0,YS,O1.d,O2.d,O3.d,cmI,arI,Z1,Z2,seval,ZF,ZG,]
   exact ⟨k,by omega,p2,l,ks,⟨rfl,rfl,rfl,rfl⟩,a1,a2,a3,a4⟩
theorem Zmu (b:List Int) (p:Int) (vs:List Vr) (k:Int) (i:Nat) (hk:k=i) (hb:Rdy b) (hp:0≤p∧p≤700000000) (hv:vs.length≤5) (hi:i<vs.length) {Q:List AV→Prop} (h:∀(l:List Tm) (p':Int),p≤p'∧p'≤p+500→l.length≤16→Q [⟨L T4,l⟩,⟨RD,(b,p')⟩]):mc.C ZbE [⟨RD,(b,p)⟩,⟨L V3,vs⟩,⟨I,k⟩] Q:=by
 subst hk
 refine mc.c_of Zgn ?_
 simp+contextual(maxSteps:=9^6)(disch:=omega)only[↓YR,↓den,↓Z0,YS,O1.d,O2.d,O3.d,cmI,arI,Z1,Z2,seval,ZF,ZG,Ze1]
 refine ZX _ _ _ hb (by omega) (by omega) fun k k0 k1=>?_;simp+contextual(maxSteps:=9^6)(disch:=omega)only[↓YR,↓den,↓Z0,YS,O1.d,O2.d,O3.d,cmI,arI,Z1,Z2,seval,ZF,ZG,]
 refine ⟨fun _=>?_,fun _=>⟨fun _=>?_,fun _=>⟨fun _=>?_,fun _=>?_⟩⟩⟩
 ·simp+contextual(maxSteps:=9^6)(disch:=omega)only[↓YR,↓den,↓Z0,YS,O1.d,O2.d,O3.d,cmI,arI,Z1,Z2,seval,ZF,ZG,Zmm,Zmn]
  refine Zmi _ _ _ hb (by omega) (by simp) (by simp) fun o o0=>?_;simp+contextual(maxSteps:=9^6)(disch:=omega)only[↓YR,↓den,↓Z0,YS,O1.d,O2.d,O3.d,cmI,arI,Z1,Z2,seval,ZF,ZG,]
  exact h _ _ (by omega) (by simp)
 ·refine Zmh _ _ _ hb (by omega) fun n _ _=>?_
  simp+contextual(maxSteps:=9^6)(disch:=omega)only[↓YR,↓den,↓Z0,YS,O1.d,O2.d,O3.d,cmI,arI,Z1,Z2,seval,ZF,ZG,↓ZH,Zmn]
  exact h _ _ (by omega) (by simp)
 ·refine ZX _ _ _ hb (by omega) (by omega) fun n n0 n1=>?_;simp+contextual(maxSteps:=9^6)(disch:=omega)only[↓YR,↓den,↓Z0,YS,O1.d,O2.d,O3.d,cmI,arI,Z1,Z2,seval,ZF,ZG,]
  simp+contextual(maxSteps:=9^6)(disch:=omega)only[↓YR,↓den,↓Z0,YS,O1.d,O2.d,O3.d,cmI,arI,Z1,Z2,seval,ZF,ZG,Zmm]
  exact h _ _ (by omega) (by simp)
 ·refine Zmt _ _ _ _ _ hb (by omega) (by omega) (by omega) fun l p2 h1 h2 h3=>?_
  simp+contextual(maxSteps:=9^6)(disch:=omega)only[↓YR,↓den,↓Z0,YS,O1.d,O2.d,O3.d,cmI,arI,Z1,Z2,seval,ZF,ZG,]
  exact h _ _ (by omega) (by omega)
def Zmv (r:Ru):Prop:=r.1.length≤100∧r.2.1.length≤100∧r.2.2.length≤100∧∀x∈r.2.2,x.length≤100
def Zmw (r:Ru):Prop:=r.1.length≤50∧r.2.1.length≤50∧r.2.2.length≤50∧∀x∈r.2.2,x.length≤50
theorem Zmw.sm {r:Ru} (h:Zmw r):Zmv r:=⟨by have:=h.1;omega,by have:=h.2.1;omega,by have:=h.2.2.1;omega,fun x hx=>by have:=h.2.2.2 x hx;omega⟩
def Zmx (s:Sy):Prop:=s.1.length≤3∧s.2.length≤9∧∀r∈s.2,Zmv r
theorem Zmx.few {s:Sy} (h:Zmx s):ZK s:=by
 refine ⟨by have:=h.1;unfold Few;omega,by have:=h.2.1;unfold Few;omega,fun r hr=>?_⟩
 have h1:=h.2.2 r hr
 exact ⟨by have:=h1.1;unfold Few;omega,by have:=h1.2.1;unfold Few;omega,by have:=h1.2.2.1;unfold Few;omega,fun x hx=>by have:=h1.2.2.2 x hx;unfold Few;omega⟩
end Go.Proofs.YtdgpohclhppodaaGreat
namespace Go.Proofs.YtdgpohclhppodaaGreat
open Go Go.Sm Go.Sm.Q
theorem Zmy (b:List Int) (p:Int) (vs:List Vr) (many:Nat) (hb:Rdy b) (hp:0≤p∧p≤600000000) (hv1:1≤vs.length) (hv:vs.length≤3) (hm:many≤9) {Q:List AV→Prop} (h:∀(l:List Ru) (p':Int),p≤p'∧p'≤p+20000→l.length≤many→(∀r∈l,Zmw r)→Q [⟨L TR,l⟩,⟨RD,(b,p')⟩]):mc.C ZbF [⟨RD,(b,p)⟩,⟨L V3,vs⟩,⟨I,(many:Int)⟩] Q:=by
 refine mc.c_of Zgo ?_
 simp+contextual(maxSteps:=9^6)(disch:=omega)only[↓YR,↓den,↓Z0,YS,O1.d,O2.d,O3.d,cmI,arI,Z1,Z2,seval,ZF,ZG,Ze2]
 refine mc.lp_for (Int×List Ru) (fun i s=>[⟨L V3,vs⟩,⟨I,(many:Int)⟩,⟨I,(i:Int)⟩,⟨L U,b⟩,⟨I,s.1⟩,⟨L TR,s.2⟩]) (fun i s=>p≤s.1∧s.1≤p+2000 * i∧s.2.length=i∧∀r∈s.2,Zmw r) many 0 (p,[]) _ rfl (Yf _) ⟨by simp,by simp,rfl,by simp⟩ ?_ ?_
 ·rintro i ⟨p1,l⟩ hi ⟨a1,a2,a3,a4⟩
  simp only at a1 a2 a3 a4
  simp+contextual(maxSteps:=9^6)(disch:=omega)only[↓YR,↓den,↓Z0,YS,O1.d,O2.d,O3.d,cmI,arI,Z1,Z2,seval,ZF,ZG,]
  refine Zms _ _ _ hb (by omega) hv1 (by omega) fun w p2 hp2 hw=>?_
  simp+contextual(maxSteps:=9^6)(disch:=omega)only[↓YR,↓den,↓Z0,YS,O1.d,O2.d,O3.d,cmI,arI,Z1,Z2,seval,ZF,ZG,]
  refine mc.lp_for (Int×List Int×List (List Tm)) (fun j s=>[⟨L V3,vs⟩,⟨I,(many:Int)⟩,⟨I,(i:Int)⟩,⟨I,(j:Int)⟩,⟨L U,b⟩,⟨I,s.1⟩,⟨L TR,l⟩,⟨L T4,w⟩,⟨L I,s.2.1⟩,⟨L (L T4),s.2.2⟩]) (fun j s=>p2≤s.1∧s.1≤p2+510 * j∧s.2.1.length≤j∧s.2.2.length≤j∧∀x∈s.2.2,x.length≤16) vs.length 0 (p2,[],[]) _ rfl (Yf _) ⟨by simp,by simp,by simp,by simp,by simp⟩ ?_ ?_
  ·rintro j ⟨p3,ss,ts⟩ hj ⟨c1,c2,c3,c4,c5⟩
   simp only at c1 c2 c3 c4 c5
   have app:∀(x:List Tm),x.length≤16→∀y∈ts++[x],y.length≤16:=fun x hx y hy=>(Y6.1 hy).elim (c5 y) fun hy=>by rw [Y1.1 hy];exact hx
   have l1:∀x,(ss++[x]).length=ss.length+1:=fun x=>by simp
   have l2:∀x,(ts++[x]).length=ts.length+1:=fun x=>by simp
   simp+contextual(maxSteps:=9^6)(disch:=omega)only[↓YR,↓den,↓Z0,YS,O1.d,O2.d,O3.d,cmI,arI,Z1,Z2,seval,ZF,ZG,↓ZH,]
   refine ZX _ _ _ hb (by omega) (by omega) fun a a0 a1=>?_;simp+contextual(maxSteps:=9^6)(disch:=omega)only[↓YR,↓den,↓Z0,YS,O1.d,O2.d,O3.d,cmI,arI,Z1,Z2,seval,ZF,ZG,]
   refine ⟨fun _=>?_,fun _=>⟨fun _=>⟨fun _=>?_,fun _=>?_⟩,fun _=>?_⟩⟩
   ·refine Zmu _ _ _ _ j (by omega) hb (by omega) (by omega) hj fun x p4 hp4 hx=>?_
    simp+contextual(maxSteps:=9^6)(disch:=omega)only[↓YR,↓den,↓Z0,YS,O1.d,O2.d,O3.d,cmI,arI,Z1,Z2,seval,ZF,ZG,↓ZH,]
    exact ⟨(_,_,_),⟨rfl,rfl,rfl⟩,by dsimp only;omega,by dsimp only;omega,by dsimp only;rw [l1];omega,by dsimp only;rw [l2];omega,app x hx⟩
   ·refine ZX _ _ _ hb (by omega) (by omega) fun c c0 c1=>?_;simp+contextual(maxSteps:=9^6)(disch:=omega)only[↓YR,↓den,↓Z0,YS,O1.d,O2.d,O3.d,cmI,arI,Z1,Z2,seval,ZF,ZG,]
    refine ⟨fun _=>?_,fun _=>?_⟩
    ·refine Zmu _ _ _ _ j (by omega) hb (by omega) (by omega) hj fun x p4 hp4 hx=>?_
     simp+contextual(maxSteps:=9^6)(disch:=omega)only[↓YR,↓den,↓Z0,YS,O1.d,O2.d,O3.d,cmI,arI,Z1,Z2,seval,ZF,ZG,↓ZH,]
     exact ⟨(_,_,_),⟨rfl,rfl,rfl⟩,by dsimp only;omega,by dsimp only;omega,by dsimp only;rw [l1];omega,by dsimp only;rw [l2];omega,app x hx⟩
    ·exact ⟨(_,_,_),⟨rfl,rfl,rfl⟩,by dsimp only;omega,by dsimp only;omega,by dsimp only;omega,by dsimp only;omega,c5⟩
   ·exact ⟨(_,_,_),⟨rfl,rfl,rfl⟩,by dsimp only;omega,by dsimp only;omega,by dsimp only;omega,by dsimp only;omega,c5⟩
   ·exact ⟨(_,_,_),⟨rfl,rfl,rfl⟩,by dsimp only;omega,by dsimp only;omega,by dsimp only;omega,by dsimp only;omega,c5⟩
  ·rintro ⟨p3,ss,ts⟩ ⟨c1,c2,c3,c4,c5⟩
   simp only at c1 c2 c3 c4 c5
   simp+contextual(maxSteps:=9^6)(disch:=omega)only[↓YR,↓den,↓Z0,YS,O1.d,O2.d,O3.d,cmI,arI,Z1,Z2,seval,ZF,ZG,]
   refine ⟨(_,_),⟨rfl,rfl⟩,by dsimp only;omega,by dsimp only;omega,by dsimp only;simp [a3],fun r hr=>?_⟩
   rcases Y6.1 hr with hr | hr
   ·exact a4 r hr
   ·rw [Y1.1 hr]
    exact ⟨by dsimp only;omega,by dsimp only;omega,by dsimp only;omega,fun x hx=>by have:=c5 x hx;omega⟩
 ·rintro ⟨p1,l⟩ ⟨a1,a2,a3,a4⟩
  simp only at a1 a2 a3 a4
  simp+contextual(maxSteps:=9^6)(disch:=omega)only[↓YR,↓den,↓Z0,YS,O1.d,O2.d,O3.d,cmI,arI,Z1,Z2,seval,ZF,ZG,]
  exact h _ _ (by omega) (by omega) a4
theorem Zmz (b:List Int) (p most:Int) (hb:Rdy b) (hp:0≤p∧p≤500000000) {Q:List AV→Prop} (h:∀(s:Sy) (p':Int),p≤p'∧p'≤p+30000→Zmx s→1≤s.1.length→s.2.length≤4→(∀r∈s.2,Zmw r)→Q [⟨L V3,s.1⟩,⟨L TR,s.2⟩,⟨RD,(b,p')⟩]):mc.C ZbG [⟨RD,(b,p)⟩,⟨I,most⟩] Q:=by
 refine mc.c_of Zgp ?_
 simp+contextual(maxSteps:=9^6)(disch:=omega)only[↓YR,↓den,↓Z0,YS,O1.d,O2.d,O3.d,cmI,arI,Z1,Z2,seval,ZF,ZG,Ze3]
 refine ZX _ _ _ hb (by omega) (by omega) fun n n0 n1=>?_;simp+contextual(maxSteps:=9^6)(disch:=omega)only[↓YR,↓den,↓Z0,YS,O1.d,O2.d,O3.d,cmI,arI,Z1,Z2,seval,ZF,ZG,]
 obtain ⟨N,hN⟩:∃N:Nat,n=N:=⟨n.toNat,by omega⟩
 subst hN
 refine mc.lp_inv (fun k us=>∃(p1 m:Int) (l:List Vr),us=[⟨I,most⟩,⟨I,m⟩,⟨I,(k:Int)⟩,⟨L U,b⟩,⟨I,p1⟩,⟨L V3,l⟩]∧l.length+k≤1+N∧p≤p1∧p1+3 * k≤p+1+3 * (1+N)) (1+N) _ ⟨p+1,1,[],by simp,by simp,by omega,by omega⟩ ?_
 rintro k us ⟨p1,m,l,rfl,i1,i2,i3⟩
 cases k with
 | zero =>
  simp+contextual(maxSteps:=9^6)(disch:=omega)only[↓YR,↓den,↓Z0,YS,O1.d,O2.d,O3.d,cmI,arI,Z1,Z2,seval,ZF,ZG,]
  refine mc.wp_join (fun us=>∃(l:List Vr),us=[⟨L U,b⟩,⟨I,p1⟩,⟨L V3,l⟩]∧1≤l.length∧l.length≤3) ?_ ?_
  ·simp+contextual(maxSteps:=9^6)(disch:=omega)only[↓YR,↓den,↓Z0,YS,O1.d,O2.d,O3.d,cmI,arI,Z1,Z2,seval,ZF,ZG,]
   exact ⟨fun _=>by omega,fun _=>by omega⟩
  ·rintro us ⟨l,rfl,a1,a2⟩
   simp+contextual(maxSteps:=9^6)(disch:=omega)only[↓YR,↓den,↓Z0,YS,O1.d,O2.d,O3.d,cmI,arI,Z1,Z2,seval,ZF,ZG,]
   refine Zmi _ _ _ hb (by omega) (by simp) (by simp) fun x x0=>?_;simp+contextual(maxSteps:=9^6)(disch:=omega)only[↓YR,↓den,↓Z0,YS,O1.d,O2.d,O3.d,cmI,arI,Z1,Z2,seval,ZF,ZG,]
   have hx:0≤x∧x≤4:=by simp only [Y6,Y1] at x0;omega
   obtain ⟨y,hy⟩:∃y:Nat,x=y:=⟨x.toNat,by omega⟩
   subst hy
   refine Zmy _ _ _ _ hb (by omega) a1 a2 (by omega) fun rs p2 hp2 h1 h2=>?_
   simp+contextual(maxSteps:=9^6)(disch:=omega)only[↓YR,↓den,↓Z0,YS,O1.d,O2.d,O3.d,cmI,arI,Z1,Z2,seval,ZF,ZG,↓ZH,]
   exact h (l,rs) _ (by omega) ⟨a2,by dsimp only;omega,fun r hr=>(h2 r hr).sm⟩ a1 (by dsimp only;omega) h2
 | succ k =>
  simp+contextual(maxSteps:=9^6)(disch:=omega)only[↓YR,↓den,↓Z0,YS,O1.d,O2.d,O3.d,cmI,arI,Z1,Z2,seval,ZF,ZG,]
  refine mc.wp_join (fun us=>∃(p2 m:Int) (l:List Vr),us=[⟨I,most⟩,⟨I,m⟩,⟨I,(k:Int)+1⟩,⟨L U,b⟩,⟨I,p2⟩,⟨L V3,l⟩]∧l.length+k≤1+N∧p≤p2∧p2+3 * k≤p+1+3 * (1+N)) ?_ ?_
  ·simp+contextual(maxSteps:=9^6)(disch:=omega)only[↓YR,↓den,↓Z0,YS,O1.d,O2.d,O3.d,cmI,arI,Z1,Z2,seval,ZF,ZG,]
   refine Zmi _ _ _ hb (by omega) (by simp) (by simp) fun x x0=>?_;simp+contextual(maxSteps:=9^6)(disch:=omega)only[↓YR,↓den,↓Z0,YS,O1.d,O2.d,O3.d,cmI,arI,Z1,Z2,seval,ZF,ZG,]
   have hx:2≤x∧x≤5:=by simp only [Y6,Y1] at x0;omega
   refine ⟨fun _=>?_,fun _=>⟨_,_,_,⟨rfl,rfl,rfl⟩,by omega,by omega,by omega⟩⟩
   refine Zmi _ _ _ hb (by omega) (by simp) (by simp) fun lo lo0=>?_;simp+contextual(maxSteps:=9^6)(disch:=omega)only[↓YR,↓den,↓Z0,YS,O1.d,O2.d,O3.d,cmI,arI,Z1,Z2,seval,ZF,ZG,]
   refine ZX _ _ _ hb (by omega) (by omega) fun d d0 d1=>?_;simp+contextual(maxSteps:=9^6)(disch:=omega)only[↓YR,↓den,↓Z0,YS,O1.d,O2.d,O3.d,cmI,arI,Z1,Z2,seval,ZF,ZG,]
   simp+contextual(maxSteps:=9^6)(disch:=omega)only[↓YR,↓den,↓Z0,YS,O1.d,O2.d,O3.d,cmI,arI,Z1,Z2,seval,ZF,ZG,↓ZH,]
   exact ⟨_,_,_,⟨rfl,rfl,rfl⟩,by simp only [Y7,Yj];omega,by omega,by omega⟩
  ·rintro us ⟨p2,m,l,rfl,a1,a2,a3⟩
   simp+contextual(maxSteps:=9^6)(disch:=omega)only[↓YR,↓den,↓Z0,YS,O1.d,O2.d,O3.d,cmI,arI,Z1,Z2,seval,ZF,ZG,]
   exact ⟨k,by omega,p2,m,l,⟨rfl,rfl,rfl,rfl⟩,a1,a2,a3⟩
theorem ZmA (b:List Int) (p most:Int) (hb:Rdy b) (hp:0≤p∧p≤400000000) {Q:List AV→Prop} (h:∀(s:Sy) (p':Int),p≤p'∧p'≤p+31000→Zmx s→Q [⟨L V3,s.1⟩,⟨L TR,s.2⟩,⟨RD,(b,p')⟩]):mc.C ZbH [⟨RD,(b,p)⟩,⟨I,most⟩] Q:=by
 refine mc.c_of Zgq ?_
 simp+contextual(maxSteps:=9^6)(disch:=omega)only[↓YR,↓den,↓Z0,YS,O1.d,O2.d,O3.d,cmI,arI,Z1,Z2,seval,ZF,ZG,Ze4]
 refine Zmz _ _ _ hb (by omega) fun s p1 hp1 hs h1 h2 h5=>?_
 simp+contextual(maxSteps:=9^6)(disch:=omega)only[↓YR,↓den,↓Z0,YS,O1.d,O2.d,O3.d,cmI,arI,Z1,Z2,seval,ZF,ZG,↓ZH,Zmn]
 refine ZX _ _ _ hb (by omega) (by omega) fun a a0 a1=>?_;simp+contextual(maxSteps:=9^6)(disch:=omega)only[↓YR,↓den,↓Z0,YS,O1.d,O2.d,O3.d,cmI,arI,Z1,Z2,seval,ZF,ZG,]
 refine ⟨fun _=>?_,fun _=>h _ _ (by omega) hs⟩
 have hV:∀(l:List Vr) (p':Int),l.length≤3→p≤p'∧p'≤p+31000→Q [⟨L V3,l⟩,⟨L TR,s.2⟩,⟨RD,(b,p')⟩]:=fun l p' hl hp'=>h (l,s.2) p' hp' ⟨hl,hs.2.1,hs.2.2⟩
 have hR:∀(r:Ru) (p':Int),Zmv r→p≤p'∧p'≤p+31000→Q [⟨L V3,s.1⟩,⟨L TR,s.2.set 0 r⟩,⟨RD,(b,p')⟩]:=fun r p' hr hp'=>h (s.1,s.2.set 0 r) p' hp' ⟨hs.1,by rw [YC];exact hs.2.1,fun x hx=>(List.mem_or_eq_of_mem_set hx).elim (hs.2.2 x) fun e=>by rw [e];exact hr⟩
 have hS1:(s.1.set 0 (s.1.getD 0 (0,0,0))).length≤3:=by rw [YC];exact hs.1
 have hsl:∀x:Vr,(s.1.set 0 x).length≤3:=fun x=>by rw [YC];exact hs.1
 have hb0:Zmw (s.2.getD 0 ([],[],[])):=by
  by_cases g:0<s.2.length
  ·exact h5 _ (ZJ g)
  ·rw [Y8,Yz (by omega)];exact ⟨by simp,by simp,by simp,by simp⟩
 refine ZX _ _ _ hb (by omega) (by omega) fun c c0 c1=>?_;simp+contextual(maxSteps:=9^6)(disch:=omega)only[↓YR,↓den,↓Z0,YS,O1.d,O2.d,O3.d,cmI,arI,Z1,Z2,seval,ZF,ZG,]
 have q1:=hb0.2.1
 have q2:=hb0.2.2.1
 simp+contextual(maxSteps:=9^6)(disch:=omega)only[↓YR,↓den,↓Z0,YS,O1.d,O2.d,O3.d,cmI,arI,Z1,Z2,seval,ZF,ZG,↓ZH,Zmn]
 repeat' first | apply And.intro | intro _
 all_goals first
  | exact hV _ _ (hsl _) (by omega)
  | exact hV _ _ (by simp) (by omega)
  | exact hV _ _ hs.1 (by omega)
  | exact hR _ _ ⟨by simp,hb0.sm.2.1,hb0.sm.2.2.1,hb0.sm.2.2.2⟩ (by omega)
  | exact hR _ _ ⟨hb0.sm.1,by simp only [Y7,Yj];omega,hb0.sm.2.2.1,hb0.sm.2.2.2⟩ (by omega)
  | exact hR _ _ ⟨hb0.sm.1,hb0.sm.2.1,by simp only [Y7,Yj];omega,fun x hx=>(Y6.1 hx).elim (hb0.sm.2.2.2 x) fun hx=>by rw [Y1.1 hx];simp⟩ (by omega)
  | skip
 refine Zmi _ _ _ hb (by omega) (by simp) (by simp) fun x x0=>?_;simp+contextual(maxSteps:=9^6)(disch:=omega)only[↓YR,↓den,↓Z0,YS,O1.d,O2.d,O3.d,cmI,arI,Z1,Z2,seval,ZF,ZG,]
 simp+contextual(maxSteps:=9^6)(disch:=omega)only[↓YR,↓den,↓Z0,YS,O1.d,O2.d,O3.d,cmI,arI,Z1,Z2,seval,ZF,ZG,↓ZH,]
 exact hV _ _ (hsl _) (by omega)
theorem ZmB (a b:List Int) (ha:a.length≤1048576) (hb:b.length≤1048576) (Q:List AV→Prop):mc.C Zds [⟨L I,a⟩,⟨L I,b⟩] Q=Q [⟨B,decide (a=b)⟩]:=by
 refine Mc.Ends.c (mc.ends Zib ?_)
 generalize hK:decide (a=b)=K
 simp+contextual(maxSteps:=9^6)(disch:=omega)only[↓YR,↓den,↓Z0,YS,O1.d,O2.d,O3.d,cmI,arI,Z1,Z2,seval,ZF,ZG,ZfQ]
 refine ⟨fun g=>?_,fun g=>?_⟩
 ·rw [←hK,decide_eq_false];intro h;rw [h] at g;exact absurd rfl g
 ·have hl:a.length=b.length:=by omega
  refine Zis (fun i=>[⟨L I,b⟩,⟨L I,a⟩,⟨I,(a.length:Int)⟩,⟨I,(i:Int)⟩]) (fun i=>a.getD i 0=b.getD i 0) a.length _ ?_ ?_ ?_
  ·rw [hl];rfl
  ·intro i hi
   simp+contextual(maxSteps:=9^6)(disch:=omega)only[↓YR,↓den,↓Z0,YS,O1.d,O2.d,O3.d,cmI,arI,Z1,Z2,seval,ZF,ZG,]
   intro h
   rw [←hK,decide_eq_false]
   intro h2;rw [h2] at h;exact h rfl
  ·intro h
   simp+contextual(maxSteps:=9^6)(disch:=omega)only[↓YR,↓den,↓Z0,YS,O1.d,O2.d,O3.d,cmI,arI,Z1,Z2,seval,ZF,ZG,]
   rw [←hK,decide_eq_true]
   refine List.ext_getElem hl fun i h1 h2=>?_
   have:=h i h1
   rwa [getD_lt h1,getD_lt h2] at this
theorem ZmC (b:List Int) (p vars:Int) (hb:Rdy b) (hp:0≤p∧p≤700000000) (hv:0≤vars∧vars≤5) {Q:List AV→Prop} (h:∀(l:List Tm) (p':Int),p≤p'∧p'≤p+500→1≤l.length→l.length≤16→Q [⟨L T4,l⟩,⟨RD,(b,p')⟩]):mc.C ZbJ [⟨RD,(b,p)⟩,⟨I,vars⟩] Q:=by
 refine mc.c_of Zgs ?_
 simp+contextual(maxSteps:=9^6)(disch:=omega)only[↓YR,↓den,↓Z0,YS,O1.d,O2.d,O3.d,cmI,arI,Z1,Z2,seval,ZF,ZG,Ze6]
 refine ZX _ _ _ hb (by omega) (by omega) fun k k0 k1=>?_;simp+contextual(maxSteps:=9^6)(disch:=omega)only[↓YR,↓den,↓Z0,YS,O1.d,O2.d,O3.d,cmI,arI,Z1,Z2,seval,ZF,ZG,]
 refine Zmt _ _ _ _ _ hb (by omega) hv (by omega) fun l p2 h1 h2 h3=>?_
 simp+contextual(maxSteps:=9^6)(disch:=omega)only[↓YR,↓den,↓Z0,YS,O1.d,O2.d,O3.d,cmI,arI,Z1,Z2,seval,ZF,ZG,↓ZH,]
 refine ZX _ _ _ hb (by omega) (by omega) fun a a0 a1=>?_;simp+contextual(maxSteps:=9^6)(disch:=omega)only[↓YR,↓den,↓Z0,YS,O1.d,O2.d,O3.d,cmI,arI,Z1,Z2,seval,ZF,ZG,]
 refine ⟨fun _=>?_,fun _=>h _ _ (by omega) h2 h3⟩
 refine ZX _ _ _ hb (by omega) (by omega) fun i i0 i1=>?_;simp+contextual(maxSteps:=9^6)(disch:=omega)only[↓YR,↓den,↓Z0,YS,O1.d,O2.d,O3.d,cmI,arI,Z1,Z2,seval,ZF,ZG,]
 refine ZX _ _ _ hb (by omega) (by omega) fun f f0 f1=>?_;simp+contextual(maxSteps:=9^6)(disch:=omega)only[↓YR,↓den,↓Z0,YS,O1.d,O2.d,O3.d,cmI,arI,Z1,Z2,seval,ZF,ZG,↓ZH,]
 have hset:∀(x:Tm),1≤(l.set i.toNat x).length∧(l.set i.toNat x).length≤16:=fun x=>by rw [YC];exact ⟨h2,h3⟩
 refine ⟨fun _=>?_,fun _=>⟨fun _=>?_,fun _=>⟨fun _=>?_,fun _=>?_⟩⟩⟩
 ·refine Zmi _ _ _ hb (by omega) (by simp) (by simp) fun x x0=>?_;simp+contextual(maxSteps:=9^6)(disch:=omega)only[↓YR,↓den,↓Z0,YS,O1.d,O2.d,O3.d,cmI,arI,Z1,Z2,seval,ZF,ZG,]
  exact h _ _ (by omega) (hset _).1 (hset _).2
 ·refine Zmi _ _ _ hb (by omega) (by simp) (by simp) fun x x0=>?_;simp+contextual(maxSteps:=9^6)(disch:=omega)only[↓YR,↓den,↓Z0,YS,O1.d,O2.d,O3.d,cmI,arI,Z1,Z2,seval,ZF,ZG,]
  exact h _ _ (by omega) (hset _).1 (hset _).2
 ·refine Zmi _ _ _ hb (by omega) (by simp) (by simp) fun x x0=>?_;simp+contextual(maxSteps:=9^6)(disch:=omega)only[↓YR,↓den,↓Z0,YS,O1.d,O2.d,O3.d,cmI,arI,Z1,Z2,seval,ZF,ZG,]
  exact h _ _ (by omega) (hset _).1 (hset _).2
 ·refine Zmi _ _ _ hb (by omega) (by simp) (by simp) fun x x0=>?_;simp+contextual(maxSteps:=9^6)(disch:=omega)only[↓YR,↓den,↓Z0,YS,O1.d,O2.d,O3.d,cmI,arI,Z1,Z2,seval,ZF,ZG,]
  exact h _ _ (by omega) (hset _).1 (hset _).2
def clo (s:Sy) (l:List Int):Prop:=Zln s l∧num s.1 (ZM s.1)∈l∧∀x∈ZlD s l,x∈l
theorem ZmD {s:Sy} {l:List Int} (h:Zln s l) {x:Int}:x∈ZlD s l↔∃k:Nat,k<szn s.1∧x=(k:Int)∧∃y∈l,(k:Int)∈(steps s).getD y.toNat []:=by
 rw [ZlD,Zkr]
 constructor
 ·rintro ⟨k,h1,h2,h3⟩
  exact ⟨k,h1,h2,(ZlB h.mem).1 (ZkH.1 h3)⟩
 ·rintro ⟨k,h1,h2,h3⟩
  exact ⟨k,h1,h2,ZT ((ZlB h.mem).2 h3)⟩
theorem ZmE (s:Sy) (l:List Int) (h:Zln s l) (Q:List AV→Prop):mc.C ZdB [⟨L V3,s.1⟩,⟨L TR,s.2⟩,⟨L I,l⟩] Q=Q [⟨B,dB (clo s l)⟩]:=by
 have hv:=h.1
 have hz:=ZP hv
 have hll:=h.len
 have hfi:=ZjW hv.2.2.1
 have hn:=Zk2 hv.2.2.1 hfi
 obtain ⟨m,hm,hmn⟩:=ZlX hv
 refine Mc.Ends.c (mc.ends Zik ?_)
 generalize hK:dB (clo s l)=K
 simp+contextual(maxSteps:=9^6)(disch:=omega)only[↓YR,↓den,↓Z0,YS,O1.d,O2.d,O3.d,cmI,arI,Z1,Z2,seval,ZF,ZG,ZfZ,Zj2 s.1 hv.1.2 hv.2.2.1,Zll l (sz s.1) (szn s.1) hz.1.symm (by omega) (by omega) h.mem,ZjY s hv.1.2,Zk4 s _ hv.1.2 hv.2.2.1 hfi,hm,ZN,ZO hmn]
 refine ⟨fun g=>?_,fun g=>?_⟩
 ·have e:ZR (ovr (steps s) l) (szn s.1)=ZlD s l:=Zks fun k _=>ZlC h.mem
  have hX:∀x∈ZlD s l,0≤x∧x<(szn s.1:Int):=fun x hx=>by obtain ⟨k,h1,rfl,_⟩:=Zkr.1 hx;omega
  have hc:clo s l↔∀x∈ZlD s l,x∈l:=⟨fun h=>h.2.2,fun h2=>⟨h,by rw [hm];exact ZkH.1 g,h2⟩⟩
  have hXl:(ZlD s l).length≤szn s.1:=ZS
  simp+contextual(maxSteps:=9^6)(disch:=omega)only[↓YR,↓den,↓Z0,YS,O1.d,O2.d,O3.d,cmI,arI,Z1,Z2,seval,ZF,ZG,Zkn s hv,Zlz (steps s) l (szn s.1) (by omega) (Zl3 hv) (by omega) h.mem,e]
  refine Zis (fun i=>[⟨I,((ZlD s l).length:Int)⟩,⟨I,(i:Int)⟩,⟨L I,ZlD s l⟩,⟨L B,tab (fun k=>dB ((k:Int)∈l)) (szn s.1)⟩]) (fun i=>(ZlD s l).getD i 0∈l) (ZlD s l).length _ rfl ?_ ?_
  ·intro i hi
   have h3:=hX _ (ZJ (d:=0) hi)
   obtain ⟨x,hx⟩:∃x:Nat,(ZlD s l).getD i 0=x:=⟨((ZlD s l).getD i 0).toNat,by omega⟩
   have hxn:x<szn s.1:=by omega
   simp+contextual(maxSteps:=9^6)(disch:=omega)only[↓YR,↓den,↓Z0,YS,O1.d,O2.d,O3.d,cmI,arI,Z1,Z2,seval,ZF,ZG,hx,Yv,ZN,ZO hxn]
   refine ⟨fun g2=>?_,fun g2=>ZkH.1 (by simpa using g2)⟩
   have h6:¬clo s l:=by
    intro h4
    have h5:=hc.1 h4 _ (ZJ (d:=0) hi)
    rw [hx] at h5
    rw [ZT h5] at g2
    cases g2
   rw [←hK,ZU h6]
   simp
  ·intro h4
   simp+contextual(maxSteps:=9^6)(disch:=omega)only[↓YR,↓den,↓Z0,YS,O1.d,O2.d,O3.d,cmI,arI,Z1,Z2,seval,ZF,ZG,]
   rw [←hK,ZT (hc.2 (Zi_ (d:=0) h4))]
   rfl
 ·rw [←hK,ZU]
  intro h2
  have:=h2.2.1
  rw [hm] at this
  exact g (ZT this)
theorem ZmF (s:Sy) (l:List Int) (hs:ZK s) (hl:l.length≤1048576) (Q:List AV→Prop):mc.C ZdC [⟨L V3,s.1⟩,⟨L TR,s.2⟩,⟨L I,l⟩] Q=Q [⟨B,dB (clo s l)⟩]:=by
 refine Mc.Ends.c (mc.ends Zil ?_)
 simp+contextual(maxSteps:=9^6)(disch:=omega)only[↓YR,↓den,↓Z0,YS,O1.d,O2.d,O3.d,cmI,arI,Z1,Z2,seval,ZF,ZG,Zf_,Zlp s l hs hl]
 refine ⟨fun h=>?_,fun h=>?_⟩
 ·simp+contextual(maxSteps:=9^6)(disch:=omega)only[↓YR,↓den,↓Z0,YS,O1.d,O2.d,O3.d,cmI,arI,Z1,Z2,seval,ZF,ZG,ZmE s l h]
 ·rw [ZU fun g=>h g.1]
theorem ZmG (s:Sy) (st:List Int) (hs:ZK s) (hv:valid s) (hl:st.length≤1048576) (Q:List AV→Prop):mc.C Zci [⟨L V3,s.1⟩,⟨L TR,s.2⟩,⟨L I,st⟩] Q=Q [⟨B,decide (inR s.1 st)⟩]:=by
 refine Mc.Ends.c (mc.ends Zh1 ?_)
 simp+contextual(maxSteps:=9^6)(disch:=omega)only[↓YR,↓den,↓Z0,YS,O1.d,O2.d,O3.d,cmI,arI,Z1,Z2,seval,ZF,ZG,ZeG,Zj3 s hs,hv,Zjs s st hv.1.2 hl]
def hw1 (s:Sy) (l:List Tm) (X:List Int) (x:Int):Prop:=ZQ s l x.toNat=true→∀y∈(steps s).getD x.toNat [],y∈X→ZQ s l y.toNat=true
def hw (s:Sy) (l:List Tm) (X:List Int):Prop:=∀x∈X,hw1 s l X x
theorem ZmH (s:Sy) (l:List Tm) (hs:ZK s) (hf:Few l) (h:valid s∧kf l s.1.length=2) (Q:List AV→Prop):mc.C Zc0 [⟨L V3,s.1⟩,⟨L TR,s.2⟩,⟨L T4,l⟩] Q=Q [⟨L B,tab (ZQ s l) (szn s.1)⟩,⟨B,true⟩]:=by
 refine Mc.Ends.c (mc.ends ZgK ?_)
 simp+contextual(maxSteps:=9^6)(disch:=omega)only[↓YR,↓den,↓Z0,YS,O1.d,O2.d,O3.d,cmI,arI,Z1,Z2,seval,ZF,ZG,Zeo,Zlg s l hs hf,h.1,h.2,Zko s l h.1 (by omega:kf l s.1.length≠0)]
theorem ZmI (s:Sy) (l:List Tm) (hs:ZK s) (hf:Few l) (h:¬(valid s∧kf l s.1.length=2)) (Q:List AV→Prop):mc.C Zc0 [⟨L V3,s.1⟩,⟨L TR,s.2⟩,⟨L T4,l⟩] Q=Q [⟨L B,[]⟩,⟨B,false⟩]:=by
 refine Mc.Ends.c (mc.ends ZgK ?_)
 simp+contextual(maxSteps:=9^6)(disch:=omega)only[↓YR,↓den,↓Z0,YS,O1.d,O2.d,O3.d,cmI,arI,Z1,Z2,seval,ZF,ZG,Zeo,Zlg s l hs hf,h]
def prv (s:Sy) (l:List Tm) (X:List Int):Prop:=kf l s.1.length=2∧clo s X∧∀x∈X,ZQ s l x.toNat=true
theorem ZmJ (s:Sy) (l:List Tm) (X:List Int) (hs:ZK s) (hf:Few l) (hl:X.length≤1048576) (Q:List AV→Prop):mc.C ZdD [⟨L V3,s.1⟩,⟨L TR,s.2⟩,⟨L T4,l⟩,⟨L I,X⟩] Q=Q [⟨B,dB (prv s l X)⟩]:=by
 refine Mc.Ends.c (mc.ends Zim ?_)
 generalize hK:dB (prv s l X)=K
 by_cases h:valid s∧kf l s.1.length=2
 ·simp+contextual(maxSteps:=9^6)(disch:=omega)only[↓YR,↓den,↓Z0,YS,O1.d,O2.d,O3.d,cmI,arI,Z1,Z2,seval,ZF,ZG,Zg0,Zlg s l hs hf,h.1,h.2,ZmF s X hs hl]
  refine ⟨fun g=>?_,fun g=>?_⟩
  ·have hc:=ZkH.1 g
   have hz:=ZP h.1
   simp+contextual(maxSteps:=9^6)(disch:=omega)only[↓YR,↓den,↓Z0,YS,O1.d,O2.d,O3.d,cmI,arI,Z1,Z2,seval,ZF,ZG,Zj2 s.1 h.1.1.2 h.1.2.2.1,Zll X (sz s.1) (szn s.1) hz.1.symm (by omega) hl hc.1.mem,Zlf s l _ h.1 (by omega:kf l s.1.length≠0)]
   rw [←hK]
   refine ZkI ⟨fun g1=>⟨h.2,hc,fun x hx=>?_⟩,fun g1 k hk hk2=>?_⟩
   ·have hx2:=hc.1.mem x hx
    exact g1 x.toNat (by omega) (ZT (by rw [show ((x.toNat:Nat):Int)=x by omega];exact hx))
   ·have:=g1.2.2 _ (ZkH.1 hk2)
    rwa [Yv] at this
  ·rw [←hK,ZU fun h=>g (ZT h.2.1)]
 ·simp+contextual(maxSteps:=9^6)(disch:=omega)only[↓YR,↓den,↓Z0,YS,O1.d,O2.d,O3.d,cmI,arI,Z1,Z2,seval,ZF,ZG,Zg0,Zlg s l hs hf,h]
  rw [←hK,ZU fun g=>h ⟨g.2.1.1.1,g.1⟩]
theorem ZmK (b:List Int) (hb:Byt b) (hl:Zit b) {Q:List AV→Prop} (h:∀(s:Sy) (l:List Tm) (k:Int),Zmx s→l.length≤16→0≤k∧k≤7→Q [⟨L V3,s.1⟩,⟨L TR,s.2⟩,⟨L T4,l⟩,⟨I,k⟩]):mc.C ZbK [⟨L U,b⟩] Q:=by
 refine mc.c_of Zgt ?_
 simp+contextual(maxSteps:=9^6)(disch:=omega)only[↓YR,↓den,↓Z0,YS,O1.d,O2.d,O3.d,cmI,arI,Z1,Z2,seval,ZF,ZG,Ze7]
 refine Zmj b hb hl fun b hb=>?_
 simp+contextual(maxSteps:=9^6)(disch:=omega)only[↓YR,↓den,↓Z0,YS,O1.d,O2.d,O3.d,cmI,arI,Z1,Z2,seval,ZF,ZG,]
 refine ZmA _ _ _ hb (by omega) fun s p' _ hs=>?_
 have h3:=hs.1
 simp+contextual(maxSteps:=9^6)(disch:=omega)only[↓YR,↓den,↓Z0,YS,O1.d,O2.d,O3.d,cmI,arI,Z1,Z2,seval,ZF,ZG,]
 refine Zmi _ _ _ hb (by omega) (by simp) (by simp) fun k k0=>?_;simp+contextual(maxSteps:=9^6)(disch:=omega)only[↓YR,↓den,↓Z0,YS,O1.d,O2.d,O3.d,cmI,arI,Z1,Z2,seval,ZF,ZG,]
 have hk:0≤k∧k≤7:=by simp only [Y6,Y1] at k0;omega
 simp+contextual(maxSteps:=9^6)(disch:=omega)only[↓YR,↓den,↓Z0,YS,O1.d,O2.d,O3.d,cmI,arI,Z1,Z2,seval,ZF,ZG,ZiN (s.1.getD 0 (0,0,0))]
 refine ⟨fun g=>?_,fun g=>⟨fun _=>?_,fun _=>?_⟩⟩
 ·refine ZmC _ _ _ hb (by omega) (by omega) fun l p2 h1 h2 h4=>?_
  simp+contextual(maxSteps:=9^6)(disch:=omega)only[↓YR,↓den,↓Z0,YS,O1.d,O2.d,O3.d,cmI,arI,Z1,Z2,seval,ZF,ZG,↓ZH,]
  exact h s l k hs h4 hk
 ·refine ZmC _ _ _ hb (by omega) (by omega) fun l p2 h1 h2 h4=>?_
  simp+contextual(maxSteps:=9^6)(disch:=omega)only[↓YR,↓den,↓Z0,YS,O1.d,O2.d,O3.d,cmI,arI,Z1,Z2,seval,ZF,ZG,↓ZH,]
  exact h s l k hs h4 hk
 ·refine ZX _ _ _ hb (by omega) (by omega) fun a a0 a1=>?_;simp+contextual(maxSteps:=9^6)(disch:=omega)only[↓YR,↓den,↓Z0,YS,O1.d,O2.d,O3.d,cmI,arI,Z1,Z2,seval,ZF,ZG,]
  refine ⟨fun _=>?_,fun _=>?_⟩
  ·refine ZmC _ _ _ hb (by omega) (by omega) fun l p2 h1 h2 h4=>?_
   simp+contextual(maxSteps:=9^6)(disch:=omega)only[↓YR,↓den,↓Z0,YS,O1.d,O2.d,O3.d,cmI,arI,Z1,Z2,seval,ZF,ZG,↓ZH,]
   exact h s l k hs h4 hk
  ·refine Zms _ _ _ hb (by omega) (by rw [Yb];omega) (by rw [Yb];omega) fun l p2 h1 h2=>?_
   simp+contextual(maxSteps:=9^6)(disch:=omega)only[↓YR,↓den,↓Z0,YS,O1.d,O2.d,O3.d,cmI,arI,Z1,Z2,seval,ZF,ZG,↓ZH,]
   exact h s l k hs (by omega) hk
theorem ZmL {l:List Vr} {st:List Int} (hv:∀v∈l,vOk v) (hst:inR l st):∀{j:Nat},j≤l.length→dg (l.drop (l.length - j)) (num l st)=(Zk0 l st (l.length - j),st.drop (l.length - j))
 | 0,_=>by
  have h1:l.drop (l.length - 0)=[]:=by simp
  have h2:st.drop (l.length - 0)=[]:=by rw [←hst.1];simp
  rw [h1,h2];rfl
 | j+1,hj=>by
  have ih:=ZmL hv hst (j:=j) (by omega)
  obtain ⟨k,hk⟩:∃k,l.length - (j+1)=k:=⟨_,rfl⟩
  have hk1:l.length - j=k+1:=by omega
  have hkl:k<l.length:=by omega
  rw [hk1] at ih
  rw [hk,Zka hkl,ih]
  have h1:=hst.2 k hkl
  have h3:=ZiU (hv _ (ZJ (d:=(0,0,0)) hkl))
  have h6:wd (l.getD k (0,0,0))=(l.getD k (0,0,0)).2.1 - (l.getD k (0,0,0)).1+1:=rfl
  have hst1:=hst.1
  rw [ZiD (l:=st) (d:=0) (show k<st.length by omega)]
  simp only [Zk0]
  generalize wd (l.getD k (0,0,0))=w at *
  generalize (l.getD k (0,0,0))=v at *
  generalize st.getD k 0=x at *
  generalize Zk0 l st k=a at *
  have e:a * w+x - v.1=(x - v.1)+a * w:=by omega
  have e1:(x - v.1+a * w) / w=a:=by rw [Int.add_mul_ediv_right _ _ (by omega),Int.ediv_eq_zero_of_lt (by omega) (by omega)];omega
  have e2:(x - v.1+a * w) % w=x - v.1:=by rw [Int.add_mul_emod_self_right,Int.emod_eq_of_lt (by omega) (by omega)]
  rw [e,e1,e2]
  congr 2
  omega
theorem ZmM {l:List Vr} {st:List Int} (hv:∀v∈l,vOk v) (hst:inR l st):Zk5 l (num l st)=st:=by
 have:=ZmL hv hst (Yh _)
 rw [Nat.sub_self,List.drop_zero,List.drop_zero] at this
 rw [Zk5,this]
theorem ZmN {s:Sy} {st x:List Int}:∀{k:Nat},x∈ZjP s st k→∃r,r<k∧ZL s.1 (s.2.getD r ([],[],[])) st=x∧x≠[]
 | 0,h=>by simp [ZjP] at h
 | k+1,h=>by
  simp only [ZjP] at h
  split at h
  ·obtain ⟨r,h1,h2⟩:=ZmN h;exact ⟨r,by omega,h2⟩
  ·rename_i h1
   rcases ZjG h with rfl | h
   ·exact ⟨k,by omega,rfl,h1⟩
   ·obtain ⟨r,h1,h2⟩:=ZmN h;exact ⟨r,by omega,h2⟩
theorem ZmO {s:Sy} (h:valid s) {a k:Nat} (ha:a<szn s.1) (hk:(k:Int)∈(steps s).getD a []):∃r,r<s.2.length∧ZL s.1 (s.2.getD r ([],[],[])) (stN s a)=stN s k∧stN s k≠[]:=by
 rw [steps,ZO ha,Zki] at hk
 obtain ⟨x,h1,h2⟩:=Yo.1 hk
 obtain ⟨r,h3,h4,h5⟩:=ZmN h1
 have h6:stN s k=x:=by rw [stN,←h2];exact ZmM h.2.2.1 (Zkk x h1)
 exact ⟨r,h3,by rw [h6];exact h4,by rw [h6];exact h5⟩
theorem ZmP {s:Sy} (h:valid s) {m:Nat} (hm:num s.1 (ZM s.1)=m):stN s m=ZM s.1:=by rw [stN,←hm];exact ZmM h.2.2.1 (ZjW h.2.2.1)
def ZmQ (p:Nat→Bool):Nat→Int
 | 0 => -1
 | n+1=>if 0≤ZmQ p n then ZmQ p n else if p n=true then (n:Int) else -1
theorem ZmR {p:Nat→Bool}:∀{n:Nat},(∀j,j<n→¬p j=true)→ZmQ p n = -1
 | 0,_=>rfl
 | n+1,h=>by rw [ZmQ,ZmR fun j hj=>h j (by omega),if_neg (by omega),if_neg (h n (by omega))]
theorem ZmS {p:Nat→Bool} {i:Nat} (hp:p i=true) (h:∀j,j<i→¬p j=true):∀{n:Nat},i<n→ZmQ p n=i
 | 0,hi=>absurd hi (Nat.not_lt_zero _)
 | n+1,hi=>by
  rw [ZmQ]
  by_cases g:i<n
  ·rw [ZmS hp h g,if_pos (by omega)]
  ·have:i=n:=by omega
   subst this
   rw [ZmR h,if_neg (by omega),if_pos hp]
theorem ZmT {p:Nat→Bool} {i n:Nat} (hi:i<n) (hp:p i=true):0≤ZmQ p n:=by
 obtain ⟨d,h1,h2⟩:=least (P:=fun i=>p i=true) ⟨i,hp⟩
 have:¬i<d:=fun g=>h2 i g hp
 rw [ZmS h1 h2 (show d<n by omega)];omega
def rbt (s:Sy) (a b:List Int):Int:=ZmQ (fun r=>decide (ZL s.1 (s.2.getD r ([],[],[])) a≠[]∧ZL s.1 (s.2.getD r ([],[],[])) a=b)) s.2.length
theorem ZmU {s:Sy} (h:valid s) {a k:Nat} (ha:a<szn s.1) (hk:(k:Int)∈(steps s).getD a []):0≤rbt s (stN s a) (stN s k):=by
 obtain ⟨r,h1,h2,h3⟩:=ZmO h ha hk
 exact ZmT h1 (decide_eq_true ⟨by rw [h2];exact h3,h2⟩)
def ZmV (T:List (List Int)) (f:Nat→Int) (n k a:Nat):Prop:=a<n∧f a+1=f k∧(k:Int)∈T.getD a []∧∀b,b<a→¬(f b+1=f k∧(k:Int)∈T.getD b [])
def ZmW (T:List (List Int)) (f:Nat→Int) (n k D:Nat) (ch:Nat→Nat):Prop:=ch D=k∧(∀e,e<D→ZmV T f n (ch (e+1)) (ch e))∧∀e,e≤D→ch e<n∧f (ch e)=e
theorem ZmW.few {T:List (List Int)} {f:Nat→Int} {n k D:Nat} {ch:Nat→Nat} (h:ZmW T f n k D ch):D<n:=by
 have key:∀e,e≤D→e<(ZR (fun k=>decide (0≤f k∧f k≤(e:Int))) n).length:=by
  intro e
  induction e with
  | zero =>
   intro _
   have h1:=h.2.2 0 (by omega)
   exact Zm2.2 ⟨ch 0,h1.1,decide_eq_true (by omega)⟩
  | succ e ih =>
   intro he
   have h1:=ih (by omega)
   have h2:=h.2.2 (e+1) he
   have h3:=Zk_ (p:=fun k=>decide (0≤f k∧f k≤(e:Int))) (q:=fun k=>decide (0≤f k∧f k≤((e+1:Nat):Int))) (n:=n) fun k _ hk=>decide_eq_true (by have:=of_decide_eq_true hk;omega)
   by_cases g:(ZR (fun k=>decide (0≤f k∧f k≤((e+1:Nat):Int))) n).length≤(ZR (fun k=>decide (0≤f k∧f k≤(e:Int))) n).length
   ·have h4:=h3.2 g (ch (e+1)) h2.1 (decide_eq_true (by omega))
    have h5:=of_decide_eq_true h4
    omega
   ·omega
 have h1:=key D (Yh _)
 have h2:=@ZS (fun k=>decide (0≤f k∧f k≤(D:Int))) n
 omega
theorem ZmX {T:List (List Int)} {k m:Nat}:∀x∈Zlq T k m,x<(m:Int):=fun x hx=>by
 obtain ⟨a,h1,rfl,_⟩:=Zlr.1 hx
 omega
theorem ZmY {T:List (List Int)} {k:Nat}:∀{m:Nat},(Zlq T k m).Pairwise (·≤·)
 | 0=>List.Pairwise.nil
 | m+1=>by
  simp only [Zlq]
  refine List.pairwise_append.2 ⟨ZmY,?_,fun x hx y hy=>?_⟩
  ·exact List.pairwise_replicate.2 (.inr (Int.le_refl _))
  ·have h1:=ZmX x hx
   have h2:=(List.mem_replicate.1 hy).2
   omega
theorem ZmZ {l:List Int} (h:l.Pairwise (·≤·)) {i j:Nat} (hij:i≤j) (hj:j<l.length):l.getD i 0≤l.getD j 0:=by
 by_cases e:i=j
 ·subst e;exact Int.le_refl _
 ·rw [getD_lt hj,getD_lt (by omega)]
  exact List.pairwise_iff_getElem.1 h i j (by omega) hj (by omega)
theorem Zm_ {s:Sy} (h:valid s) {r:Ru} {a:List Int}:(ZL s.1 r a).length≤1048576:=by
 by_cases h0:ZL s.1 r a=[]
 ·rw [h0];simp
 ·have h1:=(Zjw h0).1;have h2:=h.1.2;omega
theorem Zn0 {s:Sy} {a b:List Int} {i:Nat} (hp:∀j,j<i→¬(¬ZL s.1 (s.2.getD j ([],[],[])) a=[]∧ZL s.1 (s.2.getD j ([],[],[])) a=b)):¬(¬ZL s.1 (s.2.getD i ([],[],[])) a=[]∧ZL s.1 (s.2.getD i ([],[],[])) a=b) →
  ∀j,j<i+1→¬(¬ZL s.1 (s.2.getD j ([],[],[])) a=[]∧ZL s.1 (s.2.getD j ([],[],[])) a=b):=by
 intro hn j hj
 rcases Nat.lt_succ_iff_lt_or_eq.1 hj with hj | rfl
 ·exact hp j hj
 ·exact hn
theorem Zn1 (s:Sy) (a b:List Int) (h:valid s) (ha:inR s.1 a) (hb:b.length≤1048576) (Q:List AV→Prop):mc.C Zd1 [⟨L V3,s.1⟩,⟨L TR,s.2⟩,⟨L I,a⟩,⟨L I,b⟩] Q=Q [⟨I,rbt s a b⟩]:=by
 refine Mc.Ends.c (mc.ends ZhL ?_)
 generalize hK:rbt s a b=K
 simp+contextual(maxSteps:=9^6)(disch:=omega)only[↓YR,↓den,↓Z0,YS,O1.d,O2.d,O3.d,cmI,arI,Z1,Z2,seval,ZF,ZG,Zfp]
 refine mc.lp_for Unit (fun i _=>[⟨L I,a⟩,⟨L I,b⟩,⟨I,(i:Int)⟩,⟨L V3,s.1⟩,⟨L TR,s.2⟩]) (fun i _=>∀j,j<i→¬(¬ZL s.1 (s.2.getD j ([],[],[])) a=[]∧ZL s.1 (s.2.getD j ([],[],[])) a=b)) s.2.length 0 () _ rfl (Yf _) (fun j hj=>absurd hj (Nat.not_lt_zero _)) ?_ ?_
 ·rintro i - hi hp
  have hu:(ZL s.1 (s.2.getD i ([],[],[])) a).length≤1048576:=Zm_ h
  have next:=Zn0 (s:=s) (a:=a) (b:=b) hp
  have h8:=h.2.1
  have hit:(¬ZL s.1 (s.2.getD i ([],[],[])) a=[]∧ZL s.1 (s.2.getD i ([],[],[])) a=b)→(i:Int)=K:=fun hh=>by
   rw [←hK,rbt,ZmS (i:=i) (decide_eq_true hh) (fun j hj h=>hp j hj (of_decide_eq_true h)) hi]
  simp+contextual(maxSteps:=9^6)(disch:=omega)only[↓YR,↓den,↓Z0,YS,O1.d,O2.d,O3.d,cmI,arI,Z1,Z2,seval,ZF,ZG,↓ZH,Zjy s a i h ha hi,ZjJ (ZL s.1 (s.2.getD i ([],[],[])) a) b hu hb]
  have hpos:¬ZL s.1 (s.2.getD i ([],[],[])) a=[]↔((ZL s.1 (s.2.getD i ([],[],[])) a).length:Int) > 0:=by
   rw [←ne_eq,←YJ];omega
  exact ⟨fun g1=>⟨fun g2=>hit ⟨hpos.2 g1,g2⟩,fun g2=>next fun h=>g2 h.2⟩,fun g1=>next fun h=>g1 (hpos.1 h.1)⟩
 ·rintro - hp
  simp+contextual(maxSteps:=9^6)(disch:=omega)only[↓YR,↓den,↓Z0,YS,O1.d,O2.d,O3.d,cmI,arI,Z1,Z2,seval,ZF,ZG,]
  rw [←hK,rbt,ZmR fun j hj h=>hp j hj (of_decide_eq_true h)]
theorem Zn2 (a b:List Int) (ha:a.length≤1048576) (hb:b.length≤1048576) (Q:List AV→Prop):mc.C Zcg [⟨L I,a⟩,⟨L I,b⟩] Q=Q [⟨B,decide (a=b)⟩]:=by
 refine Mc.Ends.c (mc.ends Zg_ ?_)
 generalize hK:decide (a=b)=K
 simp+contextual(maxSteps:=9^6)(disch:=omega)only[↓YR,↓den,↓Z0,YS,O1.d,O2.d,O3.d,cmI,arI,Z1,Z2,seval,ZF,ZG,ZeE]
 refine ⟨fun g=>?_,fun g=>?_⟩
 ·rw [←hK,decide_eq_false];intro h;rw [h] at g;exact g rfl
 ·have hl:a.length=b.length:=by omega
  refine Zis (fun i=>[⟨L I,a⟩,⟨L I,b⟩,⟨I,(a.length:Int)⟩,⟨I,(i:Int)⟩]) (fun i=>a.getD i 0=b.getD i 0) a.length _ ?_ ?_ ?_
  ·rw [hl];rfl
  ·intro i hi
   simp+contextual(maxSteps:=9^6)(disch:=omega)only[↓YR,↓den,↓Z0,YS,O1.d,O2.d,O3.d,cmI,arI,Z1,Z2,seval,ZF,ZG,]
   intro h
   rw [←hK,decide_eq_false]
   intro h2;rw [h2] at h;exact h rfl
  ·intro h
   simp+contextual(maxSteps:=9^6)(disch:=omega)only[↓YR,↓den,↓Z0,YS,O1.d,O2.d,O3.d,cmI,arI,Z1,Z2,seval,ZF,ZG,]
   rw [←hK,decide_eq_true]
   refine List.ext_getElem hl fun i h1 h2=>?_
   have:=h i h1
   rwa [getD_lt h1,getD_lt h2] at this
theorem Zn3 (s:Sy) (a b:List Int) (h:valid s) (ha:inR s.1 a) (hb:b.length≤1048576) (Q:List AV→Prop):mc.C Zcj [⟨L V3,s.1⟩,⟨L TR,s.2⟩,⟨L I,a⟩,⟨L I,b⟩] Q=Q [⟨I,rbt s a b⟩]:=by
 refine Mc.Ends.c (mc.ends Zh2 ?_)
 generalize hK:rbt s a b=K
 simp+contextual(maxSteps:=9^6)(disch:=omega)only[↓YR,↓den,↓Z0,YS,O1.d,O2.d,O3.d,cmI,arI,Z1,Z2,seval,ZF,ZG,ZeH]
 refine mc.lp_for Unit (fun i _=>[⟨L I,a⟩,⟨L I,b⟩,⟨I,(s.2.length:Int)⟩,⟨I,(i:Int)⟩,⟨L V3,s.1⟩,⟨L TR,s.2⟩]) (fun i _=>∀j,j<i→¬(¬ZL s.1 (s.2.getD j ([],[],[])) a=[]∧ZL s.1 (s.2.getD j ([],[],[])) a=b)) s.2.length 0 () _ rfl (Yf _) (fun j hj=>absurd hj (Nat.not_lt_zero _)) ?_ ?_
 ·rintro i - hi hp
  have hu:(ZL s.1 (s.2.getD i ([],[],[])) a).length≤1048576:=Zm_ h
  have next:=Zn0 (s:=s) (a:=a) (b:=b) hp
  have h8:=h.2.1
  have hit:(¬ZL s.1 (s.2.getD i ([],[],[])) a=[]∧ZL s.1 (s.2.getD i ([],[],[])) a=b)→(i:Int)=K:=fun hh=>by
   rw [←hK,rbt,ZmS (i:=i) (decide_eq_true hh) (fun j hj h=>hp j hj (of_decide_eq_true h)) hi]
  simp+contextual(maxSteps:=9^6)(disch:=omega)only[↓YR,↓den,↓Z0,YS,O1.d,O2.d,O3.d,cmI,arI,Z1,Z2,seval,ZF,ZG,↓ZH,Zjz s a i h ha hi,Zn2 _ b hu hb]
  exact ⟨fun g1=>⟨fun g2=>hit ⟨g1,g2⟩,fun g2=>next fun h=>g2 h.2⟩,fun g1=>next fun h=>h.1 g1⟩
 ·rintro - hp
  simp+contextual(maxSteps:=9^6)(disch:=omega)only[↓YR,↓den,↓Z0,YS,O1.d,O2.d,O3.d,cmI,arI,Z1,Z2,seval,ZF,ZG,]
  rw [←hK,rbt,ZmR fun j hj h=>hp j hj (of_decide_eq_true h)]
theorem Zn4 (s:Sy) (a b:List Int) (hs:ZK s) (h:valid s) (ha:inR s.1 a) (hb:inR s.1 b) (Q:List AV→Prop):mc.C Zck [⟨L V3,s.1⟩,⟨L TR,s.2⟩,⟨L I,a⟩,⟨L I,b⟩] Q=Q [⟨I,rbt s a b⟩]:=by
 have hla:a.length≤1048576:=by have:=ha.1;have:=h.1.2;omega
 have hlb:b.length≤1048576:=by have:=hb.1;have:=h.1.2;omega
 refine Mc.Ends.c (mc.ends Zh3 ?_)
 simp+contextual(maxSteps:=9^6)(disch:=omega)only[↓YR,↓den,↓Z0,YS,O1.d,O2.d,O3.d,cmI,arI,Z1,Z2,seval,ZF,ZG,ZeI,ZmG s a hs h hla,Zjs s b h.1.2 hlb,ha,hb,Zn3 s a b h ha hlb]
theorem Zn5 (l:List (List Int)) (hl:l.length≤1048576) (h:∀x∈l,x.length≤1048576) (Q:List AV→Prop):mc.C Zch [⟨L (L I),l⟩] Q=Q [⟨L (L I),l⟩]:=by
 refine Mc.Ends.c (mc.ends Zh0 ?_)
 simp+contextual(maxSteps:=9^6)(disch:=omega)only[↓YR,↓den,↓Z0,YS,O1.d,O2.d,O3.d,cmI,arI,Z1,Z2,seval,ZF,ZG,ZeF]
 refine mc.lp_for (List (List Int)) (fun i o=>[⟨L (L I),l⟩,⟨I,(l.length:Int)⟩,⟨I,(i:Int)⟩,⟨L (L I),o⟩]) (fun i o=>o=l.take i) l.length 0 [] _ rfl (Yf _) rfl ?_ ?_
 ·rintro i o hi rfl
  have h1:=h _ (ZJ (d:=[]) hi)
  have h2:(l.take i).length≤1048576:=by rw [Yb];omega
  simp+contextual(maxSteps:=9^6)(disch:=omega)only[↓YR,↓den,↓Z0,YS,O1.d,O2.d,O3.d,cmI,arI,Z1,Z2,seval,ZF,ZG,Zju (l.getD i []) h1]
  exact Zjx hi
 ·rintro o rfl
  simp+contextual(maxSteps:=9^6)(disch:=omega)only[↓YR,↓den,↓Z0,YS,O1.d,O2.d,O3.d,cmI,arI,Z1,Z2,seval,ZF,ZG,ZjU _ (by rw [Yb];omega:(l.take l.length).length≤1048576)]
  rw [Yu]
structure IsRun (s:Sy) (D:Nat) (f:Nat→List Int):Prop where
 few:D<500
 first:f 0=ZM s.1
 inr:∀e,e≤D→inR s.1 (f e)
 rule:∀e,e<D→0≤rbt s (f e) (f (e+1))
def Zn6 (s:Sy) (f:Nat→List Int) (D:Nat):List Int:=tab (fun e=>rbt s (f e) (f (e+1))) D
theorem IsRun.len {s:Sy} {D:Nat} {f:Nat→List Int} (hv:valid s) (h:IsRun s D f) {e:Nat} (he:e≤D):(f e).length≤1048576:=by
 have:=(h.inr e he).1
 have:=hv.1.2
 omega
theorem Zn7 (s:Sy) (D:Nat) (f:Nat→List Int) (hs:ZK s) (h:valid s) (hr:IsRun s D f) (Q:List AV→Prop):mc.C Zcl [⟨L V3,s.1⟩,⟨L TR,s.2⟩,⟨L (L I),tab f (D+1)⟩] Q=Q [⟨L (L I),tab f (D+1)⟩,⟨L I,Zn6 s f D⟩,⟨B,true⟩]:=by
 have hl:(tab f (D+1)).length=D+1:=ZN
 have hd:=hr.few
 have h0:(tab f (D+1)).getD 0 []=ZM s.1:=by rw [ZO (by omega)];exact hr.first
 have hfl:(ZM s.1).length≤1048576:=by rw [←hr.first];exact hr.len h (by omega)
 have hall:∀x∈tab f (D+1),x.length≤1048576:=fun x hx=>by
  obtain ⟨e,he,rfl⟩:=Yo.1 hx
  exact hr.len h (by have:=List.mem_range.1 he;omega)
 refine Mc.Ends.c (mc.ends Zh4 ?_)
 simp+contextual(maxSteps:=9^6)(disch:=omega)only[↓YR,↓den,↓Z0,YS,O1.d,O2.d,O3.d,cmI,arI,Z1,Z2,seval,ZF,ZG,ZeJ,Zj3 s hs,h,hl,Zix,h0,ZjY s h.1.2,Zn2 _ _ hfl hfl,Zn5 (tab f (D+1)) (by omega) hall]
 refine mc.lp_for (List Int) (fun i o=>[⟨L (L I),tab f (D+1)⟩,⟨I,(i:Int)⟩,⟨L V3,s.1⟩,⟨L TR,s.2⟩,⟨L (L I),tab f (D+1)⟩,⟨L I,o⟩]) (fun i o=>1≤i∧o=Zn6 s f (i - 1)) (D+1) 1 [] _ rfl (by omega) ⟨Yh _,rfl⟩ ?_ ?_
 ·rintro i o hi ⟨h1,rfl⟩
  obtain ⟨e,rfl⟩:∃e,i=e+1:=⟨i - 1,by omega⟩
  have e1:(((e+1:Nat):Int) - 1).toNat=e:=by omega
  have e2:((e:Int)+1).toNat=e+1:=by omega
  have h2:=hr.rule e (by omega)
  have h3:(Zn6 s f e).length=e:=ZN
  simp+contextual(maxSteps:=9^6)(disch:=omega)only[↓YR,↓den,↓Z0,YS,O1.d,O2.d,O3.d,cmI,arI,Z1,Z2,↓reduceIte,Nat.reduceLT,Nat.reduceSub,Nat.reduceAdd,Int.reduceAdd,Int.reduceEq,Int.reduceLT,Int.reduceLE,ZF,ZG,hl,e1,e2,ZO (show e<D+1 by omega),ZO (show e+1<D+1 by omega),Zn4 s (f e) (f (e+1)) hs h (hr.inr e (by omega)) (hr.inr (e+1) (by omega)),Nat.add_sub_cancel]
  exact ⟨by omega,Zkd⟩
 ·rintro o ⟨-,rfl⟩
  have h3:(Zn6 s f D).length=D:=ZN
  simp+contextual(maxSteps:=9^6)(disch:=omega)only[↓YR,↓den,↓Z0,YS,O1.d,O2.d,O3.d,cmI,arI,Z1,Z2,seval,ZF,ZG,hl,Nat.add_sub_cancel,Zju (Zn6 s f D) (by omega)]
theorem Zn8 (s:Sy) (D:Nat) (f:Nat→List Int) (hs:ZK s) (h:valid s) (hr:IsRun s D f) (Q:List AV→Prop):mc.C Zd2 [⟨L V3,s.1⟩,⟨L TR,s.2⟩,⟨L (L I),tab f (D+1)⟩] Q=Q [⟨L (L I),tab f (D+1)⟩,⟨L I,Zn6 s f D⟩,⟨B,true⟩]:=by
 have hl:(tab f (D+1)).length=D+1:=ZN
 have hd:=hr.few
 have h0:(tab f (D+1)).getD 0 []=ZM s.1:=by rw [ZO (by omega)];exact hr.first
 have hfl:(ZM s.1).length≤1048576:=by rw [←hr.first];exact hr.len h (by omega)
 refine Mc.Ends.c (mc.ends ZhM ?_)
 simp+contextual(maxSteps:=9^6)(disch:=omega)only[↓YR,↓den,↓Z0,YS,O1.d,O2.d,O3.d,cmI,arI,Z1,Z2,seval,ZF,ZG,Zfq,Zj1 s hs,h,hl,Ziw,h0,ZjZ s hs h,ZjJ _ _ hfl hfl,Zj_ _ hfl]
 refine mc.lp_for (List (List Int)×List Int) (fun i o=>[⟨L (L I),tab f (D+1)⟩,⟨I,(i:Int)⟩,⟨L V3,s.1⟩,⟨L TR,s.2⟩,⟨L (L I),o.1⟩,⟨L I,o.2⟩]) (fun i o=>1≤i∧o.1=tab f i∧o.2=Zn6 s f (i - 1)) (D+1) 1 ([ZM s.1],[]) _ rfl (by omega) ⟨Yh _,by rw [←hr.first];rfl,rfl⟩ ?_ ?_
 ·rintro i ⟨o1,o2⟩ hi ⟨h1,h4,h5⟩
  simp only at h4 h5
  subst h4 h5
  obtain ⟨e,rfl⟩:∃e,i=e+1:=⟨i - 1,by omega⟩
  have e1:(((e+1:Nat):Int) - 1).toNat=e:=by omega
  have e2:((e:Int)+1).toNat=e+1:=by omega
  have h2:=hr.rule e (by omega)
  have h3:(Zn6 s f e).length=e:=ZN
  have h6:=hr.len h (show e+1≤D by omega)
  have h7:=hr.inr (e+1) (by omega)
  have h8:(tab f (e+1)).length=e+1:=ZN
  simp+contextual(maxSteps:=9^6)(disch:=omega)only[↓YR,↓den,↓Z0,YS,O1.d,O2.d,O3.d,cmI,arI,Z1,Z2,↓reduceIte,Nat.reduceLT,Nat.reduceSub,Nat.reduceAdd,Int.reduceAdd,Int.reduceEq,Int.reduceLT,Int.reduceLE,ZF,ZG,hl,e1,e2,ZO (show e<D+1 by omega),ZO (show e+1<D+1 by omega),Zjr s _ h.1.2 h6,h7,Zn1 s (f e) (f (e+1)) h (hr.inr e (by omega)) h6,Zj_ _ h6,Nat.add_sub_cancel]
  exact ⟨(_,_),⟨rfl,rfl⟩,by omega,Zkd,Zkd⟩
 ·rintro ⟨o1,o2⟩ ⟨-,h4,h5⟩
  simp only at h4 h5
  subst h4 h5
  simp+contextual(maxSteps:=9^6)(disch:=omega)only[↓YR,↓den,↓Z0,YS,O1.d,O2.d,O3.d,cmI,arI,Z1,Z2,seval,ZF,ZG,hl,Nat.add_sub_cancel]
def Zn9 (l:List (List Int)):Prop:=l.length≤4000∧∀x∈l,x.length≤4000
theorem Zn9.row {l:List (List Int)} (h:Zn9 l) (i:Nat):(l.getD i []).length≤4000:=by
 by_cases hi:i<l.length
 ·exact h.2 _ (ZJ hi)
 ·rw [Y8,Yz (by omega)];simp
theorem Zna {α:Type} {l:List α} {d:α}:tab (fun i=>l.getD i d) l.length=l:=by
 refine List.ext_getElem ZN fun i h1 h2=>?_
 simp [tab]
 rw [List.getElem?_eq_getElem h2];rfl
theorem Znb {l:List Vr} {n:Int}:∀{k:Nat},k≤l.length→(dg l n).2.drop k=(dg (l.drop k) n).2
 | 0,_=>rfl
 | k+1,hk=>by
  have ih:=Znb (l:=l) (n:=n) (k:=k) (by omega)
  rw [Zka (n:=n) (show k<l.length by omega)] at ih
  rw [←List.drop_drop,ih]
  rfl
theorem Znc {l:List Vr} {n:Int} {k:Nat} (hk:k<l.length):(Zk5 l n).getD k 0=(l.getD k (0,0,0)).1+(dg (l.drop (k+1)) n).1 % wd (l.getD k (0,0,0)):=by
 have h:=Znb (l:=l) (n:=n) (k:=k) (by omega)
 rw [Zka (n:=n) hk] at h
 have hl:k<(Zk5 l n).length:=by rw [Zk5,Zk6];exact hk
 rw [←Zk5,ZiD (d:=0) hl] at h
 exact (List.cons.inj h).1
theorem Znd {l:List Vr} {n:Int}:∀{k:Nat},k≤l.length→(dg (l.drop k) n).1=(dg l n).1 * sz (l.take k)+Zk0 l (Zk5 l n) k
 | 0,_=>by simp [Zk0,sz]
 | k+1,hk=>by
  have ih:=Znd (l:=l) (n:=n) (k:=k) (by omega)
  rw [Zka (n:=n) (show k<l.length by omega)] at ih
  simp only at ih
  have h2:=Znc (l:=l) (n:=n) (k:=k) (by omega)
  have h3:=Int.mul_ediv_add_emod (dg (l.drop (k+1)) n).1 (wd (l.getD k (0,0,0)))
  rw [ZiV (d:=(0,0,0)) (show k<l.length by omega)]
  simp only [Zk0]
  rw [h2]
  rw [ih,Int.mul_add,Int.mul_comm _ ((dg l n).1 * sz (l.take k)),Int.mul_comm _ (Zk0 l (Zk5 l n) k),Int.mul_assoc] at h3
  omega
theorem Zne {l:List Vr} {n:Int} (hv:∀v∈l,vOk v) (hn:0≤n∧n<sz l) (hs:sz l≤400):num l (Zk5 l n)=n:=by
 have h1:=Znd (l:=l) (n:=n) (Yh _)
 rw [Yu,List.drop_length] at h1
 have h2:=Zk2 hv (Zk8 (n:=n) hv (by omega))
 have h3:=(Zk7 (n:=n) hv (by omega)).1
 have h4:n=(dg l n).1 * sz l+num l (Zk5 l n):=h1
 have h5:(dg l n).1=0:=by
  refine Classical.byContradiction fun g=>?_
  have h6:1 * sz l≤(dg l n).1 * sz l:=Int.mul_le_mul_of_nonneg_right (by omega) (by omega)
  omega
 rw [h5] at h4
 omega
theorem Znf {s:Sy} (h:valid s) {k:Nat} (hk:k<szn s.1):num s.1 (stN s k)=k:=by
 have:=ZP h
 exact Zne h.2.2.1 (by omega) h.2.2.2.2
theorem Zng {s:Sy} {a b:List Int} (h:0≤rbt s a b):∃r:Nat,rbt s a b=r∧r<s.2.length∧ZL s.1 (s.2.getD r ([],[],[])) a≠[]∧ZL s.1 (s.2.getD r ([],[],[])) a=b:=by
 by_cases g:∃r,r<s.2.length∧(ZL s.1 (s.2.getD r ([],[],[])) a≠[]∧ZL s.1 (s.2.getD r ([],[],[])) a=b)
 ·obtain ⟨r,h1,h2⟩:=least g
  refine ⟨r,?_,h1.1,h1.2.1,h1.2.2⟩
  refine ZmS (decide_eq_true h1.2) (fun j hj hp=>?_) h1.1
  have:=of_decide_eq_true hp
  exact h2 j hj ⟨by omega,this⟩
 ·rw [rbt,ZmR fun j hj hp=>g ⟨j,hj,of_decide_eq_true hp⟩] at h
  omega
theorem Znh (s:Sy) (D:Nat) (f:Nat→List Int) (hs:ZK s) (h:valid s) (hr:IsRun s D f) (Q:List AV→Prop):mc.C ZdH [⟨L V3,s.1⟩,⟨L TR,s.2⟩,⟨L (L I),tab f (D+1)⟩,⟨L I,Zn6 s f D⟩] Q=Q [⟨B,true⟩]:=by
 have hl:(tab f (D+1)).length=D+1:=ZN
 have hlr:(Zn6 s f D).length=D:=ZN
 have hd:=hr.few
 have h8:=h.2.1
 have h0:(tab f (D+1)).getD 0 []=ZM s.1:=by rw [ZO (by omega)];exact hr.first
 have hfl:(ZM s.1).length≤1048576:=by rw [←hr.first];exact hr.len h (by omega)
 refine Mc.Ends.c (mc.ends Ziq ?_)
 simp+contextual(maxSteps:=9^6)(disch:=omega)only[↓YR,↓den,↓Z0,YS,O1.d,O2.d,O3.d,cmI,arI,Z1,Z2,seval,ZF,ZG,Zg4,Zj3 s hs,h,hl,hlr,Zix,h0,ZjY s h.1.2,Zn2 _ _ hfl hfl]
 refine mc.lp_for Unit (fun i _=>[⟨L I,Zn6 s f D⟩,⟨I,(D:Int)⟩,⟨I,(i:Int)⟩,⟨L V3,s.1⟩,⟨L TR,s.2⟩,⟨L (L I),tab f (D+1)⟩,⟨L I,Zn6 s f D⟩]) (fun _ _=>True) D 0 () _ rfl (Yf _) trivial ?_ ?_
 ·rintro i - hi -
  obtain ⟨r,h1,h2,h3,h4⟩:=Zng (hr.rule i hi)
  have hg:(Zn6 s f D).getD i 0=(r:Int):=by rw [Zn6,ZO hi,h1]
  have e2:((i:Int)+1).toNat=i+1:=by omega
  have h6:=hr.len h (show i+1≤D by omega)
  have h7:f (i+1)≠[]:=by rw [←h4];exact h3
  simp+contextual(maxSteps:=9^6)(disch:=omega)only[↓YR,↓den,↓Z0,YS,O1.d,O2.d,O3.d,cmI,arI,Z1,Z2,seval,ZF,ZG,hl,hlr,hg,Zix,ZO (show i<D+1 by omega),Zjz s (f i) r h (hr.inr i (by omega)) h2,h4,h7,e2,ZO (show i+1<D+1 by omega),Zn2 (f (i+1)) (f (i+1)) h6 h6]
 ·rintro - -
  simp+contextual(maxSteps:=9^6)(disch:=omega)only[↓YR,↓den,↓Z0,YS,O1.d,O2.d,O3.d,cmI,arI,Z1,Z2,seval,ZF,ZG,]
theorem Zni (l:List Tm) (vars:Int) (hl:Few l) (Q:List AV→Prop):mc.C ZdF [⟨L T4,l⟩,⟨I,vars⟩] Q=Q [⟨B,!(ZiB l vars).isEmpty⟩]:=by
 refine Mc.Ends.c (mc.ends Zio ?_)
 simp+contextual(maxSteps:=9^6)(disch:=omega)only[↓YR,↓den,↓Z0,YS,O1.d,O2.d,O3.d,cmI,arI,Z1,Z2,seval,ZF,ZG,Zg2,ZiL l vars hl]
theorem Znj (st:List Int) (h5:st.length≤5) (h:∀i,i<st.length → -9999≤st.getD i 0∧st.getD i 0≤9999) (Q:List AV→Prop):mc.C ZdE [⟨L I,st⟩] Q=Q [⟨B,true⟩]:=by
 refine Mc.Ends.c (mc.ends Zin ?_)
 simp+contextual(maxSteps:=9^6)(disch:=omega)only[↓YR,↓den,↓Z0,YS,O1.d,O2.d,O3.d,cmI,arI,Z1,Z2,seval,ZF,ZG,Zg1]
 refine mc.lp_for Unit (fun i _=>[⟨L I,st⟩,⟨I,(st.length:Int)⟩,⟨I,(i:Int)⟩]) (fun _ _=>True) st.length 0 () _ rfl (Yf _) trivial ?_ ?_
 ·rintro i - hi -
  have h1:=h i hi
  simp+contextual(maxSteps:=9^6)(disch:=omega)only[↓YR,↓den,↓Z0,YS,O1.d,O2.d,O3.d,cmI,arI,Z1,Z2,seval,ZF,ZG,Zix,h1]
 ·rintro - -
  simp+contextual(maxSteps:=9^6)(disch:=omega)only[↓YR,↓den,↓Z0,YS,O1.d,O2.d,O3.d,cmI,arI,Z1,Z2,↓reduceIte,Nat.reduceLT,Nat.reduceSub,Nat.reduceAdd,Int.reduceAdd,Int.reduceEq,Int.reduceLT,Int.reduceLE,ZF,ZG,]
  rfl
theorem Znk (l:List Tm) (st:List Int) (hl:Few l) (h5:st.length≤5) (hb:Bds st) (hk:kf l st.length≠0) (Q:List AV→Prop):mc.C ZdG [⟨L T4,l⟩,⟨L I,st⟩] Q=Q [⟨I,evl l st⟩,⟨B,true⟩]:=by
 have he:(ZiB l st.length).isEmpty=false:=by
  rw [List.isEmpty_eq_false_iff]
  intro h
  exact hk (ZiJ (by rw [h];simp))
 refine Mc.Ends.c (mc.ends Zip ?_)
 simp+contextual(maxSteps:=9^6)(disch:=omega)only[↓YR,↓den,↓Z0,YS,O1.d,O2.d,O3.d,cmI,arI,Z1,Z2,seval,ZF,ZG,Zg3,Znj st h5 hb,Zni l st.length hl,he,Bool.not_false,Bool.not_true,Zjq l st st.length hk hb rfl]
def alw (s:Sy) (l:List Tm):Prop:=valid s∧kf l s.1.length=2∧Zle (Zlb s) (ZQ s l) (szn s.1)
def Znl (F:List (List Tm)):Prop:=Few F∧∀x∈F,Few x
theorem Znl.row {F:List (List Tm)} (h:Znl F) (i:Nat):Few (F.getD i []):=by
 by_cases hi:i<F.length
 ·exact h.2 _ (ZJ hi)
 ·rw [Y8,Yz (by omega)];simp [Few]
theorem Zn9.few {l:List (List Int)} (h:Zn9 l):l.length≤1048576∧∀x∈l,x.length≤1048576:=⟨by have:=h.1;omega,fun x hx=>by have:=h.2 x hx;omega⟩
abbrev zT:Tm:=(0,0,0,0)
def hnP (s:Sy) (q:Nat→Bool) (c:List Int):Prop:=∀k,k<szn s.1→q k=true→inC s c k=false
noncomputable def cub (s:Sy) (q:Nat→Bool) (k:Nat):List Int:=wdn (hnP s q) (sb s (stN s k)) (sb s (stN s k)).length
theorem Znm {a b w:Nat} (ha:a<2 ^ w) (hb:b<2 ^ w) (h:vb a w=vb b w):a=b:=by
 refine Nat.eq_of_testBit_eq fun j=>?_
 by_cases hj:j<w
 ·have h1 := congrArg (fun l => l.getD (w - 1 - j) 0) h
  simp only [vb, ZO (show w - 1 - j < w by omega), show w - 1 - (w - 1 - j) = j by omega] at h1
  rw [Nat.testBit_eq_decide_div_mod_eq,Nat.testBit_eq_decide_div_mod_eq]
  have:a / 2 ^ j % 2=b / 2 ^ j % 2:=by omega
  rw [this]
 ·have hp:2 ^ w≤2 ^ j:=Nat.pow_le_pow_right (by omega) (by omega)
  rw [Nat.testBit_lt_two_pow (by omega),Nat.testBit_lt_two_pow (by omega)]
theorem Znn {w:Int} (h:1≤w∧w≤20):w.toNat≤2 ^ (bn w).toNat:=by
 unfold bn
 split
 ·simp;omega
 split
 ·simp;omega
 split
 ·simp;omega
 split
 ·simp;omega
 split
 ·simp;omega
 ·simp;omega
theorem Zno {s:Sy} (h:valid s) {a b:List Int} (ha:inR s.1 a) (hb:inR s.1 b):∀{i:Nat},i≤s.1.length→sbN s.1 a i=sbN s.1 b i→∀j,j<i→a.getD j 0=b.getD j 0
 | 0,_,_,j,hj=>absurd hj (Nat.not_lt_zero _)
 | i+1,hi,he,j,hj=>by
  simp only [sbN] at he
  have hl:(sbN s.1 a i).length=(sbN s.1 b i).length:=by
   have h1:=@ZlK s.1 a i
   have h2:=@ZlK s.1 b i
   omega
  obtain ⟨h1,h2⟩:=List.append_inj he hl
  rcases Nat.lt_succ_iff_lt_or_eq.1 hj with hj | rfl
  ·exact Zno h ha hb (by omega) h1 j hj
  ·have hv:=h.2.2.1 _ (ZJ (d:=(0,0,0)) hi)
   have a1:=ha.2 j hi
   have b1:=hb.2 j hi
   unfold bw at h2
   generalize s.1.getD j (0,0,0)=v at hv a1 b1 h2
   unfold vOk at hv
   have hw:1≤wd v∧wd v≤20:=by unfold wd;omega
   have hw2:=Znn hw
   have hwe:wd v=v.2.1 - v.1+1:=rfl
   have:=Znm (by omega) (by omega) h2
   omega
theorem Znp {s:Sy} (h:valid s) {a b:List Int} (ha:inR s.1 a) (hb:inR s.1 b) (he:sb s a=sb s b):a=b:=by
 have h1:=Zno h ha hb (Yh _) he
 have la:=ha.1
 have lb:=hb.1
 refine List.ext_getElem (by omega) fun i h2 h3=>?_
 have:=h1 i (by omega)
 rwa [getD_lt h2,getD_lt h3] at this
theorem Znq {s:Sy} {a b:List Int} (hh:ZlR (sb s a) (sb s b)):sb s a=sb s b:=by
 have la:=@ZlL s a
 have lb:=@ZlL s b
 refine List.ext_getElem (by omega) fun i h2 h3=>?_
 have h4:=hh i h2
 have h5:=ZlN (l:=s.1) (st:=a) (i:=s.1.length) _ (show (sb s a).getD i 0∈sb s a from ZJ h2)
 rw [getD_lt h2] at h5 h4
 rw [getD_lt h3] at h4
 rcases h4 with h4 | h4
 ·omega
 ·exact h4
theorem Znr {s:Sy} (h:valid s) {k x:Nat} (hk:k<szn s.1) (hx:x<szn s.1) (hi:inC s (sb s (stN s x)) k=true):k=x:=by
 have h1:=Znp h (Zkh h hx) (Zkh h hk) (Znq (ZkH.1 hi))
 have h2:=Znf h hk
 have h3:=Znf h hx
 rw [h1] at h3
 omega
theorem Zns {P:List Int→Prop} {c:List Int} (h:P c):∀{i:Nat},P (wdn P c i)
 | 0=>h
 | i+1=>by
  simp only [wdn]
  split
  ·rename_i g;exact ZkH.1 g
  ·exact Zns h
theorem Znt (n:Nat) (hn:n≤1048576) (Q:List AV→Prop):mc.C Zd4 [⟨I,0⟩,⟨I,(n:Int)⟩] Q=Q [⟨L I,ZR (fun _=>true) n⟩]:=by
 refine Mc.Ends.c (mc.ends ZhO ?_)
 simp+contextual(maxSteps:=9^6)(disch:=omega)only[↓YR,↓den,↓Z0,YS,O1.d,O2.d,O3.d,cmI,arI,Z1,Z2,seval,ZF,ZG,Zfs]
 refine mc.lp_for (List Int) (fun i o=>[⟨I,0⟩,⟨I,(n:Int)⟩,⟨I,(i:Int)⟩,⟨L I,o⟩]) (fun i o=>o=ZR (fun _=>true) i) n 0 [] _ rfl (Yf _) rfl ?_ ?_
 ·rintro i o hi rfl
  have h1:=@ZS (fun _=>true) i
  simp+contextual(maxSteps:=9^6)(disch:=omega)only[↓YR,↓den,↓Z0,YS,O1.d,O2.d,O3.d,cmI,arI,Z1,Z2,seval,ZF,ZG,]
  rw [Int.zero_add]
  exact (Zkp (p:=fun _=>true) rfl).symm
 ·rintro o rfl
  simp+contextual(maxSteps:=9^6)(disch:=omega)only[↓YR,↓den,↓Z0,YS,O1.d,O2.d,O3.d,cmI,arI,Z1,Z2,seval,ZF,ZG,]
theorem Znu {s:Sy} {l:List Tm} {X:List Int} (hv:valid s) (h:prv s l X):alw s l:=by
 obtain ⟨h1,⟨hset,h2,h3⟩,h4⟩:=h
 obtain ⟨m,hm,hmn⟩:=ZlX hv
 rw [hm] at h2
 have hX:∀k,Rch (steps s) [num s.1 (ZM s.1)] k→k<szn s.1∧(k:Int)∈X:=by
  intro k hk
  induction hk with
  | base hb =>
   rw [hm,Y1] at hb
   rename_i k
   have:k=m:=by omega
   subst this
   exact ⟨hmn,h2⟩
  | step ha hk ih =>
   rename_i a k
   have hkn:=(Zl3 hv).row _ hk
   exact ⟨by omega,h3 _ ((ZmD hset).2 ⟨k,by omega,rfl,(a:Int),ih.2,by rw [Yv];exact hk⟩)⟩
 exact ⟨hv,h1,fun k hk hr=>by have:=h4 _ (hX k (ZkH.1 hr)).2;rwa [Yv] at this⟩
theorem Znv (s:Sy) (l:List Tm) (hs:ZK s) (hf:Few l) (h:valid s∧kf l s.1.length=2) (Q:List AV→Prop):mc.C ZcT [⟨L V3,s.1⟩,⟨L TR,s.2⟩,⟨L T4,l⟩] Q=Q [⟨L B,tab (ZQ s l) (szn s.1)⟩]:=by
 refine Mc.Ends.c (mc.ends ZhC ?_)
 have hz:=ZP h.1
 simp+contextual(maxSteps:=9^6)(disch:=omega)only[↓YR,↓den,↓Z0,YS,O1.d,O2.d,O3.d,cmI,arI,Z1,Z2,seval,ZF,ZG,Zfg,Zkt s l hs hf h.1 h.2,Zj4 s hs,if_pos h.1,ZkU (ZR (ZQ s l) (szn s.1)) (sz s.1) (szn s.1) hz.1.symm (by omega) (Nat.le_trans ZS (by omega)) (fun x hx=>by obtain ⟨a,h1,rfl,_⟩:=Zkr.1 hx;omega)]
 exact ZV fun k hk=>by rw [ZkZ];simp [hk]
def tAt (l:List Tm) (i:Nat):Tm:=l.getD i (0,0,0,0)
structure TmsOk (l:List Tm) (vars:Int):Prop where
 vb:0≤vars∧vars≤5
 len:1≤l.length∧l.length≤40
 at':∀i,i<l.length→(tAt l i).1=0∨((tAt l i).1=1∧0≤(tAt l i).2.1∧(tAt l i).2.1<vars)∨(2≤(tAt l i).1∧(0≤(tAt l i).2.2.1∧(tAt l i).2.2.1<i)∧0≤(tAt l i).2.2.2∧(tAt l i).2.2.2<i)
inductive Nd (l:List Tm):Nat→Prop
 | top:Nd l (l.length - 1)
 | arg {m j:Nat}:Nd l m→m<l.length→2≤(tAt l m).1→(j=(tAt l m).2.2.1.toNat∨j=(tAt l m).2.2.2.toNat)→Nd l j
def NdI (l:List Tm) (i:Nat) (p:Nat→Bool):Prop:=∀j,j<l.length→(p j=true↔(j=l.length - 1∨∃m,i≤m∧m<l.length∧Nd l m∧2≤(tAt l m).1∧(j=(tAt l m).2.2.1.toNat∨j=(tAt l m).2.2.2.toNat)))
theorem NdI.at' {l:List Tm} {vars:Int} (ho:TmsOk l vars) {m:Nat} {p:Nat→Bool} (h:NdI l (m+1) p) (hm:m<l.length):p m=true↔Nd l m:=by
 rw [h m hm]
 constructor
 ·rintro (h1 | ⟨a,h1,h2,h3,h4,h5⟩)
  ·rw [h1];exact .top
  ·exact .arg h3 h2 h4 h5
 ·intro h1
  cases h1 with
  | top=>exact .inl rfl
  | @arg a _ h2 h3 h4 h5 =>
   refine .inr ⟨a,?_,h3,h2,h4,h5⟩
   rcases ho.at' a h3 with h6 | h6 | h6
   ·omega
   ·omega
   ·omega
theorem NdI.step {l:List Tm} {vars:Int} (ho:TmsOk l vars) {m:Nat} {p:Nat→Bool} (h:NdI l (m+1) p) (hm:m<l.length) (hp:p m=true) (h2:2≤(tAt l m).1) {q:Nat→Bool} (hq:∀j,q j=true↔(j=(tAt l m).2.2.2.toNat∨j=(tAt l m).2.2.1.toNat∨p j=true)):NdI l m q:=by
 intro j hj
 rw [hq,h j hj]
 have hN:=(h.at' ho hm).1 hp
 constructor
 ·rintro (h1 | h1 | h1 | ⟨a,h1,h3⟩)
  ·exact .inr ⟨m,Yh _,hm,hN,h2,.inr h1⟩
  ·exact .inr ⟨m,Yh _,hm,hN,h2,.inl h1⟩
  ·exact .inl h1
  ·exact .inr ⟨a,by omega,h3⟩
 ·rintro (h1 | ⟨a,h1,h3,h4,h5,h6⟩)
  ·exact .inr (.inr (.inl h1))
  ·by_cases e:a=m
   ·subst e
    rcases h6 with h6 | h6
    ·exact .inr (.inl h6)
    ·exact .inl h6
   ·exact .inr (.inr (.inr ⟨a,by omega,h3,h4,h5,h6⟩))
theorem NdI.skip {l:List Tm} {vars:Int} (ho:TmsOk l vars) {m:Nat} {p:Nat→Bool} (h:NdI l (m+1) p) (hm:m<l.length) (hp:p m=false∨(tAt l m).1<2):NdI l m p:=by
 intro j hj
 rw [h j hj]
 constructor
 ·rintro (h1 | ⟨a,h1,h3⟩)
  ·exact .inl h1
  ·exact .inr ⟨a,by omega,h3⟩
 ·rintro (h1 | ⟨a,h1,h3,h4,h5,h6⟩)
  ·exact .inl h1
  ·by_cases e:a=m
   ·subst e
    rcases hp with hp | hp
    ·have:=(h.at' ho hm).2 h4
     rw [this] at hp;cases hp
    ·omega
   ·exact .inr ⟨a,by omega,h3,h4,h5,h6⟩
inductive Rc (E:Nat→Nat→Bool) (n r:Nat):Nat→Prop
 | base:Rc E n r r
 | step {a m:Nat}:Rc E n r a→m<n→E a m=true→Rc E n r m
theorem Rc.lt {E:Nat→Nat→Bool} {n r:Nat} (hr:r<n) {k:Nat} (hk:Rc E n r k):k<n:=by
 cases hk with
 | base=>exact hr
 | step _ h _=>exact h
structure SI (E:Nat→Nat→Bool) (n r y:Nat) (p:Nat→Bool) (q:List Int) (j:Nat) (s:(Nat→Bool)×List Int):Prop where
 a1:∀x∈s.2,(0≤x∧x<n)∧s.1 x.toNat=true
 a2:∀k,k<n→p k=true→s.1 k=true
 a3:∀k,k<n→s.1 k=true→Rc E n r k
 a4:∀m,m<j→m<n→E y m=true→s.1 m=true
 a5:∀a:Nat,a<n→s.1 a=true→(a:Int)∉s.2→a≠y→∀m,m<n→E a m=true→s.1 m=true
 a6:s.2.length+cntF s.1 n≤q.length+cntF p n
 a7:2 * cntF s.1 n+s.2.length≤2 * cntF p n+q.length
theorem SI.skip {E:Nat→Nat→Bool} {n r y:Nat} {p:Nat→Bool} {q:List Int} {j:Nat} {s:(Nat→Bool)×List Int} (h:SI E n r y p q j s) (g:E y j=true→s.1 j=true):SI E n r y p q (j+1) s :=
 ⟨h.a1,h.a2,h.a3,fun m hm hmn he=>by
  by_cases e:m=j
  ·rw [e] at he ⊢;exact g he
  ·exact h.a4 m (by omega) hmn he,h.a5,h.a6,h.a7⟩
structure TI (E:Nat→Nat→Bool) (n r:Nat) (p:Nat→Bool) (i:Nat) (ag:Bool) (q:Nat→Bool):Prop where
 b0:q r=true
 b1:∀k,k<n→p k=true→q k=true
 b2:∀k,k<n→q k=true→Rc E n r k
 b3:ag=false→∀k,k<n→q k=p k
 b4:ag=false→∀a,a<i→a<n→p a=true→∀m,m<n→E a m=true→p m=true
 b5:ag=true→cntF q n<cntF p n
structure TJ (E:Nat→Nat→Bool) (n r:Nat) (p:Nat→Bool) (i j:Nat) (ag:Bool) (q:Nat→Bool):Prop extends TI E n r p i ag q where
 c4:ag=false→p i=true→∀m,m<j→m<n→E i m=true→p m=true
theorem TJ.skip {E:Nat→Nat→Bool} {n r:Nat} {p:Nat→Bool} {i j:Nat} {ag:Bool} {q:Nat→Bool} (h:TJ E n r p i j ag q) (g:E i j=true→q j=true):TJ E n r p i (j+1) ag q:=by
 refine ⟨h.toTI,fun ha hp m hm hmn he=>?_⟩
 by_cases e:m=j
 ·rw [←h.b3 ha m hmn,e];exact g (by rw [←e];exact he)
 ·exact h.c4 ha hp m (by omega) hmn he
theorem TJ.next {E:Nat→Nat→Bool} {n r:Nat} {p:Nat→Bool} {i j:Nat} {ag:Bool} {q:Nat→Bool} (h:TJ E n r p i j ag q) (hi:i<n) (hj:q i=false∨n≤j):TI E n r p (i+1) ag q:=by
 refine ⟨h.b0,h.b1,h.b2,h.b3,fun ha a h1 h2 hp m hm he=>?_,h.b5⟩
 by_cases e:a=i
 ·rw [e] at hp he
  rcases hj with g | g
  ·have:=h.b1 i hi hp
   rw [this] at g;cases g
  ·exact h.c4 ha hp m (by omega) hm he
 ·exact h.b4 ha a (by omega) h2 hp m hm he
def bt (b:Bool):Int:=if b=true then 1 else 0
def hop (t:Tm) (P wl:Nat→Nat→Bool) (s m i:Nat) (x:Bool):Bool :=
 if t.1=0 then true else if t.1=1 then wl i t.2.1.toNat else if t.1=2 then !P t.2.2.1.toNat i else if t.1=3 then P t.2.2.1.toNat i&&P t.2.2.2.toNat i else
 if t.1=4 then P t.2.2.1.toNat i||P t.2.2.2.toNat i else if t.1=5 then P t.2.2.1.toNat (if i+1=m then s else i+1) else
 if t.1=6 then P t.2.2.2.toNat i||(P t.2.2.1.toNat i&&x) else P t.2.2.2.toNat i&&(P t.2.2.1.toNat i||x)
def gd (hp:Nat→Bool→Bool) (m:Nat) (w:Bool):Nat→Bool
 | 0=>w
 | k+1=>hp (m - (k+1)) (gd hp m w k)
def gq (hp:Nat→Bool→Bool) (m:Nat) (w:Bool) (i:Nat):Bool:=gd hp m w (m - i)
def rwB (t:Tm) (P wl:Nat→Nat→Bool) (s m:Nat):Nat→Bool:=gq (hop t P wl s m) m (gq (hop t P wl s m) m (decide (t.1=7)) s)
def pl (l:List Tm) (wl:Nat→Nat→Bool) (s m:Nat):Nat→List (Nat→Bool)
 | 0=>[]
 | k+1=>pl l wl s m k++[rwB (l.getD k zT) (fun a i=>(pl l wl s m k).getD a (fun _=>false) i) wl s m]
def Znw (W:List (List Int)) (n:Nat) (wl:Nat→Nat→Bool):Prop:=∀i,i<W.length→(W.getD i []).length=n∧∀j,j<n→(W.getD i []).getD j 0=bt (wl i j)
def Znx (X:List (List Int)) (n:Nat):Prop:=∀i,i<X.length→(X.getD i []).length=n∧∀j,j<n→0≤(X.getD i []).getD j 0∧(X.getD i []).getD j 0≤1
def wlO (W:List (List Int)) (i j:Nat):Bool:=decide ((W.getD i []).getD j 0=1)
theorem Znx.app {X Y:List (List Int)} {n:Nat} (hx:Znx X n) (hy:Znx Y n):Znw (X++Y) n (wlO (X++Y)):=by
 have key:∀i,i<(X++Y).length→((X++Y).getD i []).length=n∧∀j,j<n→0≤((X++Y).getD i []).getD j 0∧((X++Y).getD i []).getD j 0≤1:=fun i hi=>by
  rw [Y7] at hi
  by_cases e:i<X.length
  ·rw [Y8,Yw e,←Y8];exact hx i e
  ·rw [Y8,Yt (by omega),←Y8];exact hy _ (by omega)
 intro i hi
 refine ⟨(key i hi).1,fun j hj=>?_⟩
 have h1:=(key i hi).2 j hj
 unfold bt wlO
 by_cases e:((X++Y).getD i []).getD j 0=1
 ·rw [if_pos (by rw [decide_eq_true e]),e]
 ·rw [if_neg (by rw [decide_eq_false e];simp)];omega
structure Tj where
 c:Nat
 o:Nat→Nat
 lw:Nat→Nat
 st:List Nat
 out:Nat→Int
structure TInv (U:List (List Int)) (n:Nat) (p:Nat→Bool) (s:Tj) (G:List Nat):Prop where
 lt:∀k,s.o k≠0→k<n∧p k=true
 cnt:∀k,s.o k≤s.c
 stv:∀k,k∈s.st↔s.o k≠0∧s.out k<0
 ord:s.st.Pairwise (fun a b=>s.o a<s.o b)
 outs:∀k,s.out k<0→s.out k = -1
 outv:∀k,0≤s.out k→s.o k≠0
 clsd:∀k y:Nat,0≤s.out k→(y:Int)∈U.getD k []→0≤s.out y
 outc:∀k,0≤s.out k→s.out k=cmp U n k
 blk:∀k y:Nat,s.o k≠0→k∉G→(y:Int)∈U.getD k []→s.o y≠0
 gst:∀g∈G,g∈s.st
 low:∀y∈s.st,∃g∈G,s.o g≤s.o y∧Rch U [(y:Int)] g
 acc:∀g∈G,∀y∈s.st,s.o g≤s.o y→Rch U [(g:Int)] y
 cc:s.c+cntF (fun k=>decide (s.o k≠0)) n≤n
 len:s.st.length≤s.c
structure TExt (s s':Tj):Prop where
 c:s.c≤s'.c
 old:∀k,s.o k≠0→s'.o k=s.o k∧s'.lw k=s.lw k∧s'.out k=s.out k
 new:∀k,s.o k=0→s'.o k≠0→s.c<s'.o k
structure TPost (U:List (List Int)) (n:Nat) (p:Nat→Bool) (s:Tj) (G:List Nat) (v:Nat) (s':Tj) (X:List Nat):Prop where
 inv:TInv U n p s' G
 ext:TExt s s'
 st:s'.st=s.st++X
 vis:s'.o v≠0
 low:(X=[]∧s'.lw v=s'.o v)∨∃y∈s.st,s.o y=s'.lw v∧Rch U [(v:Int)] y
 edge:∀x∈X,∀y∈s.st,(y:Int)∈U.getD x []→s'.lw v≤s.o y
structure TLoop (U:List (List Int)) (n:Nat) (p:Nat→Bool) (s:Tj) (G:List Nat) (v:Nat) (s':Tj) (X:List Nat) (dn:List Nat):Prop where
 hs:TInv U n p s G
 o0:s.o v=0
 inv:TInv U n p s' (v::G)
 ext:TExt s s'
 st:s'.st=s.st++v::X
 ov:s'.o v=s.c+1
 le:s'.lw v≤s'.o v
 low:∃y∈s'.st,s'.o y=s'.lw v∧Rch U [(v:Int)] y
 edge:∀x∈X,∀y∈s.st,(y:Int)∈U.getD x []→s'.lw v≤s.o y
 dn:∀y∈dn,s'.o y≠0∧(y∈s.st→s'.lw v≤s.o y)
theorem TExt.trans  {a b c:Tj} (h:TExt a b) (h2:TExt b c):TExt a c:=by
 refine ⟨Nat.le_trans h.c h2.c,fun k hk=>?_,fun k hk hc=>?_⟩
 ·obtain ⟨e1,e2,e3⟩:=h.old k hk
  obtain ⟨f1,f2,f3⟩:=h2.old k (by rw [e1];exact hk)
  exact ⟨f1.trans e1,f2.trans e2,f3.trans e3⟩
 ·by_cases hb:b.o k=0
  ·exact Nat.lt_of_le_of_lt h.c (h2.new k hb hc)
  ·rw [(h2.old k hb).1];exact h.new k hk hb
theorem TLoop.ge {U:List (List Int)} {n:Nat} {p:Nat→Bool} {s:Tj} {s':Tj} {G:List Nat} {ext:List Nat} {dn:List Nat} {v:Nat} (h:TLoop U n p s G v s' ext dn) {x:Nat} (hx:x∈v::ext):s'.o v≤s'.o x:=by
 have h6:=h.inv.ord
 rw [h.st,List.pairwise_append] at h6
 rcases Yl.1 hx with rfl | hx
 ·exact Yh _
 ·exact Nat.le_of_lt ((List.pairwise_cons.1 h6.2.1).1 x hx)
theorem TLoop.lt {U:List (List Int)} {n:Nat} {p:Nat→Bool} {s:Tj} {s':Tj} {G:List Nat} {ext:List Nat} {dn:List Nat} {v:Nat} (h:TLoop U n p s G v s' ext dn) {y:Nat} (hy:y∈s.st):s'.o y<s'.o v:=by
 rw [(h.ext.old y ((h.hs.stv y).1 hy).1).1,h.ov]
 exact Nat.lt_succ_of_le (h.hs.cnt y)
theorem TLoop.keep {U:List (List Int)} {n:Nat} {p:Nat→Bool} {s:Tj} {s':Tj} {G:List Nat} {ext:List Nat} {dn:List Nat} {v:Nat} (h:TLoop U n p s G v s' ext dn) (hne:s'.lw v≠s'.o v) (hd:∀y:Nat,(y:Int)∈U.getD v []→y∈dn):TPost U n p s G v s' (v::ext):=by
 obtain ⟨y0,z1,z2,z3⟩:=h.low
 have hlt:s'.lw v<s'.o v:=Nat.lt_of_le_of_ne h.le hne
 refine ⟨{ h.inv with blk:=fun k y hk hG hy=>?_,gst:=fun g hg=>h.inv.gst g (Yc _ hg),low:=fun y hy=>?_,acc:=fun g hg=>h.inv.acc g (Yc _ hg) },h.ext,h.st,by rw [h.ov];omega,.inr ⟨y0,?_,?_,z3⟩,fun x hx y hy hxy=>?_⟩
 ·by_cases he:k=v
  ·subst he;exact (h.dn y (hd y hy)).1
  ·exact h.inv.blk k y hk (by simp [he,hG]) hy
 ·obtain ⟨g,g1,g2,g3⟩:=h.inv.low y hy
  rcases Yl.1 g1 with rfl | g1
  ·obtain ⟨g0,f1,f2,f3⟩:=h.inv.low y0 z1
   rcases Yl.1 f1 with rfl | f1
   ·omega
   ·exact ⟨g0,f1,by omega,g3.trans (z3.trans f3)⟩
  ·exact ⟨g,g1,g2,g3⟩
 ·have:=z1
  rw [h.st] at this
  rcases Y6.1 this with h1 | h1
  ·exact h1
  ·have:=h.ge h1;omega
 ·have h1:y0∈s.st:=by
   have:=z1
   rw [h.st] at this
   rcases Y6.1 this with h1 | h1
   ·exact h1
   ·have:=h.ge h1;omega
  rw [←(h.ext.old y0 ((h.hs.stv y0).1 h1).1).1];exact z2
 ·rcases Yl.1 hx with rfl | hx
  ·exact (h.dn y (hd y hxy)).2 hy
  ·exact h.edge x hx y hy hxy
theorem TInv.empty {U:List (List Int)} {n:Nat} {p:Nat→Bool} {s:Tj} (h:TInv U n p s []):s.st=[]:=by
 cases hs:s.st with
 | nil=>rfl
 | cons y l =>
  obtain ⟨g,hg,_⟩:=h.low y (by rw [hs];exact Yd ..)
  simp at hg
theorem TInv.done {U:List (List Int)} {n:Nat} {p:Nat→Bool} {s:Tj} (h:TInv U n p s []) (ha:∀k,k<n→p k=true→s.o k≠0) {k:Nat} (hk:k<n):s.out k=if p k=true then cmp U n k else -1:=by
 by_cases hp:p k=true
 ·rw [if_pos hp]
  refine h.outc k ?_
  rcases Int.lt_or_le (s.out k) 0 with h1 | h1
  ·have h2:=(h.stv k).2 ⟨ha k hk hp,h1⟩
   rw [h.empty] at h2;simp at h2
  ·exact h1
 ·rw [if_neg hp]
  refine h.outs k ?_
  rcases Int.lt_or_le (s.out k) 0 with h1 | h1
  ·exact h1
  ·exact absurd (h.lt k (h.outv k h1)).2 hp
def Zny (l:List Int) (M:Int):Prop:=M∈l∧∀x∈l,M≤x
end Go.Proofs.YtdgpohclhppodaaGreat
