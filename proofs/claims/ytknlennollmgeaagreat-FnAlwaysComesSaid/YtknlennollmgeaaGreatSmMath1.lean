/- What the trees come to: plain mathematics; no condition. -/
import Derived.Test.YtknlennollmgeaaGreatSmMath0
namespace Go.Proofs.YtknlennollmgeaaGreat
open Go Go.Sm Go.Sm.Q
set_option linter.unusedSimpArgs false
set_option linter.unusedVariables false
theorem ZjI (T:List (List Int)) (n:Nat) (hn:n≤1000) (ht:Tbl T n) (Q:List AV→Prop):mc.C ZbA [⟨L (L I),T⟩] Q=Q [⟨L (L I),ZjE T n⟩]:=by
 have hT:=ht.1
 refine Mc.Ends.c (mc.ends Zfs ?_)
 simp+contextual(maxSteps:=1000000)(disch:=omega)only[↓Sd,↓So,↓Sk,↓den,↓Z0,Sa,Sb,Sc,Se,O1.d,O2.d,O3.d,cmI,arI,Z1,Z2,↓reduceIte,Nat.reduceLT,Nat.reduceSub,Nat.reduceAdd,Int.reduceAdd,Int.reduceEq,Int.reduceLT,Int.reduceLE,ZD,ZE,Zdx]
 refine mc.lp_for (List (List Int)) (fun i o=>[⟨L (L I),T⟩,⟨I,(i:Int)⟩,⟨L (L I),o⟩]) (fun i o=>o=tab (fun k=>ZN (fun m=>(T.getD m []).contains (k:Int)) n) i) n 0 [] _ rfl (Nat.zero_le _) rfl ?_ ?_
 ·rintro i o hi rfl
  simp+contextual(maxSteps:=1000000)(disch:=omega)only[↓Sd,↓So,↓Sk,↓den,↓Z0,Sa,Sb,Sc,Se,O1.d,O2.d,O3.d,cmI,arI,Z1,Z2,↓reduceIte,Nat.reduceLT,Nat.reduceSub,Nat.reduceAdd,Int.reduceAdd,Int.reduceEq,Int.reduceLT,Int.reduceLE,ZD,ZE,hT]
  refine mc.lp_for (List Int) (fun j o=>[⟨L (L I),T⟩,⟨I,(i:Int)⟩,⟨I,(j:Int)⟩,⟨L (L I),tab (fun k=>ZN (fun m=>(T.getD m []).contains (k:Int)) n) i⟩,⟨L I,o⟩]) (fun j o=>o=ZN (fun m=>(T.getD m []).contains (i:Int)) j) n 0 [] _ rfl (Nat.zero_le _) rfl ?_ ?_
  ·rintro j o hj rfl
   have h1:=@ZO (fun m=>(T.getD m []).contains (i:Int)) j
   have hrl:(T.getD j []).length≤1048576:=(ht.2 _ (ZH (by omega))).1
   simp+contextual(maxSteps:=1000000)(disch:=omega)only[↓Sd,↓So,↓Sk,↓den,↓Z0,Sa,Sb,Sc,Se,O1.d,O2.d,O3.d,cmI,arI,Z1,Z2,↓reduceIte,Nat.reduceLT,Nat.reduceSub,Nat.reduceAdd,Int.reduceAdd,Int.reduceEq,Int.reduceLT,Int.reduceLE,ZD,ZE,↓ZF,hT,ZjD _ _ hrl,ZjH]
   exact ⟨fun g=>(ZiR g).symm,fun g=>(ZiS g).symm⟩
  ·rintro o rfl
   simp+contextual(maxSteps:=1000000)(disch:=omega)only[↓Sd,↓So,↓Sk,↓den,↓Z0,Sa,Sb,Sc,Se,O1.d,O2.d,O3.d,cmI,arI,Z1,Z2,↓reduceIte,Nat.reduceLT,Nat.reduceSub,Nat.reduceAdd,Int.reduceAdd,Int.reduceEq,Int.reduceLT,Int.reduceLE,ZD,ZE,hT,ZK]
   exact ZiE
 ·rintro o rfl
  simp+contextual(maxSteps:=1000000)(disch:=omega)only[↓Sd,↓So,↓Sk,↓den,↓Z0,Sa,Sb,Sc,Se,O1.d,O2.d,O3.d,cmI,arI,Z1,Z2,↓reduceIte,Nat.reduceLT,Nat.reduceSub,Nat.reduceAdd,Int.reduceAdd,Int.reduceEq,Int.reduceLT,Int.reduceLE,ZD,ZE,hT]
  rfl
theorem getD_set_ne {α:Type} {l:List α} {i j:Nat} {x d:α} (h:i≠j):(l.set i x).getD j d=l.getD j d:=by
 simp [List.getD_eq_getElem?_getD,List.getElem?_set,h]
def Same {α:Type} (l s:List α) (d:α) (i:Nat):Prop:=s.length=l.length∧∀j,i≤j→s.getD j d=l.getD j d
theorem Same.set {α:Type} {l s:List α} {d x:α} {i:Nat} (h:Same l s d i):Same l (s.set i x) d (i+1) :=
 ⟨by rw [List.length_set];exact h.1,fun j hj=>by rw [getD_set_ne (by omega)];exact h.2 j (by omega)⟩
theorem ZjJ {p:Nat→Bool} {s:Sy} (h:valid s):(ZN p (szn s.1)).length≤400:=by
 have h1:=@ZO p (szn s.1)
 have h2:=ZM h
 omega
def vb (n w : Nat) : List Int := tab (fun i => ((n / 2 ^ (w - 1 - i) % 2 : Nat) : Int)) w
def sbN (l:List Vr) (st:List Int):Nat→List Int
 | 0=>[]
 | i+1=>sbN l st i++vb (st.getD i 0 - (l.getD i (0,0,0)).1).toNat (bw l i).toNat
def sb (s:Sy) (st:List Int):List Int:=sbN s.1 st s.1.length
def ZjK (c b:List Int):Prop:=∀i,i<c.length→c.getD i 0=2∨c.getD i 0=b.getD i 0
noncomputable def inC (s:Sy) (c:List Int) (n:Nat):Bool:=dB (ZjK c (sb s (stN s n)))
def blk (s:Sy) (F c:List Int):Prop:=inC s c (num s.1 (ZJ s.1)).toNat=false∧∀x∈F,inC s c x.toNat=false→∀y∈(steps s).getD x.toNat [],inC s c y.toNat=false
theorem ZjL {s:Sy} (h:valid s):∃m:Nat,num s.1 (ZJ s.1)=m∧m<szn s.1:=by
 have h1:=Zit h.2.2.1 (Zim h.2.2.1)
 have h2:=ZM h
 exact ⟨(num s.1 (ZJ s.1)).toNat,by omega,by omega⟩
theorem ZjM {p:Nat→Bool} {n:Nat}:tab (fun k=>dB ((k:Int)∈ZN p n)) n=tab p n:=ZS fun k hk=>by rw [Zja];simp [hk]
theorem ZjN {p:Nat→Bool} {n:Nat}:0<(ZN p n).length↔∃k,k<n∧p k=true:=by
 constructor
 ·intro h
  obtain ⟨k,h1,_,h3⟩:=ZP.1 (ZH (d:=0) h)
  exact ⟨k,h1,h3⟩
 ·rintro ⟨k,h1,h2⟩
  exact List.length_pos_of_mem (ZP.2 ⟨k,h1,rfl,h2⟩)
theorem wrap_u64 {n:Nat} (h:n<18446744073709551616):IntKind.u64.wrap (n:Int)=n:=by
 unfold IntKind.wrap
 simp only [IntKind.bits,IntKind.signed]
 have:((n:Int) % (2:Int) ^ 64)=n:=by omega
 simpa using this
theorem ZjO {n:Nat} (h:n<4294967296):(n:Int).fdiv (2 ^ min (Int.toNat 32) IntKind.u64.bits)=0:=by
 have:min (Int.toNat 32) IntKind.u64.bits=32:=by decide
 rw [this,Int.fdiv_eq_ediv_of_nonneg _ (by decide)]
 omega
theorem ZjP {n:Nat} (h:n<4294967296):shI false .u64 (n:Int) 32=0:=by
 unfold shI
 simp only [Bool.false_eq_true,if_false]
 exact ZjO h
theorem ZjQ {n:Nat} (h:n<4294967296):IntKind.u64.wrap ((BitVec.ofInt IntKind.u64.bits (n:Int) &&& BitVec.ofInt IntKind.u64.bits 4294967295).toNat:Int)=n:=by
 have h1:(BitVec.ofInt IntKind.u64.bits (n:Int) &&& BitVec.ofInt IntKind.u64.bits 4294967295).toNat=n:=by
  rw [BitVec.toNat_and]
  have e1:(BitVec.ofInt IntKind.u64.bits (n:Int)).toNat=n:=by
   rw [BitVec.toNat_ofInt]
   show Int.toNat ((n:Int) % (2:Int) ^ 64)=n
   omega
  have e2:(BitVec.ofInt IntKind.u64.bits 4294967295).toNat=2 ^ 32 - 1:=by decide
  rw [e1,e2,Nat.and_two_pow_sub_one_eq_mod,Nat.mod_eq_of_lt h]
 rw [h1]
 exact wrap_u64 (by omega)
theorem ZjR (n:Nat) (h:n≤1048576) (Q:List AV→Prop):mc.C Zcb [⟨.int .u64,(1:Int)⟩,⟨.int .u64,(n:Int)⟩] Q=Q [⟨.int .u64,(0:Int)⟩,⟨.int .u64,(n:Int)⟩]:=by
 have e1:mc.C Zca [⟨.int .u64,(1:Int)⟩,⟨.int .u64,(n:Int)⟩]=fun Q=>Q [⟨.int .u64,(0:Int)⟩,⟨.int .u64,(n:Int)⟩]:=by
  funext Q
  refine Mc.Ends.c (mc.ends Zg2 ?_)
  have s1:shI false .u64 1 32=0:=ZjP (n:=1) (by omega)
  have s0:shI false .u64 0 32=0:=ZjP (n:=0) (by omega)
  have sn:=ZjP (n:=n) (by omega)
  have a1:IntKind.u64.wrap ((BitVec.ofInt IntKind.u64.bits 1 &&& BitVec.ofInt IntKind.u64.bits 4294967295).toNat:Int)=1:=ZjQ (n:=1) (by omega)
  have a0:IntKind.u64.wrap ((BitVec.ofInt IntKind.u64.bits 0 &&& BitVec.ofInt IntKind.u64.bits 4294967295).toNat:Int)=0:=ZjQ (n:=0) (by omega)
  have an:=ZjQ (n:=n) (by omega)
  have w:=wrap_u64 (n:=n) (by omega)
  have w0:IntKind.u64.wrap 0=0:=by decide
  simp+contextual(maxSteps:=1000000)(disch:=omega)only[↓Sd,↓So,↓Sk,↓den,↓Z0,Sa,Sb,Sc,Se,O1.d,O2.d,O3.d,cmI,arI,Z1,Z2,↓reduceIte,Nat.reduceLT,Nat.reduceSub,Nat.reduceAdd,Int.reduceAdd,Int.reduceEq,Int.reduceLT,Int.reduceLE,ZD,ZE,Ze7,s1,s0,sn,a1,an,a0,w,w0,Int.zero_mul,Int.mul_zero,Int.one_mul,Int.add_zero,Int.zero_add]
 refine Mc.Ends.c (mc.ends Zg3 ?_)
 simp+contextual(maxSteps:=1000000)(disch:=omega)only[↓Sd,↓So,↓Sk,↓den,↓Z0,Sa,Sb,Sc,Se,O1.d,O2.d,O3.d,cmI,arI,Z1,Z2,↓reduceIte,Nat.reduceLT,Nat.reduceSub,Nat.reduceAdd,Int.reduceAdd,Int.reduceEq,Int.reduceLT,Int.reduceLE,ZD,ZE,Ze8,e1]
def ZjS (k n:Nat) (v:Int):List Int:=List.replicate k v++List.replicate (n - k) 0
theorem ZjT {k n:Nat} {v:Int} (h:k≤n):(ZjS k n v).length=n:=by simp [ZjS];omega
theorem ZjU {n:Nat} {v:Int}:Z00 (List.replicate n (0:Int)) [v]=ZjS (min 1 n) n v:=by
 cases n with
 | zero=>simp [Z00,ZjS]
 | succ n =>
  have:min 1 (n+1)=1:=by omega
  rw [this]
  simp [Z00,ZjS,List.replicate_succ]
theorem ZjV {k n:Nat} {v:Int} (h:k≤n):(ZjS k n v).take k++Z00 (((ZjS k n v).take n).drop k) (((ZjS k n v).take k).drop 0)++(ZjS k n v).drop n=ZjS (k+min k (n - k)) n v:=by
 have e1:(ZjS k n v).take k=List.replicate k v:=by simp [ZjS]
 have e2:(ZjS k n v).take n=ZjS k n v:=List.take_of_length_le (by rw [ZjT h];omega)
 have e3:(ZjS k n v).drop n=[]:=List.drop_eq_nil_of_le (by rw [ZjT h];omega)
 have e4:(ZjS k n v).drop k=List.replicate (n - k) 0:=by simp [ZjS]
 rw [e1,e2,e3,e4,List.drop_zero,List.append_nil]
 unfold Z00 ZjS
 rw [List.length_replicate,List.length_replicate,List.take_replicate,List.drop_replicate,←List.append_assoc,List.replicate_append_replicate]
 congr 2
 ·omega
 ·omega
theorem ZjW (v:Int) (n:Nat) (h:n≤1048576) (Q:List AV→Prop):mc.C Zcc [⟨L I,[v]⟩,⟨I,(n:Int)⟩] Q=Q [⟨L I,List.replicate n v⟩]:=by
 refine Mc.Ends.c (mc.ends Zg4 ?_)
 have w1:IntKind.u64.wrap 1=1:=by decide
 have w:=wrap_u64 (n:=n) (by omega)
 simp+contextual(maxSteps:=1000000)(disch:=omega)only[↓Sd,↓So,↓Sk,↓den,↓Z0,Sa,Sb,Sc,Se,O1.d,O2.d,O3.d,cmI,arI,Z1,Z2,↓reduceIte,Nat.reduceLT,Nat.reduceSub,Nat.reduceAdd,Int.reduceAdd,Int.reduceEq,Int.reduceLT,Int.reduceLE,ZD,ZE,Ze9,w1,w,ZjR n h,ZjU,List.length_replicate]
 refine mc.lp_inv (fun j us=>∃k:Nat,us=[⟨I,(k:Int)⟩,⟨L I,ZjS k n v⟩]∧k≤n∧(n=0∨1≤k)∧j=n - k) (n - min 1 n) _ ⟨min 1 n,?_,Nat.min_le_right ..,by omega,rfl⟩ ?_
 ·rw [show (if (n:Int)<1 then (n:Int) else 1)=((min 1 n:Nat):Int) by omega]
 rintro j us ⟨k,rfl,i1,i2,rfl⟩
 have hl:=ZjT (v:=v) i1
 have l1:(List.drop k (List.take n (ZjS k n v))).length=n - k:=by rw [List.length_drop,List.length_take,hl];omega
 have l2:(List.drop 0 (List.take k (ZjS k n v))).length=k:=by rw [List.length_drop,List.length_take,hl];omega
 simp+contextual(maxSteps:=1000000)(disch:=omega)only[↓Sd,↓So,↓Sk,↓den,↓Z0,Sa,Sb,Sc,Se,O1.d,O2.d,O3.d,cmI,arI,Z1,Z2,↓reduceIte,Nat.reduceLT,Nat.reduceSub,Nat.reduceAdd,Int.reduceAdd,Int.reduceEq,Int.reduceLT,Int.reduceLE,ZD,ZE,↓ZF,hl,l1,l2,ZjV i1]
 refine ⟨fun g=>?_,fun g=>?_⟩
 ·have hkn:k<n:=Int.ofNat_lt.1 g
  refine ⟨_,?_,k+min k (n - k),⟨?_,rfl⟩,by omega,by omega,rfl⟩
  ·omega
  rw [show (if ((n - k:Nat):Int)<(k:Int) then ((n - k:Nat):Int) else (k:Int))=((min k (n - k):Nat):Int) by omega]
  rw [Za_ (by omega) (by omega)]
  exact (Int.natCast_add _ _).symm
 ·have hkn:¬k<n:=fun hh=>g (Int.ofNat_lt.2 hh)
  have:k=n:=by omega
  subst this
  simp [ZjS]
def Lay (T:List (List Int)) (F:List Int):Nat→Nat→Prop
 | 0,k=>(k:Int)∈F
 | d+1,k=>Lay T F d k∨∃a,Lay T F d a∧(k:Int)∈T.getD a []
theorem least {P:Nat→Prop} (h:∃d,P d):∃d,P d∧∀e,e<d→¬P e:=by
 obtain ⟨d,hd⟩:=h
 induction d using Nat.strongRecOn with
 | ind d ih =>
  by_cases g:∃e,e<d∧P e
  ·obtain ⟨e,h1,h2⟩:=g;exact ih e h1 h2
  ·exact ⟨d,hd,fun e he hp=>g ⟨e,he,hp⟩⟩
open Classical in
noncomputable def dst (T:List (List Int)) (F:List Int) (k:Nat):Int:=if h:∃d,Lay T F d k then ((Classical.choose (least h):Nat):Int) else -1
theorem Lay.up {T:List (List Int)} {F:List Int} {d e k:Nat} (h:Lay T F d k) (he:d≤e):Lay T F e k:=by
 induction e with
 | zero => have : d = 0 := by omega
           subst this;exact h
 | succ e ih =>
  by_cases g:d≤e
  ·exact .inl (ih g)
  ·have:d=e+1:=by omega
   subst this;exact h
theorem Lay.rch {T:List (List Int)} {F:List Int}:∀{d k:Nat},Lay T F d k→Rch T F k
 | 0,k,h=>.base h
 | d+1,k,h=>h.elim Lay.rch fun ⟨a,h1,h2⟩=>.step (Lay.rch h1) h2
theorem ZjX {T:List (List Int)} {F:List Int} {k:Nat} (h:Rch T F k):∃d,Lay T F d k:=by
 induction h with
 | base h=>exact ⟨0,h⟩
 | step _ h ih=>obtain ⟨d,hd⟩:=ih;exact ⟨d+1,.inr ⟨_,hd,h⟩⟩
structure IsDst (T:List (List Int)) (F:List Int) (n:Nat) (f:Nat→Int):Prop where
 ge:∀k,k<n → -1≤f k
 zero:∀k,k<n→(f k=0↔(k:Int)∈F)
 pre:∀k,k<n→0<f k→∃a,a<n∧f a+1=f k∧(k:Int)∈T.getD a []
 nxt:∀a,a<n→0≤f a→∀k:Nat,(k:Int)∈T.getD a []→0≤f k∧f k≤f a+1
theorem IsDst.eq {T:List (List Int)} {F:List Int} {n:Nat} {f:Nat→Int} (ht:Tbl T n) (hF:∀x∈F,0≤x∧x<n) (h:IsDst T F n f):∀k,k<n→f k=dst T F k:=by
 have a1:∀d k,k<n→f k=(d:Nat)→Lay T F d k:=by
  intro d
  induction d with
  | zero=>intro k hk h1;exact (h.zero k hk).1 h1
  | succ d ih =>
   intro k hk h1
   obtain ⟨a,b1,b2,b3⟩:=h.pre k hk (by omega)
   exact .inr ⟨a,ih a b1 (by omega),b3⟩
 have a2:∀d k,Lay T F d k→k<n∧0≤f k∧f k≤(d:Nat):=by
  intro d
  induction d with
  | zero => intro k h1; have := hF _ h1; have hk : k < n := by omega
            have:=(h.zero k hk).2 h1;exact ⟨hk,by omega,by omega⟩
  | succ d ih =>
   intro k h1
   rcases h1 with h1 | ⟨a,h1,h2⟩
   ·have:=ih k h1;exact ⟨this.1,this.2.1,by omega⟩
   ·obtain ⟨b1,b2,b3⟩:=ih a h1
    have:=ht.row _ h2
    have:=h.nxt a b1 b2 k h2
    exact ⟨by omega,this.1,by omega⟩
 intro k hk
 unfold dst
 by_cases g:∃d,Lay T F d k
 ·rw [dif_pos g]
  obtain ⟨b1,b2⟩:=Classical.choose_spec (least g)
  generalize Classical.choose (least g)=d at b1 b2
  obtain ⟨-,c1,c2⟩:=a2 d k b1
  have c3:=a1 (f k).toNat k hk (by omega)
  have:¬(f k).toNat<d:=fun hh=>b2 _ hh c3
  omega
 ·rw [dif_neg g]
  have:=h.ge k hk
  by_cases g2:0≤f k
  ·exact absurd ⟨_,a1 (f k).toNat k hk (by omega)⟩ g
  ·omega
theorem dst_rch {T:List (List Int)} {F:List Int} {k:Nat}:0≤dst T F k↔Rch T F k:=by
 unfold dst
 constructor
 ·intro h
  by_cases g:∃d,Lay T F d k
  ·obtain ⟨d,hd⟩:=g;exact hd.rch
  ·rw [dif_neg g] at h;omega
 ·intro h
  rw [dif_pos (ZjX h)];omega
structure Bfs (T:List (List Int)) (m n:Nat) (f:Nat→Int) (q:List Nat) (ex:Nat→Prop):Prop where
 ge:∀k,k<n → -1≤f k
 zero:∀k,k<n→(f k=0↔k=m)
 pre:∀k,k<n→0<f k→∃a,a<n∧f a+1=f k∧(k:Int)∈T.getD a []
 inq:∀x∈q,x<n∧0≤f x
 sorted:q.Pairwise fun a b=>f a≤f b
 closed:∀a,a<n→0≤f a→a∉q→¬ex a→∀k:Nat,(k:Int)∈T.getD a []→0≤f k∧f k≤f a+1
 top:∀k,k<n→f k+cntF (fun k=>decide (0≤f k)) n≤n
theorem ZjY {p q:Nat→Bool} {n:Nat} (h:∀k,k<n→p k=q k):cntF p n=cntF q n:=by
 unfold cntF
 rw [ZiT fun k hk=>by rw [h k hk]]
theorem Bfs.visit {T:List (List Int)} {m n x y:Nat} {f:Nat→Int} {q:List Nat} (h:Bfs T m n f q (·=x)) (hx:x<n) (hfx:0≤f x) (hy:y<n) (hfy:f y<0) (hm:m<n) (hT:(y:Int)∈T.getD x []) (hb:∀k,k<n→f k≤f x+1) :
  Bfs T m n (fun k=>if k=y then f x+1 else f k) (q++[y]) (·=x)∧cntF (fun k=>decide (0≤(if k=y then f x+1 else f k))) n+1=cntF (fun k=>decide (0≤f k)) n:=by
 have hxy:¬x=y:=by rintro rfl;omega
 have hc:cntF (fun k=>decide (0≤(if k=y then f x+1 else f k))) n+1=cntF (fun k=>decide (0≤f k)) n:=by
  have:=Zjj (p:=fun k=>decide (0≤f k)) (j:=y) (by simp;omega) (n:=n) hy
  rw [←this]
  congr 1
  refine ZjY fun k _=>?_
  by_cases g:k=y
  ·simp [g];omega
  ·simp [g]
 refine ⟨⟨fun k hk=>?_,fun k hk=>?_,fun k hk h1=>?_,fun z hz=>?_,?_,fun a ha h1 h2 h3 k hk=>?_,fun k hk=>?_⟩,hc⟩
 ·have:=h.ge k hk;split<;>omega
 ·have:=h.zero k hk
  have:=h.zero m hm
  split
  ·rename_i g;subst g
   constructor
   ·intro h1;omega
   ·intro h1;subst h1;omega
  ·assumption
 ·by_cases g:k=y
  ·subst g
   exact ⟨x,hx,by simp [hxy],hT⟩
  ·simp only [g,if_false] at h1 ⊢
   obtain ⟨a,b1,b2,b3⟩:=h.pre k hk h1
   have:¬a=y:=by rintro rfl;omega
   exact ⟨a,b1,by simp [this,b2],b3⟩
 ·rcases List.mem_append.1 hz with hz | hz
  ·have:=h.inq z hz
   refine ⟨this.1,?_⟩
   split<;>omega
  ·simp only [List.mem_singleton] at hz
   subst hz
   exact ⟨hy,by simp;omega⟩
 ·refine List.pairwise_append.2 ⟨?_,List.pairwise_singleton _ _,?_⟩
  ·refine h.sorted.imp_of_mem ?_
   intro a b ha hb2 hab
   have h1:=(h.inq a ha).2
   have h2:=(h.inq b hb2).2
   have e1:¬a=y:=by rintro rfl;omega
   have e2:¬b=y:=by rintro rfl;omega
   simp only [e1,e2,if_false];exact hab
  ·intro a ha b hb2
   simp only [List.mem_singleton] at hb2
   subst hb2
   have h1:=h.inq a ha
   have e1:¬a=b:=by rintro rfl;omega
   simp only [e1,if_false,if_true]
   exact hb a h1.1
 ·simp only [List.mem_append,List.mem_singleton,not_or] at h2
  have e1:¬a=y:=h2.2
  simp only [e1,if_false] at h1 ⊢
  have:=h.closed a ha h1 h2.1 h3 k hk
  have e2:¬k=y:=by rintro rfl;omega
  simp only [e2,if_false];exact this
 ·have:=h.top k hk
  have:=h.top x hx
  split<;>omega
structure Rnd (T:List (List Int)) (p:Nat→Bool) (n:Nat) (d a0 C:Nat) (ag:Bool) (f:Nat→Int):Prop where
 ge:∀k,k<n → -1≤f k
 zero:∀k,k<n→(f k=0↔p k=true)
 pre:∀k,k<n→0<f k→∃a,a<n∧f a+1=f k∧(k:Int)∈T.getD a []
 le:∀k,k<n→f k≤(d:Int)+1
 closed:∀a,a<n→0≤f a→(f a<d∨f a=d∧a<a0)→∀k:Nat,(k:Int)∈T.getD a []→0≤f k∧f k≤f a+1
 none:ag=false→∀k,k<n→f k≤d
 cnt:cntF (fun k=>decide (0≤f k)) n≤C
 less:ag=true→cntF (fun k=>decide (0≤f k)) n<C
theorem Rnd.visit {T:List (List Int)} {p:Nat→Bool} {n d a0 C y:Nat} {ag:Bool} {f:Nat→Int} (h:Rnd T p n d a0 C ag f) (ha:a0<n) (hfa:f a0=d) (hy:y<n) (hfy:f y<0) (hT:(y:Int)∈T.getD a0 []) :
  Rnd T p n d a0 C true (fun k=>if k=y then (d:Int)+1 else f k):=by
 have hay:¬a0=y:=by rintro rfl;omega
 have hc:cntF (fun k=>decide (0≤(if k=y then (d:Int)+1 else f k))) n+1=cntF (fun k=>decide (0≤f k)) n:=by
  have:=Zjj (p:=fun k=>decide (0≤f k)) (j:=y) (by simp;omega) (n:=n) hy
  rw [←this]
  congr 1
  refine ZjY fun k _=>?_
  by_cases g:k=y
  ·simp [g];omega
  ·simp [g]
 have hcn:=h.cnt
 refine ⟨fun k hk=>?_,fun k hk=>?_,fun k hk h1=>?_,fun k hk=>?_,fun a h1 h2 h3 k hk=>?_,fun g=>(by cases g),by omega,fun _=>by omega⟩
 ·have:=h.ge k hk;split<;>omega
 ·have:=h.zero k hk
  split
  ·rename_i g;subst g
   constructor
   ·intro h1;omega
   ·intro h1;have:=this.2 h1;omega
  ·exact this
 ·by_cases g:k=y
  ·subst g
   exact ⟨a0,ha,by simp [hay,hfa],hT⟩
  ·simp only [g,if_false] at h1 ⊢
   obtain ⟨a,b1,b2,b3⟩:=h.pre k hk h1
   have:¬a=y:=by rintro rfl;omega
   exact ⟨a,b1,by simp [this,b2],b3⟩
 ·have:=h.le k hk;split<;>omega
 ·by_cases e1:a=y
  ·simp only [e1,if_true] at h3;omega
  ·simp only [e1,if_false] at h2 h3 ⊢
   have:=h.closed a h1 h2 h3 k hk
   have e2:¬k=y:=by rintro rfl;omega
   simp only [e2,if_false];exact this
theorem Rnd.skip {T:List (List Int)} {p:Nat→Bool} {n d a0 C:Nat} {ag:Bool} {f:Nat→Int} (h:Rnd T p n d a0 C ag f) (ht:Tbl T n) (hx:f a0=d→∀k:Nat,(k:Int)∈T.getD a0 []→0≤f k):Rnd T p n d (a0+1) C ag f:=by
 refine ⟨h.ge,h.zero,h.pre,h.le,fun a h1 h2 h3 k hk=>?_,h.none,h.cnt,h.less⟩
 by_cases e:a=a0
 ·subst e
  rcases h3 with h3 | h3
  ·exact h.closed a h1 h2 (.inl h3) k hk
  ·have h4:=ht.row _ hk
   have h5:=h.le k (by omega)
   exact ⟨hx h3.1 k hk,by omega⟩
 ·refine h.closed a h1 h2 (h3.imp_right fun h4=>⟨h4.1,?_⟩) k hk
  omega
theorem ZjZ (T:List (List Int)) (p:Nat→Bool) (F:List Int) (n:Nat) (hn:n≤1000) (ht:Tbl T n) (hF:∀x∈F,0≤x∧x<n) (hp:∀k,k<n→(p k=true↔(k:Int)∈F)) (Q:List AV→Prop) :
  mc.C ZbB [⟨L (L I),T⟩,⟨L B,tab p n⟩] Q=Q [⟨L I,tab (dst T F) n⟩]:=by
 have hl:=ht.1
 refine Mc.Ends.c (mc.ends Zft ?_)
 simp+contextual(maxSteps:=1000000)(disch:=omega)only[↓Sd,↓So,↓Sk,↓den,↓Z0,Sa,Sb,Sc,Se,O1.d,O2.d,O3.d,cmI,arI,Z1,Z2,↓reduceIte,Nat.reduceLT,Nat.reduceSub,Nat.reduceAdd,Int.reduceAdd,Int.reduceEq,Int.reduceLT,Int.reduceLE,ZD,ZE,Zdy]
 refine mc.lp_for (List Int) (fun i o=>[⟨L (L I),T⟩,⟨L B,tab p n⟩,⟨I,(i:Int)⟩,⟨L I,o⟩]) (fun i o=>o=tab (fun k=>if p k=true then 0 else -1) i) n 0 [] _ rfl (Nat.zero_le _) rfl ?_ ?_
 ·rintro i o hi rfl
  simp+contextual(maxSteps:=1000000)(disch:=omega)only[↓Sd,↓So,↓Sk,↓den,↓Z0,Sa,Sb,Sc,Se,O1.d,O2.d,O3.d,cmI,arI,Z1,Z2,↓reduceIte,Nat.reduceLT,Nat.reduceSub,Nat.reduceAdd,Int.reduceAdd,Int.reduceEq,Int.reduceLT,Int.reduceLE,ZD,ZE,↓ZF,hl,ZK,ZL hi]
  refine ⟨fun g=>?_,fun g=>?_⟩
  ·rw [←ZiE];simp [g]
  ·rw [←ZiE];simp [g]
 rintro o rfl
 obtain ⟨f0,hf0⟩:∃f0:Nat→Int,(fun k=>if p k=true then (0:Int) else -1)=f0:=⟨_,rfl⟩
 have h0:∀k,(p k=true→f0 k=0)∧(¬p k=true→f0 k = -1):=fun k=>by rw [←hf0];exact ⟨fun g=>by simp [g],fun g=>by simp [g]⟩
 rw [hf0]
 clear hf0
 simp+contextual(maxSteps:=1000000)(disch:=omega)only[↓Sd,↓So,↓Sk,↓den,↓Z0,Sa,Sb,Sc,Se,O1.d,O2.d,O3.d,cmI,arI,Z1,Z2,↓reduceIte,Nat.reduceLT,Nat.reduceSub,Nat.reduceAdd,Int.reduceAdd,Int.reduceEq,Int.reduceLT,Int.reduceLE,ZD,ZE,hl]
 refine mc.lp_inv (fun j us=>∃(f:Nat→Int) (ag:Bool) (d:Nat),us=[⟨L (L I),T⟩,⟨B,ag⟩,⟨I,(d:Int)⟩,⟨L I,tab f n⟩]∧(∀k,k<n → -1≤f k)∧(∀k,k<n→(f k=0↔p k=true))∧(∀k,k<n→0<f k→∃a,a<n∧f a+1=f k∧(k:Int)∈T.getD a []) ∧
  (∀a,a<n→0≤f a→f a<d→∀k:Nat,(k:Int)∈T.getD a []→0≤f k∧f k≤f a+1)∧(∀k,k<n→f k≤d)∧(ag=false→∀k,k<n→f k<d)∧(ag=true→d+cntF (fun k=>decide (0≤f k)) n≤n) ∧
  j=if ag=true then cntF (fun k=>decide (0≤f k)) n+1 else 0) _ _ ⟨f0,true,0,rfl,fun k _=>?_,fun k _=>?_,fun k _ h=>?_,fun a _ h1 h2=>(by omega),fun k _=>?_,fun g=>(by cases g),fun _=>?_,rfl⟩ ?_
 ·have:=h0 k
  by_cases g:p k=true
  ·have:=this.1 g;omega
  ·have:=this.2 g;omega
 ·have:=h0 k
  by_cases g:p k=true
  ·simp [g,this.1 g]
  ·simp [g,this.2 g]
 ·have:=h0 k
  by_cases g:p k=true
  ·have:=this.1 g;omega
  ·have:=this.2 g;omega
 ·have:=h0 k
  by_cases g:p k=true
  ·have:=this.1 g;omega
  ·have:=this.2 g;omega
 ·have:cntF (fun k=>decide (0≤f0 k)) n≤n:=Zji
  omega
 rintro j us ⟨f,ag,d,rfl,i1,i2,i3,i4,i5,i6,i7,rfl⟩
 cases ag with
 | false =>
  simp+contextual(maxSteps:=1000000)(disch:=omega)only[↓Sd,↓So,↓Sk,↓den,↓Z0,Sa,Sb,Sc,Se,O1.d,O2.d,O3.d,cmI,arI,Z1,Z2,↓reduceIte,Nat.reduceLT,Nat.reduceSub,Nat.reduceAdd,Int.reduceAdd,Int.reduceEq,Int.reduceLT,Int.reduceLE,ZD,ZE,]
  exact ZS (IsDst.eq ht hF ⟨i1,fun k hk=>by rw [i2 k hk,hp k hk],i3,fun a ha h1 k hk=>i4 a ha h1 (i6 rfl a ha) k hk⟩)
 | true =>
  have i7:=i7 rfl
  simp+contextual(maxSteps:=1000000)(disch:=omega)only[↓Sd,↓So,↓Sk,↓den,↓Z0,Sa,Sb,Sc,Se,O1.d,O2.d,O3.d,cmI,arI,Z1,Z2,↓reduceIte,Nat.reduceLT,Nat.reduceSub,Nat.reduceAdd,Int.reduceAdd,Int.reduceEq,Int.reduceLT,Int.reduceLE,ZD,ZE,]
  generalize hC:cntF (fun k=>decide (0≤f k)) n=C at *
  refine mc.lp_for ((Nat→Int)×Bool) (fun a s=>[⟨L (L I),T⟩,⟨B,s.2⟩,⟨I,(d:Int)⟩,⟨I,(a:Int)⟩,⟨L I,tab s.1 n⟩]) (fun a s=>Rnd T p n d a C s.2 s.1) n 0 (f,false) _ rfl (Nat.zero_le _)
   ⟨i1,i2,i3,fun k hk=>Int.le_trans (i5 k hk) (by omega),fun a ha h1 h2 k hk=>i4 a ha h1 (h2.elim id fun h=>by omega) k hk,fun _=>i5,by rw [hC];exact Nat.le_refl _,fun g=>(by cases g)⟩ ?_ ?_
  ·rintro a0 ⟨f1,ag1⟩ ha0 hR
   simp only at hR
   obtain ⟨row,hr⟩:∃row,T.getD a0 []=row:=⟨_,rfl⟩
   have hrow:=ht.row (i:=a0)
   have hrl:(T.getD a0 []).length≤1048576:=(ht.2 _ (ZH (by omega))).1
   rw [hr] at hrow hrl
   simp+contextual(maxSteps:=1000000)(disch:=omega)only[↓Sd,↓So,↓Sk,↓den,↓Z0,Sa,Sb,Sc,Se,O1.d,O2.d,O3.d,cmI,arI,Z1,Z2,↓reduceIte,Nat.reduceLT,Nat.reduceSub,Nat.reduceAdd,Int.reduceAdd,Int.reduceEq,Int.reduceLT,Int.reduceLE,ZD,ZE,hl]
   refine mc.lp_for ((Nat→Int)×Bool) (fun i s=>[⟨L (L I),T⟩,⟨B,s.2⟩,⟨I,(d:Int)⟩,⟨I,(a0:Int)⟩,⟨I,(i:Int)⟩,⟨L I,tab s.1 n⟩]) (fun i s=>Rnd T p n d a0 C s.2 s.1∧∀k:Nat,(k:Int)∈row.take i→s.1 a0=d→0≤s.1 k) row.length 0 (f1,ag1) _ rfl (Nat.zero_le _) ⟨hR,by simp⟩ ?_ ?_
   ·rintro i ⟨f2,ag2⟩ hi ⟨b1,b2⟩
    simp only at b1 b2
    have hy:=hrow _ (ZH (d:=0) hi)
    obtain ⟨y,hy2⟩:∃y:Nat,row.getD i 0=y:=⟨(row.getD i 0).toNat,by omega⟩
    have hyn:y<n:=by omega
    have hwr:IntKind.i64.wrap ((d:Int)+1)=(d:Int)+1:=Za_ (by omega) (by omega)
    simp+contextual(maxSteps:=1000000)(disch:=omega)only[↓Sd,↓So,↓Sk,↓den,↓Z0,Sa,Sb,Sc,Se,O1.d,O2.d,O3.d,cmI,arI,Z1,Z2,↓reduceIte,Nat.reduceLT,Nat.reduceSub,Nat.reduceAdd,Int.reduceAdd,Int.reduceEq,Int.reduceLT,Int.reduceLE,ZD,ZE,↓ZF,hl,hr,hy2,ZK,ZL hyn,ZL ha0,Int.toNat_natCast,ZiX,hwr]
    refine ⟨fun g=>⟨fun g2=>?_,fun g2=>?_⟩,fun g=>?_⟩
    ·have hv:=b1.visit ha0 g hyn g2 (by rw [hr,←hy2];exact ZH hi)
     refine ⟨(fun k=>if k=y then (d:Int)+1 else f2 k,true),⟨rfl,rfl⟩,hv,fun k hk h3=>?_⟩
     simp only []
     split
     ·omega
     ·rename_i hky
      rcases (ZU hi).1 hk with h | h
      ·exact b2 k h g
      ·exact absurd (by omega) hky
    ·refine ⟨(f2,ag2),⟨rfl,rfl⟩,b1,fun k hk h3=>?_⟩
     rcases (ZU hi).1 hk with h | h
     ·exact b2 k h h3
     ·rw [show k=y by omega];simp only [];omega
    ·exact ⟨(f2,ag2),⟨rfl,rfl⟩,b1.skip ht fun h=>absurd h g⟩
   ·rintro ⟨f2,ag2⟩ ⟨b1,b2⟩
    rw [List.take_length] at b2
    simp only at b1 b2
    simp+contextual(maxSteps:=1000000)(disch:=omega)only[↓Sd,↓So,↓Sk,↓den,↓Z0,Sa,Sb,Sc,Se,O1.d,O2.d,O3.d,cmI,arI,Z1,Z2,↓reduceIte,Nat.reduceLT,Nat.reduceSub,Nat.reduceAdd,Int.reduceAdd,Int.reduceEq,Int.reduceLT,Int.reduceLE,ZD,ZE,hl,hr]
    exact ⟨(f2,ag2),⟨rfl,rfl⟩,b1.skip ht fun h k hk=>b2 k (by rw [←hr];exact hk) h⟩
  ·rintro ⟨f1,ag1⟩ hR
   simp only at hR
   have hwr:IntKind.i64.wrap ((d:Int)+1)=(d:Int)+1:=Za_ (by omega) (by omega)
   simp+contextual(maxSteps:=1000000)(disch:=omega)only[↓Sd,↓So,↓Sk,↓den,↓Z0,Sa,Sb,Sc,Se,O1.d,O2.d,O3.d,cmI,arI,Z1,Z2,↓reduceIte,Nat.reduceLT,Nat.reduceSub,Nat.reduceAdd,Int.reduceAdd,Int.reduceEq,Int.reduceLT,Int.reduceLE,ZD,ZE,hl,hwr]
   have hcnt:=hR.cnt
   refine ⟨_,?_,f1,ag1,d+1,⟨rfl,by rw [Int.natCast_add];rfl,rfl⟩,hR.ge,hR.zero,hR.pre,fun a ha h1 h2 k hk=>hR.closed a ha h1 ?_ k hk,fun k hk=>?_,fun g k hk=>?_,fun g=>?_,rfl⟩
   ·cases ag1 with
    | true=>have:=hR.less rfl;simp only [if_true];omega
    | false=>simp
   ·by_cases g:f1 a<d
    ·exact .inl g
    ·exact .inr ⟨by omega,ha⟩
   ·have:=hR.le k hk;omega
   ·have:=hR.none g k hk;omega
   ·have:=hR.less g;omega
theorem Rch.trans {T:List (List Int)} {a b c:Nat} (h:Rch T [(a:Int)] b) (h2:Rch T [(b:Int)] c):Rch T [(a:Int)] c:=by
 induction h2 with
 | base h3=>simp only [List.mem_singleton] at h3;have h3:=Int.ofNat_inj.1 h3;subst h3;exact h
 | step _ h3 ih=>exact .step ih h3
theorem Rch.one {T:List (List Int)} {a:Nat}:Rch T [(a:Int)] a:=.base (by simp)
def Rev (T U:List (List Int)) (n:Nat):Prop:=∀k a:Nat,k<n→((a:Int)∈U.getD k []↔a<n∧(k:Int)∈T.getD a [])
theorem Zj_ {T U:List (List Int)} {n i k:Nat} (hu:Tbl U n) (ht:Tbl T n) (hr:Rev T U n) (hi:i<n) (hk:k<n):Rch U [(i:Int)] k↔Rch T [(k:Int)] i:=by
 constructor
 ·intro h
  have key:∀k,Rch U [(i:Int)] k→k<n∧Rch T [(k:Int)] i:=by
   intro k h
   induction h with
   | base h1=>simp only [List.mem_singleton] at h1;have h1:=Int.ofNat_inj.1 h1;subst h1;exact ⟨hi,.one⟩
   | step _ h1 ih =>
    obtain ⟨h2,h3⟩:=(hr _ _ ih.1).1 h1
    exact ⟨h2,Rch.trans (.step .one h3) ih.2⟩
  exact (key k h).2
 ·intro h
  have key:∀i,Rch T [(k:Int)] i→i<n∧Rch U [(i:Int)] k:=by
   intro i h
   induction h with
   | base h1=>simp only [List.mem_singleton] at h1;have h1:=Int.ofNat_inj.1 h1;subst h1;exact ⟨hk,.one⟩
   | step _ h1 ih =>
    have h2:=ht.row _ h1
    have h3:=(hr _ _ (by omega)).2 ⟨ih.1,h1⟩
    exact ⟨by omega,Rch.trans (.step .one h3) ih.2⟩
  exact (key i h).2
theorem Zk0 {T:List (List Int)} {n:Nat}:Rev T (ZjE T n) n:=fun k a hk=>ZjG hk
def eqv (T:List (List Int)) (i k:Nat):Prop:=Rch T [(i:Int)] k∧Rch T [(k:Int)] i
noncomputable def cmp (T:List (List Int)):Nat→Nat→Int
 | 0,_ => -1
 | i+1,k=>if 0≤cmp T i k then cmp T i k else if dB (eqv T i k)=true then (i:Int) else -1
theorem Zk1 {T:List (List Int)}:∀{i k:Nat},(0≤cmp T i k↔∃m,m<i∧eqv T m k) ∧ -1≤cmp T i k
 | 0,k=>⟨⟨fun h=>by simp [cmp] at h,fun ⟨m,h,_⟩=>absurd h (Nat.not_lt_zero _)⟩,by simp [cmp]⟩
 | i+1,k=>by
  have ih:=@Zk1 T i k
  unfold cmp
  by_cases g:0≤cmp T i k
  ·rw [if_pos g]
   obtain ⟨m,h1,h2⟩:=ih.1.1 g
   exact ⟨⟨fun _=>⟨m,by omega,h2⟩,fun _=>g⟩,by omega⟩
  ·rw [if_neg g]
   by_cases g2:eqv T i k
   ·rw [if_pos (ZQ g2)]
    exact ⟨⟨fun _=>⟨i,by omega,g2⟩,fun _=>by omega⟩,by omega⟩
   ·rw [if_neg (by rw [ZR g2];simp)]
    refine ⟨⟨fun h=>by omega,fun ⟨m,h1,h2⟩=>?_⟩,by omega⟩
    by_cases e:m=i
    ·subst e;exact absurd h2 g2
    ·exact absurd (ih.1.2 ⟨m,by omega,h2⟩) g
theorem Zk2 {T:List (List Int)} {i k:Nat} (h:0≤cmp T i i):cmp T (i+1) k=cmp T i k:=by
 have h1:=@Zk1 T i k
 rw [cmp]
 by_cases g:0≤cmp T i k
 ·rw [if_pos g]
 ·rw [if_neg g,if_neg]
  ·have h2:=h1.2
   omega
  ·intro h2
   have h2:=ZiV.1 h2
   obtain ⟨m,h3,h4⟩:=Zk1.1.1 h
   exact g (h1.1.2 ⟨m,h3,h4.1.trans h2.1,h2.2.trans h4.2⟩)
theorem Zk3 {T:List (List Int)} {i k:Nat} (h:¬0≤cmp T i i):cmp T (i+1) k=if dB (eqv T i k)=true then (i:Int) else cmp T i k:=by
 have h1:=@Zk1 T i k
 rw [cmp]
 by_cases g2:eqv T i k
 ·rw [if_pos (ZQ g2),if_pos (ZQ g2),if_neg]
  intro g
  obtain ⟨m,h3,h4⟩:=h1.1.1 g
  exact h (Zk1.1.2 ⟨m,h3,h4.1.trans g2.2,g2.1.trans h4.2⟩)
 ·have e:¬dB (eqv T i k)=true:=by rw [ZR g2];simp
  rw [if_neg e,if_neg e]
  have h2:=h1.2
  split
  ·rfl
  ·omega
theorem Zk4 {T:List (List Int)} {i k:Nat} (h:eqv T i k):eqv T k i:=⟨h.2,h.1⟩
theorem Zk5 {T:List (List Int)} {n i j:Nat} (h:¬0≤cmp T i i) (g:eqv T i j) :
  tab (fun k=>if k=j then (i:Int) else if k<j then cmp T (i+1) k else cmp T i k) n=tab (fun k=>if k<j+1 then cmp T (i+1) k else cmp T i k) n:=by
 refine ZS fun k _=>?_
 by_cases e:k=j
 ·subst e
  rw [if_pos rfl,if_pos (by omega),Zk3 h,if_pos (ZQ g)]
 ·rw [if_neg e]
  by_cases e2:k<j
  ·rw [if_pos e2,if_pos (by omega)]
  ·rw [if_neg e2,if_neg (by omega)]
theorem Zk6 {T:List (List Int)} {n i j:Nat} (h:¬0≤cmp T i i) (g:¬eqv T i j) :
  tab (fun k=>if k<j then cmp T (i+1) k else cmp T i k) n=tab (fun k=>if k<j+1 then cmp T (i+1) k else cmp T i k) n:=by
 refine ZS fun k _=>?_
 by_cases e:k=j
 ·subst e
  have:¬dB (eqv T i k)=true:=by rw [ZR g];simp
  rw [if_neg (by omega),if_pos (by omega),Zk3 h,if_neg this]
 ·by_cases e2:k<j
  ·rw [if_pos e2,if_pos (by omega)]
  ·rw [if_neg e2,if_neg (by omega)]
theorem Zk7 {T:List (List Int)} {n i:Nat} (h:¬0≤cmp T i i):tab (cmp T i) n=tab (fun k=>if k<i then cmp T (i+1) k else cmp T i k) n:=by
 refine ZS fun k _=>?_
 split
 ·rename_i g
  have:¬dB (eqv T i k)=true:=fun g2=>h (Zk1.1.2 ⟨k,g,Zk4 (ZiV.1 g2)⟩)
  rw [Zk3 h,if_neg this]
 ·rfl
theorem Zk8 {T:List (List Int)} {n i:Nat}:tab (fun k=>if k<n then cmp T (i+1) k else cmp T i k) n=tab (cmp T (i+1)) n:=ZS fun k hk=>if_pos hk
theorem Zk9 (T:List (List Int)) (n:Nat) (ht:Tb8 T n) (Q:List AV→Prop):mc.C ZbC [⟨L (L I),T⟩] Q=Q [⟨L I,tab (cmp T n) n⟩]:=by
 have hl:=ht.1.1
 have hn:=ht.2.1
 have htt:=ZjF (T:=T) (n:=n) (by omega)
 refine Mc.Ends.c (mc.ends Zfu ?_)
 simp+contextual(maxSteps:=1000000)(disch:=omega)only[↓Sd,↓So,↓Sk,↓den,↓Z0,Sa,Sb,Sc,Se,O1.d,O2.d,O3.d,cmI,arI,Z1,Z2,↓reduceIte,Nat.reduceLT,Nat.reduceSub,Nat.reduceAdd,Int.reduceAdd,Int.reduceEq,Int.reduceLT,Int.reduceLE,ZD,ZE,Zdz,ZjI T n (by omega) ht.1]
 refine mc.lp_for (List Int) (fun i o=>[⟨L (L I),T⟩,⟨I,(i:Int)⟩,⟨L (L I),ZjE T n⟩,⟨L I,o⟩]) (fun i o=>o=tab (fun _ => -1) i) n 0 [] _ rfl (Nat.zero_le _) rfl ?_ ?_
 ·rintro i o hi rfl
  simp+contextual(maxSteps:=1000000)(disch:=omega)only[↓Sd,↓So,↓Sk,↓den,↓Z0,Sa,Sb,Sc,Se,O1.d,O2.d,O3.d,cmI,arI,Z1,Z2,↓reduceIte,Nat.reduceLT,Nat.reduceSub,Nat.reduceAdd,Int.reduceAdd,Int.reduceEq,Int.reduceLT,Int.reduceLE,ZD,ZE,hl,ZK]
  exact ZiE
 rintro o rfl
 simp+contextual(maxSteps:=1000000)(disch:=omega)only[↓Sd,↓So,↓Sk,↓den,↓Z0,Sa,Sb,Sc,Se,O1.d,O2.d,O3.d,cmI,arI,Z1,Z2,↓reduceIte,Nat.reduceLT,Nat.reduceSub,Nat.reduceAdd,Int.reduceAdd,Int.reduceEq,Int.reduceLT,Int.reduceLE,ZD,ZE,hl]
 refine mc.lp_for (List Int) (fun i o=>[⟨L (L I),T⟩,⟨I,(i:Int)⟩,⟨L (L I),ZjE T n⟩,⟨L I,o⟩]) (fun i o=>o=tab (cmp T i) n) n 0 (tab (fun _ => -1) n) _ rfl (Nat.zero_le _) rfl ?_ ?_
 ·rintro i o hi rfl
  have hF:∀x∈[(i:Int)],0≤x∧x<n:=by intro x hx;simp only [List.mem_singleton] at hx;omega
  simp+contextual(maxSteps:=1000000)(disch:=omega)only[↓Sd,↓So,↓Sk,↓den,↓Z0,Sa,Sb,Sc,Se,O1.d,O2.d,O3.d,cmI,arI,Z1,Z2,↓reduceIte,Nat.reduceLT,Nat.reduceSub,Nat.reduceAdd,Int.reduceAdd,Int.reduceEq,Int.reduceLT,Int.reduceLE,ZD,ZE,↓ZF,ZK,ZL hi]
  refine ⟨fun g=>?_,fun g=>?_⟩
  ·have g':¬0≤cmp T i i:=fun h=>absurd g (by show ¬cmp T i i<0;omega)
   simp+contextual(maxSteps:=1000000)(disch:=omega)only[↓Sd,↓So,↓Sk,↓den,↓Z0,Sa,Sb,Sc,Se,O1.d,O2.d,O3.d,cmI,arI,Z1,Z2,↓reduceIte,Nat.reduceLT,Nat.reduceSub,Nat.reduceAdd,Int.reduceAdd,Int.reduceEq,Int.reduceLT,Int.reduceLE,ZD,ZE,hl,Zj4 [(i:Int)] n (by omega) (by simp) hF,ZjZ T _ [(i:Int)] n (by omega) ht.1 hF (fun k _=>ZiV),ZjZ (ZjE T n) _ [(i:Int)] n (by omega) htt hF (fun k _=>ZiV)]
   refine mc.lp_for (List Int) (fun j o=>[⟨L (L I),T⟩,⟨I,(i:Int)⟩,⟨I,(j:Int)⟩,⟨L (L I),ZjE T n⟩,⟨L I,o⟩,⟨L I,tab (dst T [(i:Int)]) n⟩,⟨L I,tab (dst (ZjE T n) [(i:Int)]) n⟩])
    (fun j o=>o=tab (fun k=>if k<j then cmp T (i+1) k else cmp T i k) n) n i (tab (cmp T i) n) _ rfl (by omega) (Zk7 g') ?_ ?_
   ·rintro j o hj rfl
    have e1:0≤dst (ZjE T n) [(i:Int)] j↔Rch T [(j:Int)] i:=dst_rch.trans (Zj_ htt ht.1 Zk0 hi hj)
    have e2:0≤dst T [(i:Int)] j↔Rch T [(i:Int)] j:=dst_rch
    simp+contextual(maxSteps:=1000000)(disch:=omega)only[↓Sd,↓So,↓Sk,↓den,↓Z0,Sa,Sb,Sc,Se,O1.d,O2.d,O3.d,cmI,arI,Z1,Z2,↓reduceIte,Nat.reduceLT,Nat.reduceSub,Nat.reduceAdd,Int.reduceAdd,Int.reduceEq,Int.reduceLT,Int.reduceLE,ZD,ZE,↓ZF,ZK,hl,ZL hj,ZiX]
    exact ⟨fun g1=>⟨fun g2=>Zk5 g' ⟨e2.1 g1,e1.1 g2⟩,fun g2=>Zk6 g' fun h=>g2 (e1.2 h.2)⟩,fun g1=>Zk6 g' fun h=>g1 (e2.2 h.1)⟩
   ·rintro o rfl
    rw [Zk8]
    simp+contextual(maxSteps:=1000000)(disch:=omega)only[↓Sd,↓So,↓Sk,↓den,↓Z0,Sa,Sb,Sc,Se,O1.d,O2.d,O3.d,cmI,arI,Z1,Z2,↓reduceIte,Nat.reduceLT,Nat.reduceSub,Nat.reduceAdd,Int.reduceAdd,Int.reduceEq,Int.reduceLT,Int.reduceLE,ZD,ZE,hl]
  ·have g':0≤cmp T i i:=Int.not_lt.1 g
   exact ZS fun k _=>(Zk2 (k:=k) g').symm
 ·rintro o rfl
  simp+contextual(maxSteps:=1000000)(disch:=omega)only[↓Sd,↓So,↓Sk,↓den,↓Z0,Sa,Sb,Sc,Se,O1.d,O2.d,O3.d,cmI,arI,Z1,Z2,↓reduceIte,Nat.reduceLT,Nat.reduceSub,Nat.reduceAdd,Int.reduceAdd,Int.reduceEq,Int.reduceLT,Int.reduceLE,ZD,ZE,hl]
def Zka (l:List Int) (M:Int):Prop:=M∈l∧∀x∈l,x≤M
theorem Zka.eq {l:List Int} {M N:Int} (h:Zka l M) (h2:Zka l N):M=N:=Int.le_antisymm (h2.2 _ h.1) (h.2 _ h2.1)
noncomputable def layB (T:List (List Int)) (F:List Int) (d k:Nat):Bool:=dB (Lay T F d k)
theorem Zkb {T:List (List Int)} {F:List Int} {d k:Nat}:Lay T F d k↔0≤dst T F k∧dst T F k≤d:=by
 unfold dst
 constructor
 ·intro h
  have hh:∃d,Lay T F d k:=⟨d,h⟩
  rw [dif_pos hh]
  obtain ⟨b1,b2⟩:=Classical.choose_spec (least hh)
  generalize Classical.choose (least hh)=e at b1 b2
  have:¬d<e:=fun g=>b2 d g h
  omega
 ·rintro ⟨h1,h2⟩
  by_cases g:∃d,Lay T F d k
  ·rw [dif_pos g] at h1 h2
   obtain ⟨b1,-⟩:=Classical.choose_spec (least g)
   generalize Classical.choose (least g)=e at b1 h1 h2
   exact b1.up (by omega)
  ·rw [dif_neg g] at h1;omega
theorem Zkc {p q:Nat→Bool} {n:Nat} (h:(ZN p n).length<(ZN q n).length):∃k,k<n∧q k=true∧¬p k=true:=by
 by_cases g:∃k,k<n∧q k=true∧¬p k=true
 ·exact g
 ·have:=(Zjb (p:=q) (q:=p) (n:=n) fun k hk hq=>by
   by_cases e:p k=true
   ·exact e
   ·exact absurd ⟨k,hk,hq,e⟩ g).1
  omega
abbrev RD:Ty:=P (L U) I
def Byt (b:List Int):Prop:=∀x∈b,0≤x∧x≤255
def Rdy (b:List Int):Prop:=Byt b∧b.length≤2000
theorem Byt.get {b:List Int} (h:Byt b) (i:Nat):0≤b.getD i 0∧b.getD i 0≤255:=by
 by_cases hi:i<b.length
 ·exact h _ (ZH hi)
 ·rw [List.getD_eq_getElem?_getD,List.getElem?_eq_none (by omega)];simp
theorem Zkd {x y:Int} (hx:0≤x∧x<1099511627776) (hy:0≤y∧y<1099511627776):0≤IntKind.i64.wrap ((BitVec.ofInt IntKind.i64.bits x ^^^ BitVec.ofInt IntKind.i64.bits y).toNat:Int):=by
 have e:∀z:Int,0≤z∧z<1099511627776→(BitVec.ofInt IntKind.i64.bits z).toNat<2 ^ 40:=by
  intro z hz
  rw [BitVec.toNat_ofInt]
  show Int.toNat (z % (2:Int) ^ 64)<2 ^ 40
  omega
 have h:(BitVec.ofInt IntKind.i64.bits x ^^^ BitVec.ofInt IntKind.i64.bits y).toNat<2 ^ 40:=by
  rw [BitVec.toNat_xor]
  exact Nat.xor_lt_two_pow (e x hx) (e y hy)
 rw [Za_ (by omega) (by omega)]
 omega
theorem Zke (b:List Int) (p n:Int) (hb:Rdy b) (hp:0≤p∧p≤1000000000) {Q:List AV→Prop} (h:∀v:Int,0≤v→(1≤n→v<n)→Q [⟨I,v⟩,⟨RD,(b,p+1)⟩]):mc.C ZG [⟨RD,(b,p)⟩,⟨I,n⟩] Q:=by
 refine mc.c_of Zgg ?_
 have hl:=hb.2
 simp+contextual(maxSteps:=1000000)(disch:=omega)only[↓Sd,↓So,↓Sk,↓den,↓Z0,Sa,Sb,Sc,Se,O1.d,O2.d,O3.d,cmI,arI,Z1,Z2,↓reduceIte,Nat.reduceLT,Nat.reduceSub,Nat.reduceAdd,Int.reduceAdd,Int.reduceEq,Int.reduceLT,Int.reduceLE,ZD,ZE,Zel]
 refine ⟨fun g=>h 0 (by omega) (by omega),fun g=>⟨fun g2=>h 0 (by omega) (by omega),fun g2=>?_⟩⟩
 have hn:1≤n:=by omega
 have hlb:0<(b.length:Int):=by omega
 refine ⟨fun g3=>?_,fun g3=>?_⟩
 ·have h1:=hb.1.get p.toNat
  rw [Za_ (by omega) (by omega),Int.tmod_eq_emod_of_nonneg h1.1]
  exact h _ (Int.emod_nonneg _ (by omega)) fun _=>Int.emod_lt_of_pos _ (by omega)
 ·have a1:=Int.emod_nonneg p (show (b.length:Int)≠0 by omega)
  have a2:=Int.emod_lt_of_pos p hlb
  have a3:=Int.emod_nonneg (p * 7+3) (show (b.length:Int)≠0 by omega)
  have a4:=Int.emod_lt_of_pos (p * 7+3) hlb
  have a5:=Int.ediv_nonneg hp.1 (Int.le_of_lt hlb)
  have a6:=Int.ediv_le_self (b.length:Int) hp.1
  have h1:=hb.1.get (p % (b.length:Int)).toNat
  have h2:=hb.1.get ((p * 7+3) % (b.length:Int)).toNat
  refine ⟨a1,a2,a3,a4,?_⟩
  generalize b.getD (p % (b.length:Int)).toNat 0=x1 at *
  generalize b.getD ((p * 7+3) % (b.length:Int)).toNat 0=x2 at *
  generalize p / (b.length:Int)=x3 at *
  rw [Za_ (x:=x1) (by omega) (by omega),Za_ (x:=x2) (by omega) (by omega),Za_ (x:=x3) (by omega) (by omega),Za_ (x:=x1 * 131) (by omega) (by omega),Za_ (x:=x2 * 1117) (by omega) (by omega),Za_ (x:=x1 * 131+x2 * 1117) (by omega) (by omega),Za_ (x:=x1 * 131+x2 * 1117+p * 29) (by omega) (by omega),Za_ (x:=x3 * 53) (by omega) (by omega),Za_ (x:=x1 * 131+x2 * 1117+p * 29+x3 * 53) (by omega) (by omega)]
  obtain ⟨y,hy⟩:∃y,x1 * 131+x2 * 1117+p * 29+x3 * 53=y:=⟨_,rfl⟩
  have hyb:0≤y∧y<1099511627776:=by omega
  rw [hy,Int.tdiv_eq_ediv_of_nonneg hyb.1,Za_ (x:=y / 64) (by omega) (by omega)]
  have h4:=Zkd hyb (y:=y / 64) (by omega)
  rw [Int.tmod_eq_emod_of_nonneg h4]
  exact h _ (Int.emod_nonneg _ (by omega)) fun _=>Int.emod_lt_of_pos _ (by omega)
theorem ZV (b:List Int) (p n:Int) (hb:Rdy b) (hp:0≤p∧p≤1000000000) (hn:1≤n) {Q:List AV→Prop} (h:∀v:Int,0≤v→v<n→Q [⟨I,v⟩,⟨RD,(b,p+1)⟩]):mc.C ZG [⟨RD,(b,p)⟩,⟨I,n⟩] Q:=Zke b p n hb hp fun v h0 h1=>h v h0 (h1 hn)
theorem Zkf (b:List Int) (p:Int) (l:List Int) (hb:Rdy b) (hp:0≤p∧p≤1000000000) (hl:l≠[]) (hl2:l.length≤1048576) {Q:List AV→Prop} (h:∀v:Int,v∈l→Q [⟨I,v⟩,⟨RD,(b,p+1)⟩]):mc.C Zco [⟨RD,(b,p)⟩,⟨L I,l⟩] Q:=by
 have hl1:0<l.length:=List.length_pos_iff.2 hl
 refine mc.c_of Zgh ?_
 simp+contextual(maxSteps:=1000000)(disch:=omega)only[↓Sd,↓So,↓Sk,↓den,↓Z0,Sa,Sb,Sc,Se,O1.d,O2.d,O3.d,cmI,arI,Z1,Z2,↓reduceIte,Nat.reduceLT,Nat.reduceSub,Nat.reduceAdd,Int.reduceAdd,Int.reduceEq,Int.reduceLT,Int.reduceLE,ZD,ZE,Zem]
 refine ZV b p _ hb hp (by omega) fun v h0 h1=>?_
 simp+contextual(maxSteps:=1000000)(disch:=omega)only[↓Sd,↓So,↓Sk,↓den,↓Z0,Sa,Sb,Sc,Se,O1.d,O2.d,O3.d,cmI,arI,Z1,Z2,↓reduceIte,Nat.reduceLT,Nat.reduceSub,Nat.reduceAdd,Int.reduceAdd,Int.reduceEq,Int.reduceLT,Int.reduceLE,ZD,ZE,]
 exact h _ (ZH (by omega))
theorem Zkg (b:List Int) (hb:Byt b) (hl:ZgU b) {Q:List AV→Prop} (h:∀b',Rdy b'→Q [⟨RD,(b',0)⟩]):mc.C Zcn [⟨L U,b⟩] Q:=by
 unfold ZgU at hl
 refine mc.c_of Zgf ?_
 simp+contextual(maxSteps:=1000000)(disch:=omega)only[↓Sd,↓So,↓Sk,↓den,↓Z0,Sa,Sb,Sc,Se,O1.d,O2.d,O3.d,cmI,arI,Z1,Z2,↓reduceIte,Nat.reduceLT,Nat.reduceSub,Nat.reduceAdd,Int.reduceAdd,Int.reduceEq,Int.reduceLT,Int.reduceLE,ZD,ZE,↓ZF,Zek]
 refine ⟨fun g=>?_,fun g=>h b ⟨hb,by omega⟩⟩
 refine h _ ⟨fun x hx=>hb x ?_,?_⟩
 ·exact List.mem_of_mem_take hx
 ·rw [List.length_take];omega
theorem Zkh (b:List Int) (p:Int) (hb:Rdy b) (hp:0≤p∧p≤900000000) {Q:List AV→Prop} (h:∀v p':Int,p≤p'∧p'≤p+6→Q [⟨I,v⟩,⟨RD,(b,p')⟩]):mc.C Zcw [⟨RD,(b,p)⟩] Q:=by
 refine mc.c_of Zgp ?_
 simp+contextual(maxSteps:=1000000)(disch:=omega)only[↓Sd,↓So,↓Sk,↓den,↓Z0,Sa,Sb,Sc,Se,O1.d,O2.d,O3.d,cmI,arI,Z1,Z2,↓reduceIte,Nat.reduceLT,Nat.reduceSub,Nat.reduceAdd,Int.reduceAdd,Int.reduceEq,Int.reduceLT,Int.reduceLE,ZD,ZE,Zeu]
 refine ZV _ _ _ hb (by omega) (by omega) fun v1 v10 v11=>?_;simp+contextual(maxSteps:=1000000)(disch:=omega)only[↓Sd,↓So,↓Sk,↓den,↓Z0,Sa,Sb,Sc,Se,O1.d,O2.d,O3.d,cmI,arI,Z1,Z2,↓reduceIte,Nat.reduceLT,Nat.reduceSub,Nat.reduceAdd,Int.reduceAdd,Int.reduceEq,Int.reduceLT,Int.reduceLE,ZD,ZE,]
 refine ZV _ _ _ hb (by omega) (by omega) fun v2 v20 v21=>?_;simp+contextual(maxSteps:=1000000)(disch:=omega)only[↓Sd,↓So,↓Sk,↓den,↓Z0,Sa,Sb,Sc,Se,O1.d,O2.d,O3.d,cmI,arI,Z1,Z2,↓reduceIte,Nat.reduceLT,Nat.reduceSub,Nat.reduceAdd,Int.reduceAdd,Int.reduceEq,Int.reduceLT,Int.reduceLE,ZD,ZE,]
 refine ZV _ _ _ hb (by omega) (by omega) fun v3 v30 v31=>?_;simp+contextual(maxSteps:=1000000)(disch:=omega)only[↓Sd,↓So,↓Sk,↓den,↓Z0,Sa,Sb,Sc,Se,O1.d,O2.d,O3.d,cmI,arI,Z1,Z2,↓reduceIte,Nat.reduceLT,Nat.reduceSub,Nat.reduceAdd,Int.reduceAdd,Int.reduceEq,Int.reduceLT,Int.reduceLE,ZD,ZE,]
 refine ZV _ _ _ hb (by omega) (by omega) fun v4 v40 v41=>?_;simp+contextual(maxSteps:=1000000)(disch:=omega)only[↓Sd,↓So,↓Sk,↓den,↓Z0,Sa,Sb,Sc,Se,O1.d,O2.d,O3.d,cmI,arI,Z1,Z2,↓reduceIte,Nat.reduceLT,Nat.reduceSub,Nat.reduceAdd,Int.reduceAdd,Int.reduceEq,Int.reduceLT,Int.reduceLE,ZD,ZE,]
 refine ZV _ _ _ hb (by omega) (by omega) fun v5 v50 v51=>?_;simp+contextual(maxSteps:=1000000)(disch:=omega)only[↓Sd,↓So,↓Sk,↓den,↓Z0,Sa,Sb,Sc,Se,O1.d,O2.d,O3.d,cmI,arI,Z1,Z2,↓reduceIte,Nat.reduceLT,Nat.reduceSub,Nat.reduceAdd,Int.reduceAdd,Int.reduceEq,Int.reduceLT,Int.reduceLE,ZD,ZE,]
 refine Zkf _ _ _ hb (by omega) (by simp) (by simp) fun v v0=>?_;simp+contextual(maxSteps:=1000000)(disch:=omega)only[↓Sd,↓So,↓Sk,↓den,↓Z0,Sa,Sb,Sc,Se,O1.d,O2.d,O3.d,cmI,arI,Z1,Z2,↓reduceIte,Nat.reduceLT,Nat.reduceSub,Nat.reduceAdd,Int.reduceAdd,Int.reduceEq,Int.reduceLT,Int.reduceLE,ZD,ZE,]
 exact h v _ (by omega)
theorem Zki (b:List Int) (p:Int) (ks:List Int) (kind:Int) (hb:Rdy b) (hp:0≤p∧p≤900000000) (hk:0<ks.length) (hk2:ks.length≤1000) {Q:List AV→Prop} (h:∀v:Int,-1≤v∧v<ks.length→Q [⟨I,v⟩,⟨RD,(b,p+1)⟩]):mc.C Zcx [⟨RD,(b,p)⟩,⟨L I,ks⟩,⟨I,kind⟩] Q:=by
 refine mc.c_of Zgq ?_
 simp+contextual(maxSteps:=1000000)(disch:=omega)only[↓Sd,↓So,↓Sk,↓den,↓Z0,Sa,Sb,Sc,Se,O1.d,O2.d,O3.d,cmI,arI,Z1,Z2,↓reduceIte,Nat.reduceLT,Nat.reduceSub,Nat.reduceAdd,Int.reduceAdd,Int.reduceEq,Int.reduceLT,Int.reduceLE,ZD,ZE,Zev]
 refine ZV _ _ _ hb (by omega) (by omega) fun a a0 a1=>?_;simp+contextual(maxSteps:=1000000)(disch:=omega)only[↓Sd,↓So,↓Sk,↓den,↓Z0,Sa,Sb,Sc,Se,O1.d,O2.d,O3.d,cmI,arI,Z1,Z2,↓reduceIte,Nat.reduceLT,Nat.reduceSub,Nat.reduceAdd,Int.reduceAdd,Int.reduceEq,Int.reduceLT,Int.reduceLE,ZD,ZE,]
 refine mc.lp_for Unit (fun i _=>[⟨L I,ks⟩,⟨I,kind⟩,⟨I,a⟩,⟨I,(i:Int)⟩,⟨L U,b⟩,⟨I,p+1⟩]) (fun _ _=>True) ks.length 0 () _ rfl (Nat.zero_le _) trivial ?_ ?_
 ·rintro i - hi -
  have a1:=Int.emod_nonneg (a+(i:Int)) (show (ks.length:Int)≠0 by omega)
  have a2:=Int.emod_lt_of_pos (a+(i:Int)) (show 0<(ks.length:Int) by omega)
  simp+contextual(maxSteps:=1000000)(disch:=omega)only[↓Sd,↓So,↓Sk,↓den,↓Z0,Sa,Sb,Sc,Se,O1.d,O2.d,O3.d,cmI,arI,Z1,Z2,↓reduceIte,Nat.reduceLT,Nat.reduceSub,Nat.reduceAdd,Int.reduceAdd,Int.reduceEq,Int.reduceLT,Int.reduceLE,ZD,ZE,]
  exact fun _=>h _ (by omega)
 ·rintro - -
  simp+contextual(maxSteps:=1000000)(disch:=omega)only[↓Sd,↓So,↓Sk,↓den,↓Z0,Sa,Sb,Sc,Se,O1.d,O2.d,O3.d,cmI,arI,Z1,Z2,↓reduceIte,Nat.reduceLT,Nat.reduceSub,Nat.reduceAdd,Int.reduceAdd,Int.reduceEq,Int.reduceLT,Int.reduceLE,ZD,ZE,]
  exact h _ (by omega)
theorem Zkj (n:Int) (Q:List AV→Prop):mc.C Zcp [⟨I,n⟩] Q=Q [⟨I,1⟩,⟨I,n⟩,⟨I,0⟩,⟨I,0⟩]:=Mc.Ends.c (mc.ends Zgi (by simp+contextual(maxSteps:=1000000)(disch:=omega)only[↓Sd,↓So,↓Sk,↓den,↓Z0,Sa,Sb,Sc,Se,O1.d,O2.d,O3.d,cmI,arI,Z1,Z2,↓reduceIte,Nat.reduceLT,Nat.reduceSub,Nat.reduceAdd,Int.reduceAdd,Int.reduceEq,Int.reduceLT,Int.reduceLE,ZD,ZE,Zen]))
theorem Zkk (n:Int) (Q:List AV→Prop):mc.C Zcq [⟨I,n⟩] Q=Q [⟨I,0⟩,⟨I,n⟩,⟨I,0⟩,⟨I,0⟩]:=Mc.Ends.c (mc.ends Zgj (by simp+contextual(maxSteps:=1000000)(disch:=omega)only[↓Sd,↓So,↓Sk,↓den,↓Z0,Sa,Sb,Sc,Se,O1.d,O2.d,O3.d,cmI,arI,Z1,Z2,↓reduceIte,Nat.reduceLT,Nat.reduceSub,Nat.reduceAdd,Int.reduceAdd,Int.reduceEq,Int.reduceLT,Int.reduceLE,ZD,ZE,Zeo]))
theorem Zkl (b:List Int) (p:Int) (v:Vr) (at_:Int) (hb:Rdy b) (hp:0≤p∧p≤900000000) {Q:List AV→Prop} (h:∀(l:List Tm) (p':Int),p≤p'∧p'≤p+3→l.length≤4→Q [⟨L T4,l⟩,⟨RD,(b,p')⟩]):mc.C Zcr [⟨RD,(b,p)⟩,⟨I,v.1⟩,⟨I,v.2.1⟩,⟨I,v.2.2⟩,⟨I,at_⟩] Q:=by
 refine mc.c_of Zgk ?_
 simp+contextual(maxSteps:=1000000)(disch:=omega)only[↓Sd,↓So,↓Sk,↓den,↓Z0,Sa,Sb,Sc,Se,O1.d,O2.d,O3.d,cmI,arI,Z1,Z2,↓reduceIte,Nat.reduceLT,Nat.reduceSub,Nat.reduceAdd,Int.reduceAdd,Int.reduceEq,Int.reduceLT,Int.reduceLE,ZD,ZE,Zep]
 refine Zke _ _ _ hb (by omega) fun n _ _=>?_
 simp+contextual(maxSteps:=1000000)(disch:=omega)only[↓Sd,↓So,↓Sk,↓den,↓Z0,Sa,Sb,Sc,Se,O1.d,O2.d,O3.d,cmI,arI,Z1,Z2,↓reduceIte,Nat.reduceLT,Nat.reduceSub,Nat.reduceAdd,Int.reduceAdd,Int.reduceEq,Int.reduceLT,Int.reduceLE,ZD,ZE,↓ZF,]
 refine Zkf _ _ _ hb (by omega) (by simp) (by simp) fun o o0=>?_;simp+contextual(maxSteps:=1000000)(disch:=omega)only[↓Sd,↓So,↓Sk,↓den,↓Z0,Sa,Sb,Sc,Se,O1.d,O2.d,O3.d,cmI,arI,Z1,Z2,↓reduceIte,Nat.reduceLT,Nat.reduceSub,Nat.reduceAdd,Int.reduceAdd,Int.reduceEq,Int.reduceLT,Int.reduceLE,ZD,ZE,]
 simp+contextual(maxSteps:=1000000)(disch:=omega)only[↓Sd,↓So,↓Sk,↓den,↓Z0,Sa,Sb,Sc,Se,O1.d,O2.d,O3.d,cmI,arI,Z1,Z2,↓reduceIte,Nat.reduceLT,Nat.reduceSub,Nat.reduceAdd,Int.reduceAdd,Int.reduceEq,Int.reduceLT,Int.reduceLE,ZD,ZE,↓ZF,Zkj,Zkk]
 refine ZV _ _ _ hb (by omega) (by omega) fun k k0 k1=>?_;simp+contextual(maxSteps:=1000000)(disch:=omega)only[↓Sd,↓So,↓Sk,↓den,↓Z0,Sa,Sb,Sc,Se,O1.d,O2.d,O3.d,cmI,arI,Z1,Z2,↓reduceIte,Nat.reduceLT,Nat.reduceSub,Nat.reduceAdd,Int.reduceAdd,Int.reduceEq,Int.reduceLT,Int.reduceLE,ZD,ZE,]
 exact ⟨fun _=>h _ _ (by omega) (by simp),fun _=>h _ _ (by omega) (by simp)⟩
def mvT (t:Tm) (n:Int):Tm:=if 2≤t.1 then (t.1,0,IntKind.i64.wrap (t.2.2.1+n),IntKind.i64.wrap (t.2.2.2+n)) else t
theorem Zkm (t:Tm) (n:Int) (Q:List AV→Prop):mc.C Zct [⟨I,t.1⟩,⟨I,t.2.1⟩,⟨I,t.2.2.1⟩,⟨I,t.2.2.2⟩,⟨I,n⟩] Q=Q [⟨I,(mvT t n).1⟩,⟨I,(mvT t n).2.1⟩,⟨I,(mvT t n).2.2.1⟩,⟨I,(mvT t n).2.2.2⟩]:=by
 refine Mc.Ends.c (mc.ends Zgm ?_)
 unfold mvT
 by_cases g:2≤t.1
 ·rw [if_pos g]
  simp+contextual(maxSteps:=1000000)(disch:=omega)only[↓Sd,↓So,↓Sk,↓den,↓Z0,Sa,Sb,Sc,Se,O1.d,O2.d,O3.d,cmI,arI,Z1,Z2,↓reduceIte,Nat.reduceLT,Nat.reduceSub,Nat.reduceAdd,Int.reduceAdd,Int.reduceEq,Int.reduceLT,Int.reduceLE,ZD,ZE,Zer]
 ·rw [if_neg g]
  simp+contextual(maxSteps:=1000000)(disch:=omega)only[↓Sd,↓So,↓Sk,↓den,↓Z0,Sa,Sb,Sc,Se,O1.d,O2.d,O3.d,cmI,arI,Z1,Z2,↓reduceIte,Nat.reduceLT,Nat.reduceSub,Nat.reduceAdd,Int.reduceAdd,Int.reduceEq,Int.reduceLT,Int.reduceLE,ZD,ZE,Zer]
theorem Zkn (l:List Tm) (vars:Int) (hl:Few l) (Q:List AV→Prop):mc.C Zcs [⟨L T4,l⟩,⟨I,vars⟩] Q=Q [⟨B,decide (((Zh1 l vars).length:Int) > 0)⟩]:=by
 refine Mc.Ends.c (mc.ends Zgl ?_)
 simp+contextual(maxSteps:=1000000)(disch:=omega)only[↓Sd,↓So,↓Sk,↓den,↓Z0,Sa,Sb,Sc,Se,O1.d,O2.d,O3.d,cmI,arI,Z1,Z2,↓reduceIte,Nat.reduceLT,Nat.reduceSub,Nat.reduceAdd,Int.reduceAdd,Int.reduceEq,Int.reduceLT,Int.reduceLE,ZD,ZE,Zeq,Zh6 l vars hl]
theorem Zko (o:Int) (l m:List Tm) (vars:Int) (hl:l.length≤1000) (hm:m.length≤1000) {Q:List AV→Prop} (h:∀(r:List Tm),r.length≤l.length+m.length+1→Q [⟨L T4,r⟩]):mc.C Zcu [⟨I,o⟩,⟨L T4,l⟩,⟨L T4,m⟩,⟨I,vars⟩] Q:=by
 have h1:Few l:=by unfold Few;omega
 have h2:Few m:=by unfold Few;omega
 refine mc.c_of Zgn ?_
 simp+contextual(maxSteps:=1000000)(disch:=omega)only[↓Sd,↓So,↓Sk,↓den,↓Z0,Sa,Sb,Sc,Se,O1.d,O2.d,O3.d,cmI,arI,Z1,Z2,↓reduceIte,Nat.reduceLT,Nat.reduceSub,Nat.reduceAdd,Int.reduceAdd,Int.reduceEq,Int.reduceLT,Int.reduceLE,ZD,ZE,Zes,Zkn l vars h1,Zkn m vars h2]
 refine ⟨fun _=>h _ (by simp),fun _=>⟨fun _=>h _ (by simp),fun _=>?_⟩⟩
 refine mc.lp_for (List Tm) (fun i s=>[⟨I,o⟩,⟨L T4,l⟩,⟨L T4,m⟩,⟨I,vars⟩,⟨I,(i:Int)⟩,⟨L T4,s⟩]) (fun i s=>s.length=i) l.length 0 [] _ rfl (Nat.zero_le _) rfl ?_ ?_
 ·rintro i s hi hs
  simp+contextual(maxSteps:=1000000)(disch:=omega)only[↓Sd,↓So,↓Sk,↓den,↓Z0,Sa,Sb,Sc,Se,O1.d,O2.d,O3.d,cmI,arI,Z1,Z2,↓reduceIte,Nat.reduceLT,Nat.reduceSub,Nat.reduceAdd,Int.reduceAdd,Int.reduceEq,Int.reduceLT,Int.reduceLE,ZD,ZE,]
  omega
 rintro s hs
 simp+contextual(maxSteps:=1000000)(disch:=omega)only[↓Sd,↓So,↓Sk,↓den,↓Z0,Sa,Sb,Sc,Se,O1.d,O2.d,O3.d,cmI,arI,Z1,Z2,↓reduceIte,Nat.reduceLT,Nat.reduceSub,Nat.reduceAdd,Int.reduceAdd,Int.reduceEq,Int.reduceLT,Int.reduceLE,ZD,ZE,↓ZF,]
 refine mc.lp_for (List Tm) (fun i s=>[⟨I,o⟩,⟨L T4,l⟩,⟨L T4,m⟩,⟨I,vars⟩,⟨I,(i:Int)⟩,⟨L T4,s⟩]) (fun i s=>s.length≤l.length+i) m.length 0 s _ rfl (Nat.zero_le _) (by omega) ?_ ?_
 ·rintro i s hi hs
  simp+contextual(maxSteps:=1000000)(disch:=omega)only[↓Sd,↓So,↓Sk,↓den,↓Z0,Sa,Sb,Sc,Se,O1.d,O2.d,O3.d,cmI,arI,Z1,Z2,↓reduceIte,Nat.reduceLT,Nat.reduceSub,Nat.reduceAdd,Int.reduceAdd,Int.reduceEq,Int.reduceLT,Int.reduceLE,ZD,ZE,ZgZ,Zkm]
  refine ⟨fun _=>by omega,fun g=>?_⟩
  have hf:Few (s++[((7:Int),(0:Int),(l.length:Int) - 1,(s.length:Int) - 1)]):=by unfold Few;simp only [List.length_append,List.length_singleton];omega
  simp+contextual(maxSteps:=1000000)(disch:=omega)only[↓Sd,↓So,↓Sk,↓den,↓Z0,Sa,Sb,Sc,Se,O1.d,O2.d,O3.d,cmI,arI,Z1,Z2,↓reduceIte,Nat.reduceLT,Nat.reduceSub,Nat.reduceAdd,Int.reduceAdd,Int.reduceEq,Int.reduceLT,Int.reduceLE,ZD,ZE,Zkn _ vars hf]
  exact ⟨fun _=>h _ (by simp),fun _=>h _ (by simp only [List.length_append,List.length_singleton];omega)⟩
 ·rintro s hs
  simp+contextual(maxSteps:=1000000)(disch:=omega)only[↓Sd,↓So,↓Sk,↓den,↓Z0,Sa,Sb,Sc,Se,O1.d,O2.d,O3.d,cmI,arI,Z1,Z2,↓reduceIte,Nat.reduceLT,Nat.reduceSub,Nat.reduceAdd,Int.reduceAdd,Int.reduceEq,Int.reduceLT,Int.reduceLE,ZD,ZE,]
  refine ⟨fun _=>h _ (by simp),fun _=>?_⟩
  have hf:Few (s++[(o,(0:Int),(l.length:Int) - 1,(s.length:Int) - 1)]):=by unfold Few;simp only [List.length_append,List.length_singleton];omega
  simp+contextual(maxSteps:=1000000)(disch:=omega)only[↓Sd,↓So,↓Sk,↓den,↓Z0,Sa,Sb,Sc,Se,O1.d,O2.d,O3.d,cmI,arI,Z1,Z2,↓reduceIte,Nat.reduceLT,Nat.reduceSub,Nat.reduceAdd,Int.reduceAdd,Int.reduceEq,Int.reduceLT,Int.reduceLE,ZD,ZE,Zkn _ vars hf]
  exact ⟨fun _=>h _ (by simp),fun _=>h _ (by simp only [List.length_append,List.length_singleton];omega)⟩
theorem Zkp (b:List Int) (p:Int) (vs:List Vr) (hb:Rdy b) (hp:0≤p∧p≤800000000) (hv:1≤vs.length) (hv2:vs.length≤1000) {Q:List AV→Prop} (h:∀(l:List Tm) (p':Int),p≤p'∧p'≤p+10→l.length≤9→Q [⟨L T4,l⟩,⟨RD,(b,p')⟩]):mc.C Zcv [⟨RD,(b,p)⟩,⟨L V3,vs⟩] Q:=by
 refine mc.c_of Zgo ?_
 simp+contextual(maxSteps:=1000000)(disch:=omega)only[↓Sd,↓So,↓Sk,↓den,↓Z0,Sa,Sb,Sc,Se,O1.d,O2.d,O3.d,cmI,arI,Z1,Z2,↓reduceIte,Nat.reduceLT,Nat.reduceSub,Nat.reduceAdd,Int.reduceAdd,Int.reduceEq,Int.reduceLT,Int.reduceLE,ZD,ZE,Zet]
 refine ZV _ _ _ hb (by omega) (by omega) fun i i0 i1=>?_;simp+contextual(maxSteps:=1000000)(disch:=omega)only[↓Sd,↓So,↓Sk,↓den,↓Z0,Sa,Sb,Sc,Se,O1.d,O2.d,O3.d,cmI,arI,Z1,Z2,↓reduceIte,Nat.reduceLT,Nat.reduceSub,Nat.reduceAdd,Int.reduceAdd,Int.reduceEq,Int.reduceLT,Int.reduceLE,ZD,ZE,]
 refine Zkl _ _ (vs.getD i.toNat (0,0,0)) _ hb (by omega) fun l p1 hp1 hl=>?_
 simp+contextual(maxSteps:=1000000)(disch:=omega)only[↓Sd,↓So,↓Sk,↓den,↓Z0,Sa,Sb,Sc,Se,O1.d,O2.d,O3.d,cmI,arI,Z1,Z2,↓reduceIte,Nat.reduceLT,Nat.reduceSub,Nat.reduceAdd,Int.reduceAdd,Int.reduceEq,Int.reduceLT,Int.reduceLE,ZD,ZE,↓ZF,]
 refine ZV _ _ _ hb (by omega) (by omega) fun k k0 k1=>?_;simp+contextual(maxSteps:=1000000)(disch:=omega)only[↓Sd,↓So,↓Sk,↓den,↓Z0,Sa,Sb,Sc,Se,O1.d,O2.d,O3.d,cmI,arI,Z1,Z2,↓reduceIte,Nat.reduceLT,Nat.reduceSub,Nat.reduceAdd,Int.reduceAdd,Int.reduceEq,Int.reduceLT,Int.reduceLE,ZD,ZE,]
 refine ⟨fun _=>?_,fun _=>h _ _ (by omega) (by omega)⟩
 refine ZV _ _ _ hb (by omega) (by omega) fun j j0 j1=>?_;simp+contextual(maxSteps:=1000000)(disch:=omega)only[↓Sd,↓So,↓Sk,↓den,↓Z0,Sa,Sb,Sc,Se,O1.d,O2.d,O3.d,cmI,arI,Z1,Z2,↓reduceIte,Nat.reduceLT,Nat.reduceSub,Nat.reduceAdd,Int.reduceAdd,Int.reduceEq,Int.reduceLT,Int.reduceLE,ZD,ZE,]
 refine Zkf _ _ _ hb (by omega) (by simp) (by simp) fun o o0=>?_;simp+contextual(maxSteps:=1000000)(disch:=omega)only[↓Sd,↓So,↓Sk,↓den,↓Z0,Sa,Sb,Sc,Se,O1.d,O2.d,O3.d,cmI,arI,Z1,Z2,↓reduceIte,Nat.reduceLT,Nat.reduceSub,Nat.reduceAdd,Int.reduceAdd,Int.reduceEq,Int.reduceLT,Int.reduceLE,ZD,ZE,]
 refine Zkl _ _ (vs.getD j.toNat (0,0,0)) _ hb (by omega) fun m p2 hp2 hm=>?_
 simp+contextual(maxSteps:=1000000)(disch:=omega)only[↓Sd,↓So,↓Sk,↓den,↓Z0,Sa,Sb,Sc,Se,O1.d,O2.d,O3.d,cmI,arI,Z1,Z2,↓reduceIte,Nat.reduceLT,Nat.reduceSub,Nat.reduceAdd,Int.reduceAdd,Int.reduceEq,Int.reduceLT,Int.reduceLE,ZD,ZE,]
 refine Zko _ _ _ _ (by omega) (by omega) fun r hr=>?_
 simp+contextual(maxSteps:=1000000)(disch:=omega)only[↓Sd,↓So,↓Sk,↓den,↓Z0,Sa,Sb,Sc,Se,O1.d,O2.d,O3.d,cmI,arI,Z1,Z2,↓reduceIte,Nat.reduceLT,Nat.reduceSub,Nat.reduceAdd,Int.reduceAdd,Int.reduceEq,Int.reduceLT,Int.reduceLE,ZD,ZE,↓ZF,]
 exact h _ _ (by omega) (by omega)
theorem Zkq (b:List Int) (p vars kind most:Int) (hb:Rdy b) (hp:0≤p∧p≤800000000) (hv:0≤vars∧vars≤5) (hm:1≤most∧most≤12) {Q:List AV→Prop} (h:∀(l:List Tm) (p':Int),p≤p'∧p'≤p+400→1≤l.length→l.length≤16→Q [⟨L T4,l⟩,⟨RD,(b,p')⟩]):mc.C Zcy [⟨RD,(b,p)⟩,⟨I,vars⟩,⟨I,kind⟩,⟨I,most⟩] Q:=by
 refine mc.c_of Zgr ?_
 simp+contextual(maxSteps:=1000000)(disch:=omega)only[↓Sd,↓So,↓Sk,↓den,↓Z0,Sa,Sb,Sc,Se,O1.d,O2.d,O3.d,cmI,arI,Z1,Z2,↓reduceIte,Nat.reduceLT,Nat.reduceSub,Nat.reduceAdd,Int.reduceAdd,Int.reduceEq,Int.reduceLT,Int.reduceLE,ZD,ZE,Zew]
 refine ZV _ _ _ hb (by omega) (by omega) fun n n0 n1=>?_;simp+contextual(maxSteps:=1000000)(disch:=omega)only[↓Sd,↓So,↓Sk,↓den,↓Z0,Sa,Sb,Sc,Se,O1.d,O2.d,O3.d,cmI,arI,Z1,Z2,↓reduceIte,Nat.reduceLT,Nat.reduceSub,Nat.reduceAdd,Int.reduceAdd,Int.reduceEq,Int.reduceLT,Int.reduceLE,ZD,ZE,]
 obtain ⟨N,hN⟩:∃N:Nat,n=N:=⟨n.toNat,by omega⟩
 subst hN
 refine mc.lp_inv (fun k us=>∃(p1:Int) (l:List Tm) (ks:List Int),us=[⟨I,vars⟩,⟨I,kind⟩,⟨I,(k:Int)⟩,⟨L U,b⟩,⟨I,p1⟩,⟨L T4,l⟩,⟨L I,ks⟩]∧l.length=ks.length∧l.length+k≤2+N∧p≤p1∧p1+20 * k≤p+1+20 * (2+N)) (2+N) _ ⟨p+1,[],[],by simp,rfl,by simp,by omega,by omega⟩ ?_
 rintro k us ⟨p1,l,ks,rfl,i1,i2,i3,i4⟩
 cases k with
 | zero =>
  simp+contextual(maxSteps:=1000000)(disch:=omega)only[↓Sd,↓So,↓Sk,↓den,↓Z0,Sa,Sb,Sc,Se,O1.d,O2.d,O3.d,cmI,arI,Z1,Z2,↓reduceIte,Nat.reduceLT,Nat.reduceSub,Nat.reduceAdd,Int.reduceAdd,Int.reduceEq,Int.reduceLT,Int.reduceLE,ZD,ZE,]
  refine mc.wp_join (fun us=>∃(l:List Tm) (ks:List Int),us=[⟨I,kind⟩,⟨L U,b⟩,⟨I,p1⟩,⟨L T4,l⟩,⟨L I,ks⟩]∧l.length=ks.length∧1≤l.length∧l.length≤14) ?_ ?_
  ·simp+contextual(maxSteps:=1000000)(disch:=omega)only[↓Sd,↓So,↓Sk,↓den,↓Z0,Sa,Sb,Sc,Se,O1.d,O2.d,O3.d,cmI,arI,Z1,Z2,↓reduceIte,Nat.reduceLT,Nat.reduceSub,Nat.reduceAdd,Int.reduceAdd,Int.reduceEq,Int.reduceLT,Int.reduceLE,ZD,ZE,]
   refine ⟨fun g=>⟨_,_,⟨rfl,rfl⟩,by simp [i1],by simp,?_⟩,fun g=>⟨l,ks,⟨rfl,rfl⟩,i1,by omega,by omega⟩⟩
   simp only [List.length_append,List.length_singleton];omega
  ·rintro us ⟨l,ks,rfl,a1,a2,a3⟩
   refine mc.wp_join (fun us=>∃(p2:Int) (l:List Tm),us=[⟨L U,b⟩,⟨I,p2⟩,⟨L T4,l⟩]∧p≤p2∧p2≤p+390∧1≤l.length∧l.length≤16) ?_ ?_
   ·have ln1:∀x:Tm,1≤(l++[x]).length∧(l++[x]).length≤16:=fun x=>by simp only [List.length_append,List.length_singleton];omega
    simp+contextual(maxSteps:=1000000)(disch:=omega)only[↓Sd,↓So,↓Sk,↓den,↓Z0,Sa,Sb,Sc,Se,O1.d,O2.d,O3.d,cmI,arI,Z1,Z2,↓reduceIte,Nat.reduceLT,Nat.reduceSub,Nat.reduceAdd,Int.reduceAdd,Int.reduceEq,Int.reduceLT,Int.reduceLE,ZD,ZE,]
    refine ⟨fun _=>⟨fun _=>?_,fun _=>⟨_,_,⟨rfl,rfl⟩,by omega,by omega,by omega,by omega⟩⟩,fun _=>⟨fun _=>⟨fun _=>?_,fun _=>⟨_,_,⟨rfl,rfl⟩,by omega,by omega,by omega,by omega⟩⟩,fun _=>⟨_,_,⟨rfl,rfl⟩,by omega,by omega,by omega,by omega⟩⟩⟩
    ·refine Zkf _ _ _ hb (by omega) (by simp) (by simp) fun o o0=>?_;simp+contextual(maxSteps:=1000000)(disch:=omega)only[↓Sd,↓So,↓Sk,↓den,↓Z0,Sa,Sb,Sc,Se,O1.d,O2.d,O3.d,cmI,arI,Z1,Z2,↓reduceIte,Nat.reduceLT,Nat.reduceSub,Nat.reduceAdd,Int.reduceAdd,Int.reduceEq,Int.reduceLT,Int.reduceLE,ZD,ZE,]
     refine Zki _ _ _ _ hb (by omega) (by omega) (by omega) fun x hx=>?_
     simp+contextual(maxSteps:=1000000)(disch:=omega)only[↓Sd,↓So,↓Sk,↓den,↓Z0,Sa,Sb,Sc,Se,O1.d,O2.d,O3.d,cmI,arI,Z1,Z2,↓reduceIte,Nat.reduceLT,Nat.reduceSub,Nat.reduceAdd,Int.reduceAdd,Int.reduceEq,Int.reduceLT,Int.reduceLE,ZD,ZE,]
     exact ⟨_,_,⟨rfl,rfl⟩,by omega,by omega,(ln1 _).1,(ln1 _).2⟩
    ·refine Zki _ _ _ _ hb (by omega) (by omega) (by omega) fun x hx=>?_
     simp+contextual(maxSteps:=1000000)(disch:=omega)only[↓Sd,↓So,↓Sk,↓den,↓Z0,Sa,Sb,Sc,Se,O1.d,O2.d,O3.d,cmI,arI,Z1,Z2,↓reduceIte,Nat.reduceLT,Nat.reduceSub,Nat.reduceAdd,Int.reduceAdd,Int.reduceEq,Int.reduceLT,Int.reduceLE,ZD,ZE,]
     refine Zkf _ _ _ hb (by omega) (by simp) (by simp) fun o o0=>?_;simp+contextual(maxSteps:=1000000)(disch:=omega)only[↓Sd,↓So,↓Sk,↓den,↓Z0,Sa,Sb,Sc,Se,O1.d,O2.d,O3.d,cmI,arI,Z1,Z2,↓reduceIte,Nat.reduceLT,Nat.reduceSub,Nat.reduceAdd,Int.reduceAdd,Int.reduceEq,Int.reduceLT,Int.reduceLE,ZD,ZE,]
     refine Zki _ _ _ _ hb (by omega) (by omega) (by omega) fun y hy=>?_
     simp+contextual(maxSteps:=1000000)(disch:=omega)only[↓Sd,↓So,↓Sk,↓den,↓Z0,Sa,Sb,Sc,Se,O1.d,O2.d,O3.d,cmI,arI,Z1,Z2,↓reduceIte,Nat.reduceLT,Nat.reduceSub,Nat.reduceAdd,Int.reduceAdd,Int.reduceEq,Int.reduceLT,Int.reduceLE,ZD,ZE,]
     exact ⟨_,_,⟨rfl,rfl⟩,by omega,by omega,(ln1 _).1,(ln1 _).2⟩
   ·rintro us ⟨p2,l,rfl,c1,c2,c3,c4⟩
    simp+contextual(maxSteps:=1000000)(disch:=omega)only[↓Sd,↓So,↓Sk,↓den,↓Z0,Sa,Sb,Sc,Se,O1.d,O2.d,O3.d,cmI,arI,Z1,Z2,↓reduceIte,Nat.reduceLT,Nat.reduceSub,Nat.reduceAdd,Int.reduceAdd,Int.reduceEq,Int.reduceLT,Int.reduceLE,ZD,ZE,]
    exact h _ _ (by omega) (by omega) (by omega)
 | succ k =>
  simp+contextual(maxSteps:=1000000)(disch:=omega)only[↓Sd,↓So,↓Sk,↓den,↓Z0,Sa,Sb,Sc,Se,O1.d,O2.d,O3.d,cmI,arI,Z1,Z2,↓reduceIte,Nat.reduceLT,Nat.reduceSub,Nat.reduceAdd,Int.reduceAdd,Int.reduceEq,Int.reduceLT,Int.reduceLE,ZD,ZE,]
  refine mc.wp_join (fun us=>∃(p2:Int) (l:List Tm) (ks:List Int),us=[⟨I,vars⟩,⟨I,kind⟩,⟨I,(k:Int)+1⟩,⟨L U,b⟩,⟨I,p2⟩,⟨L T4,l⟩,⟨L I,ks⟩]∧l.length=ks.length∧l.length+k≤2+N∧p≤p2∧p2+20 * k≤p+1+20 * (2+N)) ?_ ?_
  ·simp+contextual(maxSteps:=1000000)(disch:=omega)only[↓Sd,↓So,↓Sk,↓den,↓Z0,Sa,Sb,Sc,Se,O1.d,O2.d,O3.d,cmI,arI,Z1,Z2,↓reduceIte,Nat.reduceLT,Nat.reduceSub,Nat.reduceAdd,Int.reduceAdd,Int.reduceEq,Int.reduceLT,Int.reduceLE,ZD,ZE,]
   refine Zkf _ _ _ hb (by omega) (by simp) (by simp) fun o o0=>?_;simp+contextual(maxSteps:=1000000)(disch:=omega)only[↓Sd,↓So,↓Sk,↓den,↓Z0,Sa,Sb,Sc,Se,O1.d,O2.d,O3.d,cmI,arI,Z1,Z2,↓reduceIte,Nat.reduceLT,Nat.reduceSub,Nat.reduceAdd,Int.reduceAdd,Int.reduceEq,Int.reduceLT,Int.reduceLE,ZD,ZE,]
   refine mc.wp_join (fun us=>∃(p2:Int) (t:Tm),us=[⟨I,vars⟩,⟨I,kind⟩,⟨I,(k:Int)+1⟩,⟨L U,b⟩,⟨I,p2⟩,⟨L T4,l⟩,⟨L I,ks⟩,⟨I,t.1⟩,⟨I,t.2.1⟩,⟨I,t.2.2.1⟩,⟨I,t.2.2.2⟩]∧p≤p2∧p2≤p1+10) ?_ ?_
   ·simp+contextual(maxSteps:=1000000)(disch:=omega)only[↓Sd,↓So,↓Sk,↓den,↓Z0,Sa,Sb,Sc,Se,O1.d,O2.d,O3.d,cmI,arI,Z1,Z2,↓reduceIte,Nat.reduceLT,Nat.reduceSub,Nat.reduceAdd,Int.reduceAdd,Int.reduceEq,Int.reduceLT,Int.reduceLE,ZD,ZE,]
    refine ⟨fun g=>?_,fun g=>⟨fun g2=>?_,fun g2=>?_⟩⟩
    ·refine Zkh _ _ hb (by omega) fun x p2 hp2=>?_
     simp+contextual(maxSteps:=1000000)(disch:=omega)only[↓Sd,↓So,↓Sk,↓den,↓Z0,Sa,Sb,Sc,Se,O1.d,O2.d,O3.d,cmI,arI,Z1,Z2,↓reduceIte,Nat.reduceLT,Nat.reduceSub,Nat.reduceAdd,Int.reduceAdd,Int.reduceEq,Int.reduceLT,Int.reduceLE,ZD,ZE,]
     refine ⟨fun _=>⟨fun _=>?_,fun _=>⟨_,((0:Int),x,(0:Int),(0:Int)),⟨rfl,rfl,rfl,rfl,rfl⟩,by omega,by omega⟩⟩,fun _=>⟨_,((0:Int),x,(0:Int),(0:Int)),⟨rfl,rfl,rfl,rfl,rfl⟩,by omega,by omega⟩⟩
     refine ZV _ _ _ hb (by omega) (by omega) fun y y0 y1=>?_;simp+contextual(maxSteps:=1000000)(disch:=omega)only[↓Sd,↓So,↓Sk,↓den,↓Z0,Sa,Sb,Sc,Se,O1.d,O2.d,O3.d,cmI,arI,Z1,Z2,↓reduceIte,Nat.reduceLT,Nat.reduceSub,Nat.reduceAdd,Int.reduceAdd,Int.reduceEq,Int.reduceLT,Int.reduceLE,ZD,ZE,]
     exact ⟨_,((1:Int),y,(0:Int),(0:Int)),⟨rfl,rfl,rfl,rfl,rfl⟩,by omega,by omega⟩
    ·refine Zkh _ _ hb (by omega) fun x p2 hp2=>?_
     simp+contextual(maxSteps:=1000000)(disch:=omega)only[↓Sd,↓So,↓Sk,↓den,↓Z0,Sa,Sb,Sc,Se,O1.d,O2.d,O3.d,cmI,arI,Z1,Z2,↓reduceIte,Nat.reduceLT,Nat.reduceSub,Nat.reduceAdd,Int.reduceAdd,Int.reduceEq,Int.reduceLT,Int.reduceLE,ZD,ZE,]
     refine ⟨fun _=>⟨fun _=>?_,fun _=>⟨_,((0:Int),x,(0:Int),(0:Int)),⟨rfl,rfl,rfl,rfl,rfl⟩,by omega,by omega⟩⟩,fun _=>⟨_,((0:Int),x,(0:Int),(0:Int)),⟨rfl,rfl,rfl,rfl,rfl⟩,by omega,by omega⟩⟩
     refine ZV _ _ _ hb (by omega) (by omega) fun y y0 y1=>?_;simp+contextual(maxSteps:=1000000)(disch:=omega)only[↓Sd,↓So,↓Sk,↓den,↓Z0,Sa,Sb,Sc,Se,O1.d,O2.d,O3.d,cmI,arI,Z1,Z2,↓reduceIte,Nat.reduceLT,Nat.reduceSub,Nat.reduceAdd,Int.reduceAdd,Int.reduceEq,Int.reduceLT,Int.reduceLE,ZD,ZE,]
     exact ⟨_,((1:Int),y,(0:Int),(0:Int)),⟨rfl,rfl,rfl,rfl,rfl⟩,by omega,by omega⟩
    ·refine mc.wp_join (fun us=>∃w:Int,us=[⟨I,vars⟩,⟨I,kind⟩,⟨I,(k:Int)+1⟩,⟨I,o⟩,⟨I,w⟩,⟨L U,b⟩,⟨I,p1+1⟩,⟨L T4,l⟩,⟨L I,ks⟩,⟨I,o⟩,⟨I,(0:Int)⟩,⟨I,(0:Int)⟩,⟨I,(0:Int)⟩]) ?_ ?_
     ·simp+contextual(maxSteps:=1000000)(disch:=omega)only[↓Sd,↓So,↓Sk,↓den,↓Z0,Sa,Sb,Sc,Se,O1.d,O2.d,O3.d,cmI,arI,Z1,Z2,↓reduceIte,Nat.reduceLT,Nat.reduceSub,Nat.reduceAdd,Int.reduceAdd,Int.reduceEq,Int.reduceLT,Int.reduceLE,ZD,ZE,]
      exact ⟨fun _=>⟨2,rfl⟩,fun _=>⟨1,rfl⟩⟩
     ·rintro us ⟨w,rfl⟩
      simp+contextual(maxSteps:=1000000)(disch:=omega)only[↓Sd,↓So,↓Sk,↓den,↓Z0,Sa,Sb,Sc,Se,O1.d,O2.d,O3.d,cmI,arI,Z1,Z2,↓reduceIte,Nat.reduceLT,Nat.reduceSub,Nat.reduceAdd,Int.reduceAdd,Int.reduceEq,Int.reduceLT,Int.reduceLE,ZD,ZE,]
      refine Zki _ _ _ _ hb (by omega) (by omega) (by omega) fun x hx=>?_
      simp+contextual(maxSteps:=1000000)(disch:=omega)only[↓Sd,↓So,↓Sk,↓den,↓Z0,Sa,Sb,Sc,Se,O1.d,O2.d,O3.d,cmI,arI,Z1,Z2,↓reduceIte,Nat.reduceLT,Nat.reduceSub,Nat.reduceAdd,Int.reduceAdd,Int.reduceEq,Int.reduceLT,Int.reduceLE,ZD,ZE,]
      refine Zki _ _ _ _ hb (by omega) (by omega) (by omega) fun y hy=>?_
      simp+contextual(maxSteps:=1000000)(disch:=omega)only[↓Sd,↓So,↓Sk,↓den,↓Z0,Sa,Sb,Sc,Se,O1.d,O2.d,O3.d,cmI,arI,Z1,Z2,↓reduceIte,Nat.reduceLT,Nat.reduceSub,Nat.reduceAdd,Int.reduceAdd,Int.reduceEq,Int.reduceLT,Int.reduceLE,ZD,ZE,ZgZ]
      exact ⟨fun _=>⟨_,((7:Int),(0:Int),x,x),⟨rfl,rfl,rfl,rfl,rfl⟩,by omega,by omega⟩,fun _=>⟨_,(o,(0:Int),x,y),⟨rfl,rfl,rfl,rfl,rfl⟩,by omega,by omega⟩⟩
   ·rintro us ⟨p2,t,rfl,c1,c2⟩
    simp+contextual(maxSteps:=1000000)(disch:=omega)only[↓Sd,↓So,↓Sk,↓den,↓Z0,Sa,Sb,Sc,Se,O1.d,O2.d,O3.d,cmI,arI,Z1,Z2,↓reduceIte,Nat.reduceLT,Nat.reduceSub,Nat.reduceAdd,Int.reduceAdd,Int.reduceEq,Int.reduceLT,Int.reduceLE,ZD,ZE,Zh5 t ks vars hv (by omega)]
    refine ⟨fun _=>⟨_,_,_,⟨rfl,rfl,rfl⟩,?_,?_,by omega,by omega⟩,fun _=>⟨_,_,_,⟨rfl,rfl,rfl⟩,i1,by omega,by omega,by omega⟩⟩
    ·simp only [List.length_append,List.length_singleton];omega
    ·simp only [List.length_append,List.length_singleton];omega
  ·rintro us ⟨p2,l,ks,rfl,a1,a2,a3,a4⟩
   simp+contextual(maxSteps:=1000000)(disch:=omega)only[↓Sd,↓So,↓Sk,↓den,↓Z0,Sa,Sb,Sc,Se,O1.d,O2.d,O3.d,cmI,arI,Z1,Z2,↓reduceIte,Nat.reduceLT,Nat.reduceSub,Nat.reduceAdd,Int.reduceAdd,Int.reduceEq,Int.reduceLT,Int.reduceLE,ZD,ZE,]
   exact ⟨k,by omega,p2,l,ks,⟨rfl,rfl,rfl,rfl⟩,a1,a2,a3,a4⟩
theorem Zkr (b:List Int) (p:Int) (vs:List Vr) (k:Int) (i:Nat) (hk:k=i) (hb:Rdy b) (hp:0≤p∧p≤700000000) (hv:vs.length≤5) (hi:i<vs.length) {Q:List AV→Prop} (h:∀(l:List Tm) (p':Int),p≤p'∧p'≤p+500→l.length≤16→Q [⟨L T4,l⟩,⟨RD,(b,p')⟩]):mc.C Zcz [⟨RD,(b,p)⟩,⟨L V3,vs⟩,⟨I,k⟩] Q:=by
 subst hk
 refine mc.c_of Zgs ?_
 simp+contextual(maxSteps:=1000000)(disch:=omega)only[↓Sd,↓So,↓Sk,↓den,↓Z0,Sa,Sb,Sc,Se,O1.d,O2.d,O3.d,cmI,arI,Z1,Z2,↓reduceIte,Nat.reduceLT,Nat.reduceSub,Nat.reduceAdd,Int.reduceAdd,Int.reduceEq,Int.reduceLT,Int.reduceLE,ZD,ZE,Zex]
 refine ZV _ _ _ hb (by omega) (by omega) fun k k0 k1=>?_;simp+contextual(maxSteps:=1000000)(disch:=omega)only[↓Sd,↓So,↓Sk,↓den,↓Z0,Sa,Sb,Sc,Se,O1.d,O2.d,O3.d,cmI,arI,Z1,Z2,↓reduceIte,Nat.reduceLT,Nat.reduceSub,Nat.reduceAdd,Int.reduceAdd,Int.reduceEq,Int.reduceLT,Int.reduceLE,ZD,ZE,]
 refine ⟨fun _=>?_,fun _=>⟨fun _=>?_,fun _=>⟨fun _=>?_,fun _=>?_⟩⟩⟩
 ·simp+contextual(maxSteps:=1000000)(disch:=omega)only[↓Sd,↓So,↓Sk,↓den,↓Z0,Sa,Sb,Sc,Se,O1.d,O2.d,O3.d,cmI,arI,Z1,Z2,↓reduceIte,Nat.reduceLT,Nat.reduceSub,Nat.reduceAdd,Int.reduceAdd,Int.reduceEq,Int.reduceLT,Int.reduceLE,ZD,ZE,Zkj,Zkk]
  refine Zkf _ _ _ hb (by omega) (by simp) (by simp) fun o o0=>?_;simp+contextual(maxSteps:=1000000)(disch:=omega)only[↓Sd,↓So,↓Sk,↓den,↓Z0,Sa,Sb,Sc,Se,O1.d,O2.d,O3.d,cmI,arI,Z1,Z2,↓reduceIte,Nat.reduceLT,Nat.reduceSub,Nat.reduceAdd,Int.reduceAdd,Int.reduceEq,Int.reduceLT,Int.reduceLE,ZD,ZE,]
  exact h _ _ (by omega) (by simp)
 ·refine Zke _ _ _ hb (by omega) fun n _ _=>?_
  simp+contextual(maxSteps:=1000000)(disch:=omega)only[↓Sd,↓So,↓Sk,↓den,↓Z0,Sa,Sb,Sc,Se,O1.d,O2.d,O3.d,cmI,arI,Z1,Z2,↓reduceIte,Nat.reduceLT,Nat.reduceSub,Nat.reduceAdd,Int.reduceAdd,Int.reduceEq,Int.reduceLT,Int.reduceLE,ZD,ZE,↓ZF,Zkk]
  exact h _ _ (by omega) (by simp)
 ·refine ZV _ _ _ hb (by omega) (by omega) fun n n0 n1=>?_;simp+contextual(maxSteps:=1000000)(disch:=omega)only[↓Sd,↓So,↓Sk,↓den,↓Z0,Sa,Sb,Sc,Se,O1.d,O2.d,O3.d,cmI,arI,Z1,Z2,↓reduceIte,Nat.reduceLT,Nat.reduceSub,Nat.reduceAdd,Int.reduceAdd,Int.reduceEq,Int.reduceLT,Int.reduceLE,ZD,ZE,]
  simp+contextual(maxSteps:=1000000)(disch:=omega)only[↓Sd,↓So,↓Sk,↓den,↓Z0,Sa,Sb,Sc,Se,O1.d,O2.d,O3.d,cmI,arI,Z1,Z2,↓reduceIte,Nat.reduceLT,Nat.reduceSub,Nat.reduceAdd,Int.reduceAdd,Int.reduceEq,Int.reduceLT,Int.reduceLE,ZD,ZE,Zkj]
  exact h _ _ (by omega) (by simp)
 ·refine Zkq _ _ _ _ _ hb (by omega) (by omega) (by omega) fun l p2 h1 h2 h3=>?_
  simp+contextual(maxSteps:=1000000)(disch:=omega)only[↓Sd,↓So,↓Sk,↓den,↓Z0,Sa,Sb,Sc,Se,O1.d,O2.d,O3.d,cmI,arI,Z1,Z2,↓reduceIte,Nat.reduceLT,Nat.reduceSub,Nat.reduceAdd,Int.reduceAdd,Int.reduceEq,Int.reduceLT,Int.reduceLE,ZD,ZE,]
  exact h _ _ (by omega) (by omega)
def Zks (r:Ru):Prop:=r.1.length≤100∧r.2.1.length≤100∧r.2.2.length≤100∧∀x∈r.2.2,x.length≤100
def Zkt (r:Ru):Prop:=r.1.length≤50∧r.2.1.length≤50∧r.2.2.length≤50∧∀x∈r.2.2,x.length≤50
theorem Zkt.sm {r:Ru} (h:Zkt r):Zks r:=⟨by have:=h.1;omega,by have:=h.2.1;omega,by have:=h.2.2.1;omega,fun x hx=>by have:=h.2.2.2 x hx;omega⟩
def Zku (s:Sy):Prop:=s.1.length≤3∧s.2.length≤9∧∀r∈s.2,Zks r
theorem Zku.few {s:Sy} (h:Zku s):ZI s:=by
 refine ⟨by have:=h.1;unfold Few;omega,by have:=h.2.1;unfold Few;omega,fun r hr=>?_⟩
 have h1:=h.2.2 r hr
 exact ⟨by have:=h1.1;unfold Few;omega,by have:=h1.2.1;unfold Few;omega,by have:=h1.2.2.1;unfold Few;omega,fun x hx=>by have:=h1.2.2.2 x hx;unfold Few;omega⟩
theorem Zkv (b:List Int) (p:Int) (vs:List Vr) (many:Nat) (hb:Rdy b) (hp:0≤p∧p≤600000000) (hv1:1≤vs.length) (hv:vs.length≤3) (hm:many≤9) {Q:List AV→Prop} (h:∀(l:List Ru) (p':Int),p≤p'∧p'≤p+20000→l.length≤many→(∀r∈l,Zkt r)→Q [⟨L TR,l⟩,⟨RD,(b,p')⟩]):mc.C ZcA [⟨RD,(b,p)⟩,⟨L V3,vs⟩,⟨I,(many:Int)⟩] Q:=by
 refine mc.c_of Zgt ?_
 simp+contextual(maxSteps:=1000000)(disch:=omega)only[↓Sd,↓So,↓Sk,↓den,↓Z0,Sa,Sb,Sc,Se,O1.d,O2.d,O3.d,cmI,arI,Z1,Z2,↓reduceIte,Nat.reduceLT,Nat.reduceSub,Nat.reduceAdd,Int.reduceAdd,Int.reduceEq,Int.reduceLT,Int.reduceLE,ZD,ZE,Zey]
 refine mc.lp_for (Int×List Ru) (fun i s=>[⟨L V3,vs⟩,⟨I,(many:Int)⟩,⟨I,(i:Int)⟩,⟨L U,b⟩,⟨I,s.1⟩,⟨L TR,s.2⟩]) (fun i s=>p≤s.1∧s.1≤p+2000 * i∧s.2.length=i∧∀r∈s.2,Zkt r) many 0 (p,[]) _ rfl (Nat.zero_le _) ⟨by simp,by simp,rfl,by simp⟩ ?_ ?_
 ·rintro i ⟨p1,l⟩ hi ⟨a1,a2,a3,a4⟩
  simp only at a1 a2 a3 a4
  simp+contextual(maxSteps:=1000000)(disch:=omega)only[↓Sd,↓So,↓Sk,↓den,↓Z0,Sa,Sb,Sc,Se,O1.d,O2.d,O3.d,cmI,arI,Z1,Z2,↓reduceIte,Nat.reduceLT,Nat.reduceSub,Nat.reduceAdd,Int.reduceAdd,Int.reduceEq,Int.reduceLT,Int.reduceLE,ZD,ZE,]
  refine Zkp _ _ _ hb (by omega) hv1 (by omega) fun w p2 hp2 hw=>?_
  simp+contextual(maxSteps:=1000000)(disch:=omega)only[↓Sd,↓So,↓Sk,↓den,↓Z0,Sa,Sb,Sc,Se,O1.d,O2.d,O3.d,cmI,arI,Z1,Z2,↓reduceIte,Nat.reduceLT,Nat.reduceSub,Nat.reduceAdd,Int.reduceAdd,Int.reduceEq,Int.reduceLT,Int.reduceLE,ZD,ZE,]
  refine mc.lp_for (Int×List Int×List (List Tm)) (fun j s=>[⟨L V3,vs⟩,⟨I,(many:Int)⟩,⟨I,(i:Int)⟩,⟨I,(j:Int)⟩,⟨L U,b⟩,⟨I,s.1⟩,⟨L TR,l⟩,⟨L T4,w⟩,⟨L I,s.2.1⟩,⟨L (L T4),s.2.2⟩]) (fun j s=>p2≤s.1∧s.1≤p2+510 * j∧s.2.1.length≤j∧s.2.2.length≤j∧∀x∈s.2.2,x.length≤16) vs.length 0 (p2,[],[]) _ rfl (Nat.zero_le _) ⟨by simp,by simp,by simp,by simp,by simp⟩ ?_ ?_
  ·rintro j ⟨p3,ss,ts⟩ hj ⟨c1,c2,c3,c4,c5⟩
   simp only at c1 c2 c3 c4 c5
   have app:∀(x:List Tm),x.length≤16→∀y∈ts++[x],y.length≤16:=fun x hx y hy=>(List.mem_append.1 hy).elim (c5 y) fun hy=>by rw [List.mem_singleton.1 hy];exact hx
   have l1:∀x,(ss++[x]).length=ss.length+1:=fun x=>by simp
   have l2:∀x,(ts++[x]).length=ts.length+1:=fun x=>by simp
   simp+contextual(maxSteps:=1000000)(disch:=omega)only[↓Sd,↓So,↓Sk,↓den,↓Z0,Sa,Sb,Sc,Se,O1.d,O2.d,O3.d,cmI,arI,Z1,Z2,↓reduceIte,Nat.reduceLT,Nat.reduceSub,Nat.reduceAdd,Int.reduceAdd,Int.reduceEq,Int.reduceLT,Int.reduceLE,ZD,ZE,↓ZF,]
   refine ZV _ _ _ hb (by omega) (by omega) fun a a0 a1=>?_;simp+contextual(maxSteps:=1000000)(disch:=omega)only[↓Sd,↓So,↓Sk,↓den,↓Z0,Sa,Sb,Sc,Se,O1.d,O2.d,O3.d,cmI,arI,Z1,Z2,↓reduceIte,Nat.reduceLT,Nat.reduceSub,Nat.reduceAdd,Int.reduceAdd,Int.reduceEq,Int.reduceLT,Int.reduceLE,ZD,ZE,]
   refine ⟨fun _=>?_,fun _=>⟨fun _=>⟨fun _=>?_,fun _=>?_⟩,fun _=>?_⟩⟩
   ·refine Zkr _ _ _ _ j (by omega) hb (by omega) (by omega) hj fun x p4 hp4 hx=>?_
    simp+contextual(maxSteps:=1000000)(disch:=omega)only[↓Sd,↓So,↓Sk,↓den,↓Z0,Sa,Sb,Sc,Se,O1.d,O2.d,O3.d,cmI,arI,Z1,Z2,↓reduceIte,Nat.reduceLT,Nat.reduceSub,Nat.reduceAdd,Int.reduceAdd,Int.reduceEq,Int.reduceLT,Int.reduceLE,ZD,ZE,↓ZF,]
    exact ⟨(_,_,_),⟨rfl,rfl,rfl⟩,by dsimp only;omega,by dsimp only;omega,by dsimp only;rw [l1];omega,by dsimp only;rw [l2];omega,app x hx⟩
   ·refine ZV _ _ _ hb (by omega) (by omega) fun c c0 c1=>?_;simp+contextual(maxSteps:=1000000)(disch:=omega)only[↓Sd,↓So,↓Sk,↓den,↓Z0,Sa,Sb,Sc,Se,O1.d,O2.d,O3.d,cmI,arI,Z1,Z2,↓reduceIte,Nat.reduceLT,Nat.reduceSub,Nat.reduceAdd,Int.reduceAdd,Int.reduceEq,Int.reduceLT,Int.reduceLE,ZD,ZE,]
    refine ⟨fun _=>?_,fun _=>?_⟩
    ·refine Zkr _ _ _ _ j (by omega) hb (by omega) (by omega) hj fun x p4 hp4 hx=>?_
     simp+contextual(maxSteps:=1000000)(disch:=omega)only[↓Sd,↓So,↓Sk,↓den,↓Z0,Sa,Sb,Sc,Se,O1.d,O2.d,O3.d,cmI,arI,Z1,Z2,↓reduceIte,Nat.reduceLT,Nat.reduceSub,Nat.reduceAdd,Int.reduceAdd,Int.reduceEq,Int.reduceLT,Int.reduceLE,ZD,ZE,↓ZF,]
     exact ⟨(_,_,_),⟨rfl,rfl,rfl⟩,by dsimp only;omega,by dsimp only;omega,by dsimp only;rw [l1];omega,by dsimp only;rw [l2];omega,app x hx⟩
    ·exact ⟨(_,_,_),⟨rfl,rfl,rfl⟩,by dsimp only;omega,by dsimp only;omega,by dsimp only;omega,by dsimp only;omega,c5⟩
   ·exact ⟨(_,_,_),⟨rfl,rfl,rfl⟩,by dsimp only;omega,by dsimp only;omega,by dsimp only;omega,by dsimp only;omega,c5⟩
   ·exact ⟨(_,_,_),⟨rfl,rfl,rfl⟩,by dsimp only;omega,by dsimp only;omega,by dsimp only;omega,by dsimp only;omega,c5⟩
  ·rintro ⟨p3,ss,ts⟩ ⟨c1,c2,c3,c4,c5⟩
   simp only at c1 c2 c3 c4 c5
   simp+contextual(maxSteps:=1000000)(disch:=omega)only[↓Sd,↓So,↓Sk,↓den,↓Z0,Sa,Sb,Sc,Se,O1.d,O2.d,O3.d,cmI,arI,Z1,Z2,↓reduceIte,Nat.reduceLT,Nat.reduceSub,Nat.reduceAdd,Int.reduceAdd,Int.reduceEq,Int.reduceLT,Int.reduceLE,ZD,ZE,]
   refine ⟨(_,_),⟨rfl,rfl⟩,by dsimp only;omega,by dsimp only;omega,by dsimp only;simp [a3],fun r hr=>?_⟩
   rcases List.mem_append.1 hr with hr | hr
   ·exact a4 r hr
   ·rw [List.mem_singleton.1 hr]
    exact ⟨by dsimp only;omega,by dsimp only;omega,by dsimp only;omega,fun x hx=>by have:=c5 x hx;omega⟩
 ·rintro ⟨p1,l⟩ ⟨a1,a2,a3,a4⟩
  simp only at a1 a2 a3 a4
  simp+contextual(maxSteps:=1000000)(disch:=omega)only[↓Sd,↓So,↓Sk,↓den,↓Z0,Sa,Sb,Sc,Se,O1.d,O2.d,O3.d,cmI,arI,Z1,Z2,↓reduceIte,Nat.reduceLT,Nat.reduceSub,Nat.reduceAdd,Int.reduceAdd,Int.reduceEq,Int.reduceLT,Int.reduceLE,ZD,ZE,]
  exact h _ _ (by omega) (by omega) a4
theorem Zkw (b:List Int) (p most:Int) (hb:Rdy b) (hp:0≤p∧p≤500000000) {Q:List AV→Prop} (h:∀(s:Sy) (p':Int),p≤p'∧p'≤p+30000→Zku s→1≤s.1.length→s.2.length≤4→(∀r∈s.2,Zkt r)→Q [⟨L V3,s.1⟩,⟨L TR,s.2⟩,⟨RD,(b,p')⟩]):mc.C ZcB [⟨RD,(b,p)⟩,⟨I,most⟩] Q:=by
 refine mc.c_of Zgu ?_
 simp+contextual(maxSteps:=1000000)(disch:=omega)only[↓Sd,↓So,↓Sk,↓den,↓Z0,Sa,Sb,Sc,Se,O1.d,O2.d,O3.d,cmI,arI,Z1,Z2,↓reduceIte,Nat.reduceLT,Nat.reduceSub,Nat.reduceAdd,Int.reduceAdd,Int.reduceEq,Int.reduceLT,Int.reduceLE,ZD,ZE,Zez]
 refine ZV _ _ _ hb (by omega) (by omega) fun n n0 n1=>?_;simp+contextual(maxSteps:=1000000)(disch:=omega)only[↓Sd,↓So,↓Sk,↓den,↓Z0,Sa,Sb,Sc,Se,O1.d,O2.d,O3.d,cmI,arI,Z1,Z2,↓reduceIte,Nat.reduceLT,Nat.reduceSub,Nat.reduceAdd,Int.reduceAdd,Int.reduceEq,Int.reduceLT,Int.reduceLE,ZD,ZE,]
 obtain ⟨N,hN⟩:∃N:Nat,n=N:=⟨n.toNat,by omega⟩
 subst hN
 refine mc.lp_inv (fun k us=>∃(p1 m:Int) (l:List Vr),us=[⟨I,most⟩,⟨I,m⟩,⟨I,(k:Int)⟩,⟨L U,b⟩,⟨I,p1⟩,⟨L V3,l⟩]∧l.length+k≤1+N∧p≤p1∧p1+3 * k≤p+1+3 * (1+N)) (1+N) _ ⟨p+1,1,[],by simp,by simp,by omega,by omega⟩ ?_
 rintro k us ⟨p1,m,l,rfl,i1,i2,i3⟩
 cases k with
 | zero =>
  simp+contextual(maxSteps:=1000000)(disch:=omega)only[↓Sd,↓So,↓Sk,↓den,↓Z0,Sa,Sb,Sc,Se,O1.d,O2.d,O3.d,cmI,arI,Z1,Z2,↓reduceIte,Nat.reduceLT,Nat.reduceSub,Nat.reduceAdd,Int.reduceAdd,Int.reduceEq,Int.reduceLT,Int.reduceLE,ZD,ZE,]
  refine mc.wp_join (fun us=>∃(l:List Vr),us=[⟨L U,b⟩,⟨I,p1⟩,⟨L V3,l⟩]∧1≤l.length∧l.length≤3) ?_ ?_
  ·simp+contextual(maxSteps:=1000000)(disch:=omega)only[↓Sd,↓So,↓Sk,↓den,↓Z0,Sa,Sb,Sc,Se,O1.d,O2.d,O3.d,cmI,arI,Z1,Z2,↓reduceIte,Nat.reduceLT,Nat.reduceSub,Nat.reduceAdd,Int.reduceAdd,Int.reduceEq,Int.reduceLT,Int.reduceLE,ZD,ZE,]
   exact ⟨fun _=>by omega,fun _=>by omega⟩
  ·rintro us ⟨l,rfl,a1,a2⟩
   simp+contextual(maxSteps:=1000000)(disch:=omega)only[↓Sd,↓So,↓Sk,↓den,↓Z0,Sa,Sb,Sc,Se,O1.d,O2.d,O3.d,cmI,arI,Z1,Z2,↓reduceIte,Nat.reduceLT,Nat.reduceSub,Nat.reduceAdd,Int.reduceAdd,Int.reduceEq,Int.reduceLT,Int.reduceLE,ZD,ZE,]
   refine Zkf _ _ _ hb (by omega) (by simp) (by simp) fun x x0=>?_;simp+contextual(maxSteps:=1000000)(disch:=omega)only[↓Sd,↓So,↓Sk,↓den,↓Z0,Sa,Sb,Sc,Se,O1.d,O2.d,O3.d,cmI,arI,Z1,Z2,↓reduceIte,Nat.reduceLT,Nat.reduceSub,Nat.reduceAdd,Int.reduceAdd,Int.reduceEq,Int.reduceLT,Int.reduceLE,ZD,ZE,]
   have hx:0≤x∧x≤4:=by simp only [List.mem_append,List.mem_singleton] at x0;omega
   obtain ⟨y,hy⟩:∃y:Nat,x=y:=⟨x.toNat,by omega⟩
   subst hy
   refine Zkv _ _ _ _ hb (by omega) a1 a2 (by omega) fun rs p2 hp2 h1 h2=>?_
   simp+contextual(maxSteps:=1000000)(disch:=omega)only[↓Sd,↓So,↓Sk,↓den,↓Z0,Sa,Sb,Sc,Se,O1.d,O2.d,O3.d,cmI,arI,Z1,Z2,↓reduceIte,Nat.reduceLT,Nat.reduceSub,Nat.reduceAdd,Int.reduceAdd,Int.reduceEq,Int.reduceLT,Int.reduceLE,ZD,ZE,↓ZF,]
   exact h (l,rs) _ (by omega) ⟨a2,by dsimp only;omega,fun r hr=>(h2 r hr).sm⟩ a1 (by dsimp only;omega) h2
 | succ k =>
  simp+contextual(maxSteps:=1000000)(disch:=omega)only[↓Sd,↓So,↓Sk,↓den,↓Z0,Sa,Sb,Sc,Se,O1.d,O2.d,O3.d,cmI,arI,Z1,Z2,↓reduceIte,Nat.reduceLT,Nat.reduceSub,Nat.reduceAdd,Int.reduceAdd,Int.reduceEq,Int.reduceLT,Int.reduceLE,ZD,ZE,]
  refine mc.wp_join (fun us=>∃(p2 m:Int) (l:List Vr),us=[⟨I,most⟩,⟨I,m⟩,⟨I,(k:Int)+1⟩,⟨L U,b⟩,⟨I,p2⟩,⟨L V3,l⟩]∧l.length+k≤1+N∧p≤p2∧p2+3 * k≤p+1+3 * (1+N)) ?_ ?_
  ·simp+contextual(maxSteps:=1000000)(disch:=omega)only[↓Sd,↓So,↓Sk,↓den,↓Z0,Sa,Sb,Sc,Se,O1.d,O2.d,O3.d,cmI,arI,Z1,Z2,↓reduceIte,Nat.reduceLT,Nat.reduceSub,Nat.reduceAdd,Int.reduceAdd,Int.reduceEq,Int.reduceLT,Int.reduceLE,ZD,ZE,]
   refine Zkf _ _ _ hb (by omega) (by simp) (by simp) fun x x0=>?_;simp+contextual(maxSteps:=1000000)(disch:=omega)only[↓Sd,↓So,↓Sk,↓den,↓Z0,Sa,Sb,Sc,Se,O1.d,O2.d,O3.d,cmI,arI,Z1,Z2,↓reduceIte,Nat.reduceLT,Nat.reduceSub,Nat.reduceAdd,Int.reduceAdd,Int.reduceEq,Int.reduceLT,Int.reduceLE,ZD,ZE,]
   have hx:2≤x∧x≤5:=by simp only [List.mem_append,List.mem_singleton] at x0;omega
   refine ⟨fun _=>?_,fun _=>⟨_,_,_,⟨rfl,rfl,rfl⟩,by omega,by omega,by omega⟩⟩
   refine Zkf _ _ _ hb (by omega) (by simp) (by simp) fun lo lo0=>?_;simp+contextual(maxSteps:=1000000)(disch:=omega)only[↓Sd,↓So,↓Sk,↓den,↓Z0,Sa,Sb,Sc,Se,O1.d,O2.d,O3.d,cmI,arI,Z1,Z2,↓reduceIte,Nat.reduceLT,Nat.reduceSub,Nat.reduceAdd,Int.reduceAdd,Int.reduceEq,Int.reduceLT,Int.reduceLE,ZD,ZE,]
   refine ZV _ _ _ hb (by omega) (by omega) fun d d0 d1=>?_;simp+contextual(maxSteps:=1000000)(disch:=omega)only[↓Sd,↓So,↓Sk,↓den,↓Z0,Sa,Sb,Sc,Se,O1.d,O2.d,O3.d,cmI,arI,Z1,Z2,↓reduceIte,Nat.reduceLT,Nat.reduceSub,Nat.reduceAdd,Int.reduceAdd,Int.reduceEq,Int.reduceLT,Int.reduceLE,ZD,ZE,]
   simp+contextual(maxSteps:=1000000)(disch:=omega)only[↓Sd,↓So,↓Sk,↓den,↓Z0,Sa,Sb,Sc,Se,O1.d,O2.d,O3.d,cmI,arI,Z1,Z2,↓reduceIte,Nat.reduceLT,Nat.reduceSub,Nat.reduceAdd,Int.reduceAdd,Int.reduceEq,Int.reduceLT,Int.reduceLE,ZD,ZE,↓ZF,]
   exact ⟨_,_,_,⟨rfl,rfl,rfl⟩,by simp only [List.length_append,List.length_singleton];omega,by omega,by omega⟩
  ·rintro us ⟨p2,m,l,rfl,a1,a2,a3⟩
   simp+contextual(maxSteps:=1000000)(disch:=omega)only[↓Sd,↓So,↓Sk,↓den,↓Z0,Sa,Sb,Sc,Se,O1.d,O2.d,O3.d,cmI,arI,Z1,Z2,↓reduceIte,Nat.reduceLT,Nat.reduceSub,Nat.reduceAdd,Int.reduceAdd,Int.reduceEq,Int.reduceLT,Int.reduceLE,ZD,ZE,]
   exact ⟨k,by omega,p2,m,l,⟨rfl,rfl,rfl,rfl⟩,a1,a2,a3⟩
theorem Zkx (b:List Int) (p most:Int) (hb:Rdy b) (hp:0≤p∧p≤400000000) {Q:List AV→Prop} (h:∀(s:Sy) (p':Int),p≤p'∧p'≤p+31000→Zku s→Q [⟨L V3,s.1⟩,⟨L TR,s.2⟩,⟨RD,(b,p')⟩]):mc.C ZcC [⟨RD,(b,p)⟩,⟨I,most⟩] Q:=by
 refine mc.c_of Zgv ?_
 simp+contextual(maxSteps:=1000000)(disch:=omega)only[↓Sd,↓So,↓Sk,↓den,↓Z0,Sa,Sb,Sc,Se,O1.d,O2.d,O3.d,cmI,arI,Z1,Z2,↓reduceIte,Nat.reduceLT,Nat.reduceSub,Nat.reduceAdd,Int.reduceAdd,Int.reduceEq,Int.reduceLT,Int.reduceLE,ZD,ZE,ZeA]
 refine Zkw _ _ _ hb (by omega) fun s p1 hp1 hs h1 h2 h5=>?_
 simp+contextual(maxSteps:=1000000)(disch:=omega)only[↓Sd,↓So,↓Sk,↓den,↓Z0,Sa,Sb,Sc,Se,O1.d,O2.d,O3.d,cmI,arI,Z1,Z2,↓reduceIte,Nat.reduceLT,Nat.reduceSub,Nat.reduceAdd,Int.reduceAdd,Int.reduceEq,Int.reduceLT,Int.reduceLE,ZD,ZE,↓ZF,Zkk]
 refine ZV _ _ _ hb (by omega) (by omega) fun a a0 a1=>?_;simp+contextual(maxSteps:=1000000)(disch:=omega)only[↓Sd,↓So,↓Sk,↓den,↓Z0,Sa,Sb,Sc,Se,O1.d,O2.d,O3.d,cmI,arI,Z1,Z2,↓reduceIte,Nat.reduceLT,Nat.reduceSub,Nat.reduceAdd,Int.reduceAdd,Int.reduceEq,Int.reduceLT,Int.reduceLE,ZD,ZE,]
 refine ⟨fun _=>?_,fun _=>h _ _ (by omega) hs⟩
 have hV:∀(l:List Vr) (p':Int),l.length≤3→p≤p'∧p'≤p+31000→Q [⟨L V3,l⟩,⟨L TR,s.2⟩,⟨RD,(b,p')⟩]:=fun l p' hl hp'=>h (l,s.2) p' hp' ⟨hl,hs.2.1,hs.2.2⟩
 have hR:∀(r:Ru) (p':Int),Zks r→p≤p'∧p'≤p+31000→Q [⟨L V3,s.1⟩,⟨L TR,s.2.set 0 r⟩,⟨RD,(b,p')⟩]:=fun r p' hr hp'=>h (s.1,s.2.set 0 r) p' hp' ⟨hs.1,by rw [List.length_set];exact hs.2.1,fun x hx=>(List.mem_or_eq_of_mem_set hx).elim (hs.2.2 x) fun e=>by rw [e];exact hr⟩
 have hS1:(s.1.set 0 (s.1.getD 0 (0,0,0))).length≤3:=by rw [List.length_set];exact hs.1
 have hsl:∀x:Vr,(s.1.set 0 x).length≤3:=fun x=>by rw [List.length_set];exact hs.1
 have hb0:Zkt (s.2.getD 0 ([],[],[])):=by
  by_cases g:0<s.2.length
  ·exact h5 _ (ZH g)
  ·rw [List.getD_eq_getElem?_getD,List.getElem?_eq_none (by omega)];exact ⟨by simp,by simp,by simp,by simp⟩
 refine ZV _ _ _ hb (by omega) (by omega) fun c c0 c1=>?_;simp+contextual(maxSteps:=1000000)(disch:=omega)only[↓Sd,↓So,↓Sk,↓den,↓Z0,Sa,Sb,Sc,Se,O1.d,O2.d,O3.d,cmI,arI,Z1,Z2,↓reduceIte,Nat.reduceLT,Nat.reduceSub,Nat.reduceAdd,Int.reduceAdd,Int.reduceEq,Int.reduceLT,Int.reduceLE,ZD,ZE,]
 have q1:=hb0.2.1
 have q2:=hb0.2.2.1
 simp+contextual(maxSteps:=1000000)(disch:=omega)only[↓Sd,↓So,↓Sk,↓den,↓Z0,Sa,Sb,Sc,Se,O1.d,O2.d,O3.d,cmI,arI,Z1,Z2,↓reduceIte,Nat.reduceLT,Nat.reduceSub,Nat.reduceAdd,Int.reduceAdd,Int.reduceEq,Int.reduceLT,Int.reduceLE,ZD,ZE,↓ZF,Zkk]
 repeat' first | apply And.intro | intro _
 all_goals first
  | exact hV _ _ (hsl _) (by omega)
  | exact hV _ _ (by simp) (by omega)
  | exact hV _ _ hs.1 (by omega)
  | exact hR _ _ ⟨by simp,hb0.sm.2.1,hb0.sm.2.2.1,hb0.sm.2.2.2⟩ (by omega)
  | exact hR _ _ ⟨hb0.sm.1,by simp only [List.length_append,List.length_singleton];omega,hb0.sm.2.2.1,hb0.sm.2.2.2⟩ (by omega)
  | exact hR _ _ ⟨hb0.sm.1,hb0.sm.2.1,by simp only [List.length_append,List.length_singleton];omega,fun x hx=>(List.mem_append.1 hx).elim (hb0.sm.2.2.2 x) fun hx=>by rw [List.mem_singleton.1 hx];simp⟩ (by omega)
  | skip
 refine Zkf _ _ _ hb (by omega) (by simp) (by simp) fun x x0=>?_;simp+contextual(maxSteps:=1000000)(disch:=omega)only[↓Sd,↓So,↓Sk,↓den,↓Z0,Sa,Sb,Sc,Se,O1.d,O2.d,O3.d,cmI,arI,Z1,Z2,↓reduceIte,Nat.reduceLT,Nat.reduceSub,Nat.reduceAdd,Int.reduceAdd,Int.reduceEq,Int.reduceLT,Int.reduceLE,ZD,ZE,]
 simp+contextual(maxSteps:=1000000)(disch:=omega)only[↓Sd,↓So,↓Sk,↓den,↓Z0,Sa,Sb,Sc,Se,O1.d,O2.d,O3.d,cmI,arI,Z1,Z2,↓reduceIte,Nat.reduceLT,Nat.reduceSub,Nat.reduceAdd,Int.reduceAdd,Int.reduceEq,Int.reduceLT,Int.reduceLE,ZD,ZE,↓ZF,]
 exact hV _ _ (hsl _) (by omega)
theorem Zky (b:List Int) (p vars:Int) (hb:Rdy b) (hp:0≤p∧p≤700000000) (hv:0≤vars∧vars≤5) {Q:List AV→Prop} (h:∀(l:List Tm) (p':Int),p≤p'∧p'≤p+500→1≤l.length→l.length≤16→Q [⟨L T4,l⟩,⟨RD,(b,p')⟩]):mc.C ZcK [⟨RD,(b,p)⟩,⟨I,vars⟩] Q:=by
 refine mc.c_of ZgD ?_
 simp+contextual(maxSteps:=1000000)(disch:=omega)only[↓Sd,↓So,↓Sk,↓den,↓Z0,Sa,Sb,Sc,Se,O1.d,O2.d,O3.d,cmI,arI,Z1,Z2,↓reduceIte,Nat.reduceLT,Nat.reduceSub,Nat.reduceAdd,Int.reduceAdd,Int.reduceEq,Int.reduceLT,Int.reduceLE,ZD,ZE,ZeI]
 refine ZV _ _ _ hb (by omega) (by omega) fun k k0 k1=>?_;simp+contextual(maxSteps:=1000000)(disch:=omega)only[↓Sd,↓So,↓Sk,↓den,↓Z0,Sa,Sb,Sc,Se,O1.d,O2.d,O3.d,cmI,arI,Z1,Z2,↓reduceIte,Nat.reduceLT,Nat.reduceSub,Nat.reduceAdd,Int.reduceAdd,Int.reduceEq,Int.reduceLT,Int.reduceLE,ZD,ZE,]
 refine Zkq _ _ _ _ _ hb (by omega) hv (by omega) fun l p2 h1 h2 h3=>?_
 simp+contextual(maxSteps:=1000000)(disch:=omega)only[↓Sd,↓So,↓Sk,↓den,↓Z0,Sa,Sb,Sc,Se,O1.d,O2.d,O3.d,cmI,arI,Z1,Z2,↓reduceIte,Nat.reduceLT,Nat.reduceSub,Nat.reduceAdd,Int.reduceAdd,Int.reduceEq,Int.reduceLT,Int.reduceLE,ZD,ZE,↓ZF,]
 refine ZV _ _ _ hb (by omega) (by omega) fun a a0 a1=>?_;simp+contextual(maxSteps:=1000000)(disch:=omega)only[↓Sd,↓So,↓Sk,↓den,↓Z0,Sa,Sb,Sc,Se,O1.d,O2.d,O3.d,cmI,arI,Z1,Z2,↓reduceIte,Nat.reduceLT,Nat.reduceSub,Nat.reduceAdd,Int.reduceAdd,Int.reduceEq,Int.reduceLT,Int.reduceLE,ZD,ZE,]
 refine ⟨fun _=>?_,fun _=>h _ _ (by omega) h2 h3⟩
 refine ZV _ _ _ hb (by omega) (by omega) fun i i0 i1=>?_;simp+contextual(maxSteps:=1000000)(disch:=omega)only[↓Sd,↓So,↓Sk,↓den,↓Z0,Sa,Sb,Sc,Se,O1.d,O2.d,O3.d,cmI,arI,Z1,Z2,↓reduceIte,Nat.reduceLT,Nat.reduceSub,Nat.reduceAdd,Int.reduceAdd,Int.reduceEq,Int.reduceLT,Int.reduceLE,ZD,ZE,]
 refine ZV _ _ _ hb (by omega) (by omega) fun f f0 f1=>?_;simp+contextual(maxSteps:=1000000)(disch:=omega)only[↓Sd,↓So,↓Sk,↓den,↓Z0,Sa,Sb,Sc,Se,O1.d,O2.d,O3.d,cmI,arI,Z1,Z2,↓reduceIte,Nat.reduceLT,Nat.reduceSub,Nat.reduceAdd,Int.reduceAdd,Int.reduceEq,Int.reduceLT,Int.reduceLE,ZD,ZE,↓ZF,]
 have hset:∀(x:Tm),1≤(l.set i.toNat x).length∧(l.set i.toNat x).length≤16:=fun x=>by rw [List.length_set];exact ⟨h2,h3⟩
 refine ⟨fun _=>?_,fun _=>⟨fun _=>?_,fun _=>⟨fun _=>?_,fun _=>?_⟩⟩⟩
 ·refine Zkf _ _ _ hb (by omega) (by simp) (by simp) fun x x0=>?_;simp+contextual(maxSteps:=1000000)(disch:=omega)only[↓Sd,↓So,↓Sk,↓den,↓Z0,Sa,Sb,Sc,Se,O1.d,O2.d,O3.d,cmI,arI,Z1,Z2,↓reduceIte,Nat.reduceLT,Nat.reduceSub,Nat.reduceAdd,Int.reduceAdd,Int.reduceEq,Int.reduceLT,Int.reduceLE,ZD,ZE,]
  exact h _ _ (by omega) (hset _).1 (hset _).2
 ·refine Zkf _ _ _ hb (by omega) (by simp) (by simp) fun x x0=>?_;simp+contextual(maxSteps:=1000000)(disch:=omega)only[↓Sd,↓So,↓Sk,↓den,↓Z0,Sa,Sb,Sc,Se,O1.d,O2.d,O3.d,cmI,arI,Z1,Z2,↓reduceIte,Nat.reduceLT,Nat.reduceSub,Nat.reduceAdd,Int.reduceAdd,Int.reduceEq,Int.reduceLT,Int.reduceLE,ZD,ZE,]
  exact h _ _ (by omega) (hset _).1 (hset _).2
 ·refine Zkf _ _ _ hb (by omega) (by simp) (by simp) fun x x0=>?_;simp+contextual(maxSteps:=1000000)(disch:=omega)only[↓Sd,↓So,↓Sk,↓den,↓Z0,Sa,Sb,Sc,Se,O1.d,O2.d,O3.d,cmI,arI,Z1,Z2,↓reduceIte,Nat.reduceLT,Nat.reduceSub,Nat.reduceAdd,Int.reduceAdd,Int.reduceEq,Int.reduceLT,Int.reduceLE,ZD,ZE,]
  exact h _ _ (by omega) (hset _).1 (hset _).2
 ·refine Zkf _ _ _ hb (by omega) (by simp) (by simp) fun x x0=>?_;simp+contextual(maxSteps:=1000000)(disch:=omega)only[↓Sd,↓So,↓Sk,↓den,↓Z0,Sa,Sb,Sc,Se,O1.d,O2.d,O3.d,cmI,arI,Z1,Z2,↓reduceIte,Nat.reduceLT,Nat.reduceSub,Nat.reduceAdd,Int.reduceAdd,Int.reduceEq,Int.reduceLT,Int.reduceLE,ZD,ZE,]
  exact h _ _ (by omega) (hset _).1 (hset _).2
def hw1 (s:Sy) (l:List Tm) (X:List Int) (x:Int):Prop:=ZiP s l x.toNat=true→∀y∈(steps s).getD x.toNat [],y∈X→ZiP s l y.toNat=true
def hw (s:Sy) (l:List Tm) (X:List Int):Prop:=∀x∈X,hw1 s l X x
end Go.Proofs.YtknlennollmgeaaGreat
namespace Go.Proofs.YtknlennollmgeaaGreat
open Go Go.Sm Go.Sm.Q
set_option linter.unusedSimpArgs false
set_option linter.unusedVariables false
theorem Zkz (s:Sy) (l:List Tm) (hs:ZI s) (hf:Few l) (h:valid s∧kf l s.1.length=2) (Q:List AV→Prop):mc.C ZcO [⟨L V3,s.1⟩,⟨L TR,s.2⟩,⟨L T4,l⟩] Q=Q [⟨L B,tab (ZiP s l) (szn s.1)⟩,⟨B,true⟩]:=by
 refine Mc.Ends.c (mc.ends ZgH ?_)
 simp+contextual(maxSteps:=1000000)(disch:=omega)only[↓Sd,↓So,↓Sk,↓den,↓Z0,Sa,Sb,Sc,Se,O1.d,O2.d,O3.d,cmI,arI,Z1,Z2,↓reduceIte,Nat.reduceLT,Nat.reduceSub,Nat.reduceAdd,Int.reduceAdd,Int.reduceEq,Int.reduceLT,Int.reduceLE,ZD,ZE,ZeM,Zjl s l hs hf,h.1,h.2,ZiQ s l h.1 (by omega:kf l s.1.length≠0)]
theorem ZkA (s:Sy) (l:List Tm) (hs:ZI s) (hf:Few l) (h:¬(valid s∧kf l s.1.length=2)) (Q:List AV→Prop):mc.C ZcO [⟨L V3,s.1⟩,⟨L TR,s.2⟩,⟨L T4,l⟩] Q=Q [⟨L B,[]⟩,⟨B,false⟩]:=by
 refine Mc.Ends.c (mc.ends ZgH ?_)
 simp+contextual(maxSteps:=1000000)(disch:=omega)only[↓Sd,↓So,↓Sk,↓den,↓Z0,Sa,Sb,Sc,Se,O1.d,O2.d,O3.d,cmI,arI,Z1,Z2,↓reduceIte,Nat.reduceLT,Nat.reduceSub,Nat.reduceAdd,Int.reduceAdd,Int.reduceEq,Int.reduceLT,Int.reduceLE,ZD,ZE,ZeM,Zjl s l hs hf,h]
def ZkB (p:Nat→Bool):Nat→Int
 | 0 => -1
 | n+1=>if 0≤ZkB p n then ZkB p n else if p n=true then (n:Int) else -1
def rbt (s:Sy) (a b:List Int):Int:=ZkB (fun r=>decide (ZhV s.1 (s.2.getD r ([],[],[])) a≠[]∧ZhV s.1 (s.2.getD r ([],[],[])) a=b)) s.2.length
def ZkC (T:List (List Int)) (f:Nat→Int) (n k a:Nat):Prop:=a<n∧f a+1=f k∧(k:Int)∈T.getD a []∧∀b,b<a→¬(f b+1=f k∧(k:Int)∈T.getD b [])
theorem ZkD {T:List (List Int)} {F:List Int} {n k:Nat} (ht:Tbl T n) (hF:∀x∈F,x<n) (h:0<dst T F k):∃a,ZkC T (dst T F) n k a:=by
 have key:∃a,dst T F a+1=dst T F k∧(k:Int)∈T.getD a []:=by
  obtain ⟨d,hd⟩:∃d:Nat,dst T F k=((d+1:Nat):Int):=⟨(dst T F k).toNat - 1,by omega⟩
  have h1:Lay T F (d+1) k:=Zkb.2 ⟨by omega,by omega⟩
  have h2:¬Lay T F d k:=fun g=>by have:=Zkb.1 g;omega
  rcases h1 with h1 | ⟨a,h1,h3⟩
  ·exact absurd h1 h2
  ·have h4:=Zkb.1 h1
   refine ⟨a,?_,h3⟩
   have h5:Lay T F ((dst T F a).toNat+1) k:=.inr ⟨a,Zkb.2 ⟨h4.1,by omega⟩,h3⟩
   have h6:=Zkb.1 h5
   omega
 obtain ⟨a,h1,h2⟩:=least key
 refine ⟨a,?_,h1.1,h1.2,h2⟩
 have:Rch T F a:=dst_rch.1 (by omega)
 exact this.lt ht hF
def ZkE (T:List (List Int)) (f:Nat→Int) (n k D:Nat) (ch:Nat→Nat):Prop:=ch D=k∧(∀e,e<D→ZkC T f n (ch (e+1)) (ch e))∧∀e,e≤D→ch e<n∧f (ch e)=e
theorem ZkF {T:List (List Int)} {F:List Int} {n:Nat} (ht:Tbl T n) (hF:∀x∈F,x<n):∀{D k:Nat},k<n→dst T F k=D→∃ch,ZkE T (dst T F) n k D ch
 | 0,k,hk,h=>⟨fun _=>k,rfl,fun e he=>absurd he (Nat.not_lt_zero _),fun e he=>⟨hk,by rw [h,show e=0 by omega]⟩⟩
 | D+1,k,hk,h=>by
  obtain ⟨a,ha⟩:=ZkD ht hF (show 0<dst T F k by omega)
  obtain ⟨ch,h1,h2,h3⟩:=ZkF ht hF (D:=D) ha.1 (by have:=ha.2.1;omega)
  refine ⟨fun e=>if e≤D then ch e else k,if_neg (by omega),fun e he=>?_,fun e he=>?_⟩
  ·show ZkC T (dst T F) n (if e+1≤D then ch (e+1) else k) (if e≤D then ch e else k)
   by_cases g:e<D
   ·rw [if_pos (show e≤D by omega),if_pos (show e+1≤D by omega)];exact h2 e g
   ·have:e=D:=by omega
    subst this
    rw [if_pos (Nat.le_refl _),if_neg (by omega),h1];exact ha
  ·show (if e≤D then ch e else k)<n∧dst T F (if e≤D then ch e else k)=e
   by_cases g:e≤D
   ·rw [if_pos g];exact h3 e g
   ·have:e=D+1:=by omega
    subst this
    rw [if_neg (by omega)];exact ⟨hk,h⟩
theorem ZkE.few {T:List (List Int)} {f:Nat→Int} {n k D:Nat} {ch:Nat→Nat} (h:ZkE T f n k D ch):D<n:=by
 have key:∀e,e≤D→e<(ZN (fun k=>decide (0≤f k∧f k≤(e:Int))) n).length:=by
  intro e
  induction e with
  | zero =>
   intro _
   have h1:=h.2.2 0 (by omega)
   exact ZjN.2 ⟨ch 0,h1.1,decide_eq_true (by omega)⟩
  | succ e ih =>
   intro he
   have h1:=ih (by omega)
   have h2:=h.2.2 (e+1) he
   have h3:=Zjb (p:=fun k=>decide (0≤f k∧f k≤(e:Int))) (q:=fun k=>decide (0≤f k∧f k≤((e+1:Nat):Int))) (n:=n) fun k _ hk=>decide_eq_true (by have:=of_decide_eq_true hk;omega)
   by_cases g:(ZN (fun k=>decide (0≤f k∧f k≤((e+1:Nat):Int))) n).length≤(ZN (fun k=>decide (0≤f k∧f k≤(e:Int))) n).length
   ·have h4:=h3.2 g (ch (e+1)) h2.1 (decide_eq_true (by omega))
    have h5:=of_decide_eq_true h4
    omega
   ·omega
 have h1:=key D (Nat.le_refl _)
 have h2:=@ZO (fun k=>decide (0≤f k∧f k≤(D:Int))) n
 omega
theorem ZkG {T:List (List Int)} {F:List Int} {n k:Nat} (ht:Tbl T n) (hF:∀x∈F,x<n) (hk:k<n) : -1≤dst T F k∧dst T F k<n:=by
 have h1 : -1≤dst T F k:=by unfold dst;split<;>omega
 refine ⟨h1,?_⟩
 by_cases g:0≤dst T F k
 ·obtain ⟨ch,hc⟩:=ZkF ht hF (D:=(dst T F k).toNat) hk (by omega)
  have:=hc.few
  omega
 ·omega
structure IsRun (s:Sy) (D:Nat) (f:Nat→List Int):Prop where
 few:D<500
 first:f 0=ZJ s.1
 inr:∀e,e≤D→inR s.1 (f e)
 rule:∀e,e<D→0≤rbt s (f e) (f (e+1))
def ZkH (s:Sy) (f:Nat→List Int) (D:Nat):List Int:=tab (fun e=>rbt s (f e) (f (e+1))) D
theorem IsRun.len {s:Sy} {D:Nat} {f:Nat→List Int} (hv:valid s) (h:IsRun s D f) {e:Nat} (he:e≤D):(f e).length≤1048576:=by
 have:=(h.inr e he).1
 have:=hv.1.2
 omega
def ZkI (l:List (List Int)):Prop:=l.length≤4000∧∀x∈l,x.length≤4000
theorem ZkI.row {l:List (List Int)} (h:ZkI l) (i:Nat):(l.getD i []).length≤4000:=by
 by_cases hi:i<l.length
 ·exact h.2 _ (ZH hi)
 ·rw [List.getD_eq_getElem?_getD,List.getElem?_eq_none (by omega)];simp
def ZkJ (F:List (List Tm)):Prop:=Few F∧∀x∈F,Few x
theorem ZkJ.row {F:List (List Tm)} (h:ZkJ F) (i:Nat):Few (F.getD i []):=by
 by_cases hi:i<F.length
 ·exact h.2 _ (ZH hi)
 ·rw [List.getD_eq_getElem?_getD,List.getElem?_eq_none (by omega)];simp [Few]
theorem ZkI.few {l:List (List Int)} (h:ZkI l):l.length≤1048576∧∀x∈l,x.length≤1048576:=⟨by have:=h.1;omega,fun x hx=>by have:=h.2 x hx;omega⟩
abbrev zT:Tm:=(0,0,0,0)
def tO (t:Tm) (i n:Int):Prop :=
 (t.1=0∧t.2.1=0∧t.2.2.1=0∧t.2.2.2=0)∨(t.1=1∧(0≤t.2.1∧t.2.1≤n - 1)∧t.2.2.1=0∧t.2.2.2=0) ∨
 ((2≤t.1∧t.1≤7)∧t.2.1=0∧(0≤t.2.2.1∧t.2.2.1≤i - 1)∧(0≤t.2.2.2∧t.2.2.2≤i - 1)∧((t.1=2∨t.1=5)→t.2.2.2=t.2.2.1))
instance (t : Tm) (i n : Int) : Decidable (tO t i n) := by unfold tO; infer_instance
def tV (l:List Tm) (n:Int):Prop:=(0≤n∧n≤4)∧(1≤l.length∧l.length≤24)∧∀i,i<l.length→tO (l.getD i zT) i n
instance (l : List Tm) (n : Int) : Decidable (tV l n) := by unfold tV; infer_instance
def gB (l:List Tm) (i:Nat):Bool:=decide ((l.getD i zT).1≥5)
def gS (l:List Tm):List Int:=ZN (gB l) l.length
def asked (l:List Tm) (n:Int):Prop:=tV l n∧n+(gS l).length≤7
instance (l : List Tm) (n : Int) : Decidable (asked l n) := by unfold asked; infer_instance
theorem ZkK {p q:Nat→Bool}:∀{n:Nat},(ZN p n).filter (fun x=>q x.toNat)=ZN (fun k=>p k&&q k) n
 | 0=>rfl
 | n+1=>by
  by_cases g:p n=true
  ·rw [ZiR g,List.filter_append,ZkK]
   by_cases g2:q n=true
   ·rw [ZiR (p:=fun k=>p k&&q k) (by simp [g,g2])]
    simp [g2]
   ·rw [ZiS (p:=fun k=>p k&&q k) (by simp [g,g2])]
    simp [g2]
  ·rw [ZiS g,ZiS (p:=fun k=>p k&&q k) (by simp [g]),ZkK]
theorem ZkL (n:Nat) (hn:n≤1048576) (Q:List AV→Prop):mc.C ZcF [⟨I,0⟩,⟨I,(n:Int)⟩] Q=Q [⟨L I,ZN (fun _=>true) n⟩]:=by
 refine Mc.Ends.c (mc.ends Zgy ?_)
 simp+contextual(maxSteps:=1000000)(disch:=omega)only[↓Sd,↓So,↓Sk,↓den,↓Z0,Sa,Sb,Sc,Se,O1.d,O2.d,O3.d,cmI,arI,Z1,Z2,↓reduceIte,Nat.reduceLT,Nat.reduceSub,Nat.reduceAdd,Int.reduceAdd,Int.reduceEq,Int.reduceLT,Int.reduceLE,ZD,ZE,ZeD]
 refine mc.lp_for (List Int) (fun i o=>[⟨I,0⟩,⟨I,(n:Int)⟩,⟨I,(i:Int)⟩,⟨L I,o⟩]) (fun i o=>o=ZN (fun _=>true) i) n 0 [] _ rfl (Nat.zero_le _) rfl ?_ ?_
 ·rintro i o hi rfl
  have h1:=@ZO (fun _=>true) i
  simp+contextual(maxSteps:=1000000)(disch:=omega)only[↓Sd,↓So,↓Sk,↓den,↓Z0,Sa,Sb,Sc,Se,O1.d,O2.d,O3.d,cmI,arI,Z1,Z2,↓reduceIte,Nat.reduceLT,Nat.reduceSub,Nat.reduceAdd,Int.reduceAdd,Int.reduceEq,Int.reduceLT,Int.reduceLE,ZD,ZE,]
  rw [Int.zero_add]
  exact (ZiR (p:=fun _=>true) rfl).symm
 ·rintro o rfl
  simp+contextual(maxSteps:=1000000)(disch:=omega)only[↓Sd,↓So,↓Sk,↓den,↓Z0,Sa,Sb,Sc,Se,O1.d,O2.d,O3.d,cmI,arI,Z1,Z2,↓reduceIte,Nat.reduceLT,Nat.reduceSub,Nat.reduceAdd,Int.reduceAdd,Int.reduceEq,Int.reduceLT,Int.reduceLE,ZD,ZE,]
theorem ZkM (l:List Int) (x:Int) (hl:l.length≤1048576) (Q:List AV→Prop):mc.C Zcj [⟨L I,l⟩,⟨I,x⟩] Q=Q [⟨B,dB (x∈l)⟩]:=by
 have hI:∀{Q:List AV→Prop},(∀j:Int,(0≤j↔x∈l)→Q [⟨I,j⟩])→mc.C Zce [⟨L I,l⟩,⟨I,x⟩] Q:=by
  intro Q hQ
  refine mc.c_of Zg6 ?_
  simp+contextual(maxSteps:=1000000)(disch:=omega)only[↓Sd,↓So,↓Sk,↓den,↓Z0,Sa,Sb,Sc,Se,O1.d,O2.d,O3.d,cmI,arI,Z1,Z2,↓reduceIte,Nat.reduceLT,Nat.reduceSub,Nat.reduceAdd,Int.reduceAdd,Int.reduceEq,Int.reduceLT,Int.reduceLE,ZD,ZE,Zeb]
  refine ZgT (fun i=>[⟨L I,l⟩,⟨I,x⟩,⟨I,(l.length:Int)⟩,⟨I,(i:Int)⟩]) (fun i=>¬x=l.getD i 0) l.length _ rfl ?_ ?_
  ·intro i hi
   simp+contextual(maxSteps:=1000000)(disch:=omega)only[↓Sd,↓So,↓Sk,↓den,↓Z0,Sa,Sb,Sc,Se,O1.d,O2.d,O3.d,cmI,arI,Z1,Z2,↓reduceIte,Nat.reduceLT,Nat.reduceSub,Nat.reduceAdd,Int.reduceAdd,Int.reduceEq,Int.reduceLT,Int.reduceLE,ZD,ZE,]
   intro h
   refine hQ _ ⟨fun _=>?_,fun _=>by omega⟩
   rw [h];exact ZH hi
  ·intro h
   simp+contextual(maxSteps:=1000000)(disch:=omega)only[↓Sd,↓So,↓Sk,↓den,↓Z0,Sa,Sb,Sc,Se,O1.d,O2.d,O3.d,cmI,arI,Z1,Z2,↓reduceIte,Nat.reduceLT,Nat.reduceSub,Nat.reduceAdd,Int.reduceAdd,Int.reduceEq,Int.reduceLT,Int.reduceLE,ZD,ZE,]
   refine hQ _ ⟨fun h=>by omega,fun hx=>?_⟩
   obtain ⟨i,hi,rfl⟩:=List.getElem_of_mem hx
   exact absurd (getD_lt hi).symm (h i hi)
 refine Mc.Ends.c (mc.ends Zgb ?_)
 simp+contextual(maxSteps:=1000000)(disch:=omega)only[↓Sd,↓So,↓Sk,↓den,↓Z0,Sa,Sb,Sc,Se,O1.d,O2.d,O3.d,cmI,arI,Z1,Z2,↓reduceIte,Nat.reduceLT,Nat.reduceSub,Nat.reduceAdd,Int.reduceAdd,Int.reduceEq,Int.reduceLT,Int.reduceLE,ZD,ZE,Zeg]
 refine hI fun j hj=>?_
 simp+contextual(maxSteps:=1000000)(disch:=omega)only[↓Sd,↓So,↓Sk,↓den,↓Z0,Sa,Sb,Sc,Se,O1.d,O2.d,O3.d,cmI,arI,Z1,Z2,↓reduceIte,Nat.reduceLT,Nat.reduceSub,Nat.reduceAdd,Int.reduceAdd,Int.reduceEq,Int.reduceLT,Int.reduceLE,ZD,ZE,]
 rw [←dB_eq]
 exact ZiW hj
def tAt (l:List Tm) (i:Nat):Tm:=l.getD i (0,0,0,0)
structure TmsOk (l:List Tm) (vars:Int):Prop where
 vb:0≤vars∧vars≤5
 len:1≤l.length∧l.length≤40
 at':∀i,i<l.length→(tAt l i).1=0∨((tAt l i).1=1∧0≤(tAt l i).2.1∧(tAt l i).2.1<vars)∨(2≤(tAt l i).1∧(0≤(tAt l i).2.2.1∧(tAt l i).2.2.1<i)∧0≤(tAt l i).2.2.2∧(tAt l i).2.2.2<i)
inductive Nd (l:List Tm):Nat→Prop
 | top:Nd l (l.length - 1)
 | arg {m j:Nat}:Nd l m→m<l.length→2≤(tAt l m).1→(j=(tAt l m).2.2.1.toNat∨j=(tAt l m).2.2.2.toNat)→Nd l j
def NdI (l:List Tm) (i:Nat) (p:Nat→Bool):Prop:=∀j,j<l.length→(p j=true↔(j=l.length - 1∨∃m,i≤m∧m<l.length∧Nd l m∧2≤(tAt l m).1∧(j=(tAt l m).2.2.1.toNat∨j=(tAt l m).2.2.2.toNat)))
theorem NdI.at' {l:List Tm} {vars:Int} (ho:TmsOk l vars) {m:Nat} {p:Nat→Bool} (h:NdI l (m+1) p) (hm:m<l.length):p m=true↔Nd l m:=by
 rw [h m hm]
 constructor
 ·rintro (h1 | ⟨a,h1,h2,h3,h4,h5⟩)
  ·rw [h1];exact .top
  ·exact .arg h3 h2 h4 h5
 ·intro h1
  cases h1 with
  | top=>exact .inl rfl
  | @arg a _ h2 h3 h4 h5 =>
   refine .inr ⟨a,?_,h3,h2,h4,h5⟩
   rcases ho.at' a h3 with h6 | h6 | h6
   ·omega
   ·omega
   ·omega
theorem NdI.step {l:List Tm} {vars:Int} (ho:TmsOk l vars) {m:Nat} {p:Nat→Bool} (h:NdI l (m+1) p) (hm:m<l.length) (hp:p m=true) (h2:2≤(tAt l m).1) {q:Nat→Bool} (hq:∀j,q j=true↔(j=(tAt l m).2.2.2.toNat∨j=(tAt l m).2.2.1.toNat∨p j=true)):NdI l m q:=by
 intro j hj
 rw [hq,h j hj]
 have hN:=(h.at' ho hm).1 hp
 constructor
 ·rintro (h1 | h1 | h1 | ⟨a,h1,h3⟩)
  ·exact .inr ⟨m,Nat.le_refl _,hm,hN,h2,.inr h1⟩
  ·exact .inr ⟨m,Nat.le_refl _,hm,hN,h2,.inl h1⟩
  ·exact .inl h1
  ·exact .inr ⟨a,by omega,h3⟩
 ·rintro (h1 | ⟨a,h1,h3,h4,h5,h6⟩)
  ·exact .inr (.inr (.inl h1))
  ·by_cases e:a=m
   ·subst e
    rcases h6 with h6 | h6
    ·exact .inr (.inl h6)
    ·exact .inl h6
   ·exact .inr (.inr (.inr ⟨a,by omega,h3,h4,h5,h6⟩))
def rl (s:Sy) (i:Nat):Ru:=s.2.getD i ([],[],[])
inductive Rc (E:Nat→Nat→Bool) (n r:Nat):Nat→Prop
 | base:Rc E n r r
 | step {a m:Nat}:Rc E n r a→m<n→E a m=true→Rc E n r m
theorem Rc.lt {E:Nat→Nat→Bool} {n r:Nat} (hr:r<n) {k:Nat} (hk:Rc E n r k):k<n:=by
 cases hk with
 | base=>exact hr
 | step _ h _=>exact h
def inS (s:Sy) (st:List Int):Prop:=valid s∧inR s.1 st
theorem ZkN {T:List (List Int)} {m k:Nat}:∀{i:Nat},m<i→eqv T m k→(∀y,y<m→¬eqv T y k)→cmp T i k=(m:Int)
 | 0,hm,_,_=>absurd hm (Nat.not_lt_zero _)
 | i+1,hm,he,hl=>by
  unfold cmp
  by_cases h:m<i
  ·rw [ZkN h he hl,if_pos (Int.natCast_nonneg m)]
  ·obtain rfl:m=i:=by omega
   rw [if_neg fun h=>by obtain ⟨y,h1,h2⟩:=Zk1.1.1 h;exact hl y h1 h2,if_pos (ZQ he)]
structure Tj where
 c:Nat
 o:Nat→Nat
 lw:Nat→Nat
 st:List Nat
 out:Nat→Int
structure TInv (U:List (List Int)) (n:Nat) (p:Nat→Bool) (s:Tj) (G:List Nat):Prop where
 lt:∀k,s.o k≠0→k<n∧p k=true
 cnt:∀k,s.o k≤s.c
 stv:∀k,k∈s.st↔s.o k≠0∧s.out k<0
 ord:s.st.Pairwise (fun a b=>s.o a<s.o b)
 outs:∀k,s.out k<0→s.out k = -1
 outv:∀k,0≤s.out k→s.o k≠0
 clsd:∀k y:Nat,0≤s.out k→(y:Int)∈U.getD k []→0≤s.out y
 outc:∀k,0≤s.out k→s.out k=cmp U n k
 blk:∀k y:Nat,s.o k≠0→k∉G→(y:Int)∈U.getD k []→s.o y≠0
 gst:∀g∈G,g∈s.st
 low:∀y∈s.st,∃g∈G,s.o g≤s.o y∧Rch U [(y:Int)] g
 acc:∀g∈G,∀y∈s.st,s.o g≤s.o y→Rch U [(g:Int)] y
 cc:s.c+cntF (fun k=>decide (s.o k≠0)) n≤n
 len:s.st.length≤s.c
structure TExt (s s':Tj):Prop where
 c:s.c≤s'.c
 old:∀k,s.o k≠0→s'.o k=s.o k∧s'.lw k=s.lw k∧s'.out k=s.out k
 new:∀k,s.o k=0→s'.o k≠0→s.c<s'.o k
structure TPost (U:List (List Int)) (n:Nat) (p:Nat→Bool) (s:Tj) (G:List Nat) (v:Nat) (s':Tj) (X:List Nat):Prop where
 inv:TInv U n p s' G
 ext:TExt s s'
 st:s'.st=s.st++X
 vis:s'.o v≠0
 low:(X=[]∧s'.lw v=s'.o v)∨∃y∈s.st,s.o y=s'.lw v∧Rch U [(v:Int)] y
 edge:∀x∈X,∀y∈s.st,(y:Int)∈U.getD x []→s'.lw v≤s.o y
structure TLoop (U:List (List Int)) (n:Nat) (p:Nat→Bool) (s:Tj) (G:List Nat) (v:Nat) (s':Tj) (X:List Nat) (dn:List Nat):Prop where
 hs:TInv U n p s G
 o0:s.o v=0
 inv:TInv U n p s' (v::G)
 ext:TExt s s'
 st:s'.st=s.st++v::X
 ov:s'.o v=s.c+1
 le:s'.lw v≤s'.o v
 low:∃y∈s'.st,s'.o y=s'.lw v∧Rch U [(v:Int)] y
 edge:∀x∈X,∀y∈s.st,(y:Int)∈U.getD x []→s'.lw v≤s.o y
 dn:∀y∈dn,s'.o y≠0∧(y∈s.st→s'.lw v≤s.o y)
theorem TInv.closed {U:List (List Int)} {n:Nat} {p:Nat→Bool} {s:Tj} {G:List Nat} (h:TInv U n p s G) {k y:Nat} (hk:0≤s.out k) (hr:Rch U [(k:Int)] y):0≤s.out y:=by
 induction hr with
 | base h1=>simp only [List.mem_singleton] at h1;have h1:=Int.ofNat_inj.1 h1;subst h1;exact hk
 | step _ h1 ih=>exact h.clsd _ _ ih h1
theorem TExt.trans  {a b c:Tj} (h:TExt a b) (h2:TExt b c):TExt a c:=by
 refine ⟨Nat.le_trans h.c h2.c,fun k hk=>?_,fun k hk hc=>?_⟩
 ·obtain ⟨e1,e2,e3⟩:=h.old k hk
  obtain ⟨f1,f2,f3⟩:=h2.old k (by rw [e1];exact hk)
  exact ⟨f1.trans e1,f2.trans e2,f3.trans e3⟩
 ·by_cases hb:b.o k=0
  ·exact Nat.lt_of_le_of_lt h.c (h2.new k hb hc)
  ·rw [(h2.old k hb).1];exact h.new k hk hb
def Tj.push (s:Tj) (v:Nat):Tj:=⟨s.c+1,fun k=>if k=v then s.c+1 else s.o k,fun k=>if k=v then s.c+1 else s.lw k,s.st++[v],s.out⟩
theorem TLoop.init {U:List (List Int)} {n:Nat} {p:Nat→Bool} {s:Tj} {G:List Nat} {v:Nat} (h:TInv U n p s G) (hv:s.o v=0) (hn:v<n) (hp:p v=true) (ha:∀g∈G,Rch U [(g:Int)] v):TLoop U n p s G v (s.push v) [] []:=by
 have ne:∀{k},s.o k≠0→k≠v:=fun hk he=>hk (he▸hv)
 have on:∀{k},k≠v→(s.push v).o k=s.o k:=fun hk=>if_neg hk
 have ov:(s.push v).o v=s.c+1:=if_pos rfl
 have hvs:v∉s.st:=fun hm=>((h.stv v).1 hm).1 hv
 have hvo:s.out v<0:=by
  rcases Int.lt_or_le (s.out v) 0 with h1 | h1
  ·exact h1
  ·exact absurd hv (h.outv v h1)
 have stn:∀{y},y∈s.st→y≠v:=fun hy he=>hvs (he▸hy)
 refine ⟨h,hv,⟨?_,?_,?_,?_,h.outs,?_,h.clsd,h.outc,?_,?_,?_,?_,?_,?_⟩,⟨Nat.le_succ _,fun k hk=>?_,fun k hk hc=>?_⟩,rfl,ov,Nat.le_of_eq ((if_pos rfl).trans ov.symm),⟨v,by simp [Tj.push],ov.trans (if_pos rfl).symm,Rch.one⟩,fun x hx=>by simp at hx,fun y hy=>by simp at hy⟩
 ·intro k hk
  by_cases he:k=v
  ·subst he;exact ⟨hn,hp⟩
  ·rw [on he] at hk;exact h.lt k hk
 ·intro k
  by_cases he:k=v
  ·subst he;rw [ov];exact Nat.le_refl _
  ·rw [on he];exact Nat.le_succ_of_le (h.cnt k)
 ·intro k
  simp only [Tj.push,List.mem_append,List.mem_singleton]
  by_cases he:k=v
  ·subst he;simp [hvo]
  ·simp only [he,or_false,if_false];exact h.stv k
 ·refine List.pairwise_append.2 ⟨?_,List.pairwise_singleton _ _,fun a ha b hb=>?_⟩
  ·refine h.ord.imp_of_mem fun ha hb hab=>?_
   rw [on (stn ha),on (stn hb)];exact hab
  ·rw [List.mem_singleton.1 hb,ov,on (stn ha)];exact Nat.lt_succ_of_le (h.cnt a)
 ·intro k hk
  have:=h.outv k hk
  rw [on (ne this)];exact this
 ·intro k y hk hkG hy
  simp only [List.mem_cons,not_or] at hkG
  rw [on hkG.1] at hk
  have:=h.blk k y hk hkG.2 hy
  rw [on (ne this)];exact this
 ·intro g hg
  rcases List.mem_cons.1 hg with rfl | hg
  ·simp [Tj.push]
  ·exact List.mem_append_left _ (h.gst g hg)
 ·intro y hy
  rcases List.mem_append.1 hy with hy | hy
  ·obtain ⟨g,g1,g2,g3⟩:=h.low y hy
   exact ⟨g,List.mem_cons_of_mem _ g1,by rw [on (stn (h.gst g g1)),on (stn hy)];exact g2,g3⟩
  ·rw [List.mem_singleton.1 hy]
   exact ⟨v,List.mem_cons_self ..,Nat.le_refl _,Rch.one⟩
 ·intro g hg y hy hle
  rcases List.mem_append.1 hy with hy1 | hy1
  ·rcases List.mem_cons.1 hg with hg1 | hg1
   ·rw [hg1,ov,on (stn hy1)] at hle
    have:=h.cnt y;omega
   ·rw [on (stn (h.gst g hg1)),on (stn hy1)] at hle
    exact h.acc g hg1 y hy1 hle
  ·rw [List.mem_singleton.1 hy1]
   rcases List.mem_cons.1 hg with hg1 | hg1
   ·rw [hg1];exact Rch.one
   ·exact ha g hg1
 ·have h1:=Zjj (p:=fun k=>decide (s.o k≠0)) (j:=v) (by simp [hv]) hn
  have h2:cntF (fun k=>decide ((s.push v).o k≠0)) n=cntF (fun k=>if k=v then true else decide (s.o k≠0)) n:=ZjY fun k _=>by
   by_cases he:k=v
   ·subst he;rw [ov];simp
   ·rw [on he,if_neg he]
  have h3:=h.cc
  show s.c+1+_≤n
  rw [h2];omega
 ·have:=h.len
  simp only [Tj.push,List.length_append,List.length_singleton];omega
 ·exact ⟨on (ne hk),if_neg (ne hk),rfl⟩
 ·by_cases he:k=v
  ·subst he;rw [ov];exact Nat.lt_succ_self _
  ·rw [on he] at hc;exact absurd hk hc
def Tj.setL (s:Tj) (v x:Nat):Tj:=⟨s.c,s.o,fun k=>if k=v then x else s.lw k,s.st,s.out⟩
theorem TInv.setL {U:List (List Int)} {n:Nat} {p:Nat→Bool} {s:Tj} {G:List Nat} {v:Nat} (h:TInv U n p s G) {x:Nat}:TInv U n p (s.setL v x) G:=⟨h.lt,h.cnt,h.stv,h.ord,h.outs,h.outv,h.clsd,h.outc,h.blk,h.gst,h.low,h.acc,h.cc,h.len⟩
theorem TExt.setL {s:Tj} {s':Tj} {v:Nat} (h:TExt s s') (hv:s.o v=0) {x:Nat}:TExt s (s'.setL v x) :=
 ⟨h.c,fun k hk=>by obtain ⟨a,b,c⟩:=h.old k hk;exact ⟨a,(if_neg (fun he:k=v=>hk (he▸hv))).trans b,c⟩,h.new⟩
theorem ZkO {U:List (List Int)} {a b:Nat} (h:(b:Int)∈U.getD a []):Rch U [(a:Int)] b:=.step .one h
theorem TLoop.closed {U:List (List Int)} {n:Nat} {p:Nat→Bool} {s:Tj} {s':Tj} {G:List Nat} {ext:List Nat} {dn:List Nat} {v:Nat} {m:Nat} (h:TLoop U n p s G v s' ext dn) (hm:0≤s'.out m):TLoop U n p s G v s' ext (m::dn):=by
 refine { h with dn:=fun y hy=>?_ }
 rcases List.mem_cons.1 hy with rfl | hy
 ·refine ⟨h.inv.outv _ hm,fun hs=>?_⟩
  have:=((h.inv.stv y).1 (by rw [h.st];exact List.mem_append_left _ hs)).2
  omega
 ·exact h.dn y hy
theorem TLoop.back {U:List (List Int)} {n:Nat} {p:Nat→Bool} {s:Tj} {s':Tj} {G:List Nat} {ext:List Nat} {dn:List Nat} {v:Nat} {m:Nat} (h:TLoop U n p s G v s' ext dn) (ho:s'.o m≠0) (hm:s'.out m<0) (he:(m:Int)∈U.getD v []):TLoop U n p s G v (s'.setL v (min (s'.lw v) (s'.o m))) ext (m::dn):=by
 have hl:(s'.setL v (min (s'.lw v) (s'.o m))).lw v=min (s'.lw v) (s'.o m):=if_pos rfl
 refine ⟨h.hs,h.o0,h.inv.setL,h.ext.setL h.o0,h.st,h.ov,?_,?_,fun x hx y hy hxy=>?_,fun y hy=>?_⟩
 ·rw [hl];exact Nat.le_trans (Nat.min_le_left _ _) h.le
 ·rw [hl]
  rcases Nat.le_total (s'.lw v) (s'.o m) with hc | hc
  ·rw [Nat.min_eq_left hc];exact h.low
  ·rw [Nat.min_eq_right hc];exact ⟨m,(h.inv.stv m).2 ⟨ho,hm⟩,rfl,ZkO he⟩
 ·rw [hl];exact Nat.le_trans (Nat.min_le_left _ _) (h.edge x hx y hy hxy)
 ·rw [hl]
  rcases List.mem_cons.1 hy with rfl | hy
  ·refine ⟨ho,fun hs=>?_⟩
   rw [←(h.ext.old y ((h.hs.stv y).1 hs).1).1]
   exact Nat.min_le_right _ _
  ·exact ⟨(h.dn y hy).1,fun hs=>Nat.le_trans (Nat.min_le_left _ _) ((h.dn y hy).2 hs)⟩
theorem TLoop.child {U:List (List Int)} {n:Nat} {p:Nat→Bool} {s:Tj} {s':Tj} {s2:Tj} {G:List Nat} {ext:List Nat} {ext2:List Nat} {dn:List Nat} {v m:Nat} (h:TLoop U n p s G v s' ext dn) (ho:s'.o m=0) (hP:TPost U n p s' (v::G) m s2 ext2) (he:(m:Int)∈U.getD v []) :
  TLoop U n p s G v (s2.setL v (min (s2.lw v) (s2.lw m))) (ext++ext2) (m::dn):=by
 have hov:s'.o v≠0:=by rw [h.ov];omega
 obtain ⟨v1,v2,-⟩:=hP.ext.old v hov
 have hl:(s2.setL v (min (s2.lw v) (s2.lw m))).lw v=min (s'.lw v) (s2.lw m):=by rw [←v2];exact if_pos rfl
 have inS:∀{y},y∈s.st→y∈s'.st:=fun hy=>by rw [h.st];exact List.mem_append_left _ hy
 have oS:∀{y},y∈s.st→s'.o y=s.o y:=fun hy=>(h.ext.old _ ((h.hs.stv _).1 hy).1).1
 refine ⟨h.hs,h.o0,hP.inv.setL,(h.ext.trans hP.ext).setL h.o0,?_,v1.trans h.ov,?_,?_,fun x hx y hy hxy=>?_,fun y hy=>?_⟩
 ·show s2.st=_
  rw [hP.st,h.st];simp
 ·rw [hl];exact Nat.le_trans (Nat.min_le_left _ _) (by show _≤s2.o v;rw [v1];exact h.le)
 ·rw [hl]
  have first:s'.lw v≤s2.lw m→∃y∈s2.st,s2.o y=min (s'.lw v) (s2.lw m)∧Rch U [(v:Int)] y:=by
   intro hc
   rw [Nat.min_eq_left hc]
   obtain ⟨y,y1,y2,y3⟩:=h.low
   exact ⟨y,by rw [hP.st];exact List.mem_append_left _ y1,by rw [(hP.ext.old y ((h.inv.stv y).1 y1).1).1];exact y2,y3⟩
  rcases hP.low with ⟨-,hq⟩ | ⟨y,y1,y2,y3⟩
  ·refine first ?_
   have h1:=hP.ext.new m ho hP.vis
   have h2:=h.inv.cnt v
   have h3:=h.le
   rw [hq];omega
  ·rcases Nat.le_total (s'.lw v) (s2.lw m) with hc | hc
   ·exact first hc
   ·rw [Nat.min_eq_right hc]
    exact ⟨y,by show y∈s2.st;rw [hP.st];exact List.mem_append_left _ y1,by show s2.o y=_;rw [(hP.ext.old y ((h.inv.stv y).1 y1).1).1];exact y2,(ZkO he).trans y3⟩
 ·rw [hl]
  rcases List.mem_append.1 hx with hx | hx
  ·exact Nat.le_trans (Nat.min_le_left _ _) (h.edge x hx y hy hxy)
  ·exact Nat.le_trans (Nat.min_le_right _ _) (by rw [←oS hy];exact hP.edge x hx y (inS hy) hxy)
 ·rw [hl]
  rcases List.mem_cons.1 hy with rfl | hy
  ·refine ⟨hP.vis,fun hs=>?_⟩
   exact absurd ho ((h.inv.stv y).1 (inS hs)).1
  ·obtain ⟨d1,d2⟩:=h.dn y hy
   exact ⟨by show s2.o y≠0;rw [(hP.ext.old y d1).1];exact d1,fun hs=>Nat.le_trans (Nat.min_le_left _ _) (d2 hs)⟩
theorem TLoop.ge {U:List (List Int)} {n:Nat} {p:Nat→Bool} {s:Tj} {s':Tj} {G:List Nat} {ext:List Nat} {dn:List Nat} {v:Nat} (h:TLoop U n p s G v s' ext dn) {x:Nat} (hx:x∈v::ext):s'.o v≤s'.o x:=by
 have h6:=h.inv.ord
 rw [h.st,List.pairwise_append] at h6
 rcases List.mem_cons.1 hx with rfl | hx
 ·exact Nat.le_refl _
 ·exact Nat.le_of_lt ((List.pairwise_cons.1 h6.2.1).1 x hx)
theorem TLoop.lt {U:List (List Int)} {n:Nat} {p:Nat→Bool} {s:Tj} {s':Tj} {G:List Nat} {ext:List Nat} {dn:List Nat} {v:Nat} (h:TLoop U n p s G v s' ext dn) {y:Nat} (hy:y∈s.st):s'.o y<s'.o v:=by
 rw [(h.ext.old y ((h.hs.stv y).1 hy).1).1,h.ov]
 exact Nat.lt_succ_of_le (h.hs.cnt y)
theorem TLoop.inA {U:List (List Int)} {n:Nat} {p:Nat→Bool} {s:Tj} {s':Tj} {G:List Nat} {ext:List Nat} {dn:List Nat} {v:Nat} (h:TLoop U n p s G v s' ext dn) {x:Nat} (hx:x∈v::ext):x∈s'.st:=by
 rw [h.st];exact List.mem_append_right _ hx
theorem TLoop.nG {U:List (List Int)} {n:Nat} {p:Nat→Bool} {s:Tj} {s':Tj} {G:List Nat} {ext:List Nat} {dn:List Nat} {v:Nat} (h:TLoop U n p s G v s' ext dn) {x:Nat} (hx:x∈v::ext):x∉s.st:=fun hs=>by
 have:=h.ge hx;have:=h.lt hs;omega
theorem TLoop.keep {U:List (List Int)} {n:Nat} {p:Nat→Bool} {s:Tj} {s':Tj} {G:List Nat} {ext:List Nat} {dn:List Nat} {v:Nat} (h:TLoop U n p s G v s' ext dn) (hne:s'.lw v≠s'.o v) (hd:∀y:Nat,(y:Int)∈U.getD v []→y∈dn):TPost U n p s G v s' (v::ext):=by
 obtain ⟨y0,z1,z2,z3⟩:=h.low
 have hlt:s'.lw v<s'.o v:=Nat.lt_of_le_of_ne h.le hne
 refine ⟨{ h.inv with blk:=fun k y hk hG hy=>?_,gst:=fun g hg=>h.inv.gst g (List.mem_cons_of_mem _ hg),low:=fun y hy=>?_,acc:=fun g hg=>h.inv.acc g (List.mem_cons_of_mem _ hg) },h.ext,h.st,by rw [h.ov];omega,.inr ⟨y0,?_,?_,z3⟩,fun x hx y hy hxy=>?_⟩
 ·by_cases he:k=v
  ·subst he;exact (h.dn y (hd y hy)).1
  ·exact h.inv.blk k y hk (by simp [he,hG]) hy
 ·obtain ⟨g,g1,g2,g3⟩:=h.inv.low y hy
  rcases List.mem_cons.1 g1 with rfl | g1
  ·obtain ⟨g0,f1,f2,f3⟩:=h.inv.low y0 z1
   rcases List.mem_cons.1 f1 with rfl | f1
   ·omega
   ·exact ⟨g0,f1,by omega,g3.trans (z3.trans f3)⟩
  ·exact ⟨g,g1,g2,g3⟩
 ·have:=z1
  rw [h.st] at this
  rcases List.mem_append.1 this with h1 | h1
  ·exact h1
  ·have:=h.ge h1;omega
 ·have h1:y0∈s.st:=by
   have:=z1
   rw [h.st] at this
   rcases List.mem_append.1 this with h1 | h1
   ·exact h1
   ·have:=h.ge h1;omega
  rw [←(h.ext.old y0 ((h.hs.stv y0).1 h1).1).1];exact z2
 ·rcases List.mem_cons.1 hx with rfl | hx
  ·exact (h.dn y (hd y hxy)).2 hy
  ·exact h.edge x hx y hy hxy
def Tj.pop (s':Tj) (st A:List Nat) (mu:Nat):Tj:=⟨s'.c,s'.o,s'.lw,st,fun k=>if k∈A then (mu:Int) else s'.out k⟩
theorem TLoop.pop {U:List (List Int)} {n:Nat} {p:Nat→Bool} {s:Tj} {s':Tj} {G:List Nat} {ext:List Nat} {dn:List Nat} {v:Nat} (h:TLoop U n p s G v s' ext dn) (he:s'.lw v=s'.o v) (hd:∀y:Nat,(y:Int)∈U.getD v []→y∈dn) {mu:Nat} (hm:mu∈v::ext) (hl:∀x∈v::ext,mu≤x) :
  TPost U n p s G v (s'.pop s.st (v::ext) mu) []:=by
 have hout:∀{x},x∈v::ext→s'.o x≠0∧s'.out x<0:=fun hx=>(h.inv.stv _).1 (h.inA hx)
 have hvA:v∈v::ext:=List.mem_cons_self ..
 have F1:∀{x},x∈v::ext→Rch U [(v:Int)] x∧Rch U [(x:Int)] v:=by
  intro x hx
  refine ⟨h.inv.acc v (List.mem_cons_self ..) x (h.inA hx) (h.ge hx),?_⟩
  obtain ⟨g,g1,g2,g3⟩:=h.inv.low x (h.inA hx)
  rcases List.mem_cons.1 g1 with rfl | g4
  ·exact g3
  ·exact g3.trans (h.inv.acc g g1 v (h.inA hvA) (Nat.le_of_lt (h.lt (h.hs.gst g g4))))
 have F2:∀{x:Nat},x∈v::ext→∀y:Nat,(y:Int)∈U.getD x []→y∈v::ext∨0≤s'.out y:=by
  intro x hx y hy
  have hvis:s'.o y≠0:=by
   rcases List.mem_cons.1 hx with rfl | hx'
   ·exact (h.dn y (hd y hy)).1
   ·by_cases hxv:x=v
    ·subst hxv;exact (h.dn y (hd y hy)).1
    ·refine h.inv.blk x y (hout hx).1 (fun hG=>?_) hy
     rcases List.mem_cons.1 hG with hG | hG
     ·exact hxv hG
     ·exact h.nG hx (h.hs.gst x hG)
  rcases Int.lt_or_le (s'.out y) 0 with h1 | h1
  ·left
   have h2:=(h.inv.stv y).2 ⟨hvis,h1⟩
   rw [h.st] at h2
   rcases List.mem_append.1 h2 with h6 | h6
   ·exfalso
    have h3:s'.lw v≤s.o y:=by
     rcases List.mem_cons.1 hx with hx' | hx'
     ·rw [hx'] at hy;exact (h.dn y (hd y hy)).2 h6
     ·exact h.edge x hx' y h6 hy
    have h4:=h.hs.cnt y
    have h5:=h.ov
    omega
   ·exact h6
  ·exact .inr h1
 have F3:∀{z},Rch U [(v:Int)] z→Rch U [(z:Int)] v→z∈v::ext:=by
  intro z hz
  induction hz with
  | base h1=>intro _;simp only [List.mem_singleton] at h1;have h1:=Int.ofNat_inj.1 h1;subst h1;exact hvA
  | step _ h1 ih =>
   intro h2
   rcases F2 (ih ((ZkO h1).trans h2)) _ h1 with h3 | h3
   ·exact h3
   ·have:=h.inv.closed h3 h2
    have:=(hout hvA).2
    omega
 have F4:∀{x},x∈v::ext→cmp U n x=(mu:Int):=by
  intro x hx
  refine ZkN (h.inv.lt mu (hout hm).1).1 ⟨(F1 hm).2.trans (F1 hx).1,(F1 hx).2.trans (F1 hm).1⟩ fun y hy hyx=>?_
  have:=hl y (F3 ((F1 hx).1.trans hyx.2) (hyx.1.trans (F1 hx).2))
  omega
 have outA:∀{k},k∈v::ext→(s'.pop s.st (v::ext) mu).out k=mu:=fun hk=>if_pos hk
 have outN:∀{k},k∉v::ext→(s'.pop s.st (v::ext) mu).out k=s'.out k:=fun hk=>if_neg hk
 have inS:∀{y},y∈s.st→y∈s'.st:=fun hy=>by rw [h.st];exact List.mem_append_left _ hy
 refine ⟨⟨h.inv.lt,h.inv.cnt,fun k=>?_,?_,fun k hk=>?_,fun k hk=>?_,fun k y hk hy=>?_,fun k hk=>?_,fun k y hk hG hy=>?_,h.hs.gst,fun y hy=>?_,fun g hg y hy=>h.inv.acc g (List.mem_cons_of_mem _ hg) y (inS hy),h.inv.cc,Nat.le_trans h.hs.len h.ext.c⟩,⟨h.ext.c,fun k hk=>?_,h.ext.new⟩,by simp [Tj.pop],(hout hvA).1,.inl ⟨rfl,he⟩,fun x hx=>by simp at hx⟩
 ·constructor
  ·intro hk
   have h1:=(h.inv.stv k).1 (inS hk)
   exact ⟨h1.1,by rw [outN fun hA=>h.nG hA hk];exact h1.2⟩
  ·rintro ⟨h1,h2⟩
   by_cases hA:k∈v::ext
   ·rw [outA hA] at h2;omega
   ·rw [outN hA] at h2
    have h3:=(h.inv.stv k).2 ⟨h1,h2⟩
    rw [h.st] at h3
    rcases List.mem_append.1 h3 with h3 | h3
    ·exact h3
    ·exact absurd h3 hA
 ·have h6:=h.inv.ord
  rw [h.st,List.pairwise_append] at h6
  exact h6.1
 ·by_cases hA:k∈v::ext
  ·rw [outA hA] at hk;omega
  ·rw [outN hA] at hk ⊢;exact h.inv.outs k hk
 ·by_cases hA:k∈v::ext
  ·exact (hout hA).1
  ·rw [outN hA] at hk;exact h.inv.outv k hk
 ·have fin:y∈v::ext∨0≤s'.out y→0≤(s'.pop s.st (v::ext) mu).out y:=by
   intro hy
   by_cases hA:y∈v::ext
   ·rw [outA hA];exact Int.natCast_nonneg _
   ·rw [outN hA];exact hy.resolve_left hA
  by_cases hA:k∈v::ext
  ·exact fin (F2 hA y hy)
  ·rw [outN hA] at hk;exact fin (.inr (h.inv.clsd k y hk hy))
 ·by_cases hA:k∈v::ext
  ·rw [outA hA,F4 hA]
  ·rw [outN hA] at hk ⊢;exact h.inv.outc k hk
 ·by_cases hkv:k=v
  ·subst hkv;exact (h.dn y (hd y hy)).1
  ·exact h.inv.blk k y hk (by simp [hkv,hG]) hy
 ·obtain ⟨g,g1,g2,g3⟩:=h.inv.low y (inS hy)
  rcases List.mem_cons.1 g1 with rfl | g1
  ·have:=h.lt hy
   have:s'.o g≤s'.o y:=g2
   omega
  ·exact ⟨g,g1,g2,g3⟩
 ·obtain ⟨a1,a2,a3⟩:=h.ext.old k hk
  refine ⟨a1,a2,?_⟩
  rw [outN fun hA=>?_];exact a3
  have h1:=h.ge hA
  have h2:=h.hs.cnt k
  have h3:=h.ov
  omega
def tj0:Tj:=⟨0,fun _=>0,fun _=>0,[],fun _ => -1⟩
theorem TInv.zero {U:List (List Int)} {n:Nat} {p:Nat→Bool}:TInv U n p tj0 [] :=
 ⟨fun k hk=>absurd rfl hk,fun k=>Nat.le_refl _,fun k=>by simp [tj0],List.Pairwise.nil,fun _ _=>rfl,fun k hk=>by simp [tj0] at hk,fun k y hk=>by simp [tj0] at hk,fun k hk=>by simp [tj0] at hk,fun k y hk=>absurd rfl hk,fun g hg=>by simp at hg,fun y hy=>by simp [tj0] at hy,fun g hg=>by simp at hg,by simpa [tj0] using @Zji _ n,Nat.le_refl _⟩
theorem TInv.empty {U:List (List Int)} {n:Nat} {p:Nat→Bool} {s:Tj} (h:TInv U n p s []):s.st=[]:=by
 cases hs:s.st with
 | nil=>rfl
 | cons y l =>
  obtain ⟨g,hg,_⟩:=h.low y (by rw [hs];exact List.mem_cons_self ..)
  simp at hg
theorem TInv.done {U:List (List Int)} {n:Nat} {p:Nat→Bool} {s:Tj} (h:TInv U n p s []) (ha:∀k,k<n→p k=true→s.o k≠0) {k:Nat} (hk:k<n):s.out k=if p k=true then cmp U n k else -1:=by
 by_cases hp:p k=true
 ·rw [if_pos hp]
  refine h.outc k ?_
  rcases Int.lt_or_le (s.out k) 0 with h1 | h1
  ·have h2:=(h.stv k).2 ⟨ha k hk hp,h1⟩
   rw [h.empty] at h2;simp at h2
  ·exact h1
 ·rw [if_neg hp]
  refine h.outs k ?_
  rcases Int.lt_or_le (s.out k) 0 with h1 | h1
  ·exact h1
  ·exact absurd (h.lt k (h.outv k h1)).2 hp
def ZkP (l:List Int) (M:Int):Prop:=M∈l∧∀x∈l,M≤x
theorem ZkP.eq {l:List Int} {M N:Int} (h:ZkP l M) (h2:ZkP l N):M=N:=Int.le_antisymm (h.2 _ h2.1) (h2.2 _ h.1)
theorem ZkQ (l:List Int) (M:Int) (h:ZkP l M) (hl:l.length≤1048576) (Q:List AV→Prop):mc.C Zcf [⟨L I,l⟩] Q=Q [⟨I,M⟩]:=by
 have hp:0<l.length:=List.length_pos_of_mem h.1
 refine Mc.Ends.c (mc.ends Zg7 ?_)
 simp+contextual(maxSteps:=1000000)(disch:=omega)only[↓Sd,↓So,↓Sk,↓den,↓Z0,Sa,Sb,Sc,Se,O1.d,O2.d,O3.d,cmI,arI,Z1,Z2,↓reduceIte,Nat.reduceLT,Nat.reduceSub,Nat.reduceAdd,Int.reduceAdd,Int.reduceEq,Int.reduceLT,Int.reduceLE,ZD,ZE,Zec]
 refine mc.lp_for Int (fun i m=>[⟨L I,l⟩,⟨I,m⟩,⟨I,(i:Int)⟩]) (fun i m=>1≤i∧ZkP (l.take i) m) l.length 1 (l.getD 0 0) _ (by simp) (by omega) ⟨Nat.le_refl _,?_⟩ ?_ ?_
 ·cases l with
  | nil=>simp at hp
  | cons x l=>exact ⟨by simp,by simp⟩
 ·rintro i m hi ⟨h0,h1⟩
  simp+contextual(maxSteps:=1000000)(disch:=omega)only[↓Sd,↓So,↓Sk,↓den,↓Z0,Sa,Sb,Sc,Se,O1.d,O2.d,O3.d,cmI,arI,Z1,Z2,↓reduceIte,Nat.reduceLT,Nat.reduceSub,Nat.reduceAdd,Int.reduceAdd,Int.reduceEq,Int.reduceLT,Int.reduceLE,ZD,ZE,]
  refine ⟨by omega,?_,fun x hx=>?_⟩
  ·split
   ·exact (ZU hi).2 (.inr rfl)
   ·exact (ZU hi).2 (.inl h1.1)
  ·rcases (ZU hi).1 hx with h2 | h2
   ·have:=h1.2 x h2
    split
    ·rename_i g;exact Int.le_trans (Int.le_of_lt g) this
    ·exact this
   ·rw [h2]
    split
    ·exact Int.le_refl _
    ·rename_i g;exact Int.not_lt.1 g
 ·rintro m ⟨h0,h1⟩
  rw [List.take_length] at h1
  have:=h1.eq h
  subst this
  simp+contextual(maxSteps:=1000000)(disch:=omega)only[↓Sd,↓So,↓Sk,↓den,↓Z0,Sa,Sb,Sc,Se,O1.d,O2.d,O3.d,cmI,arI,Z1,Z2,↓reduceIte,Nat.reduceLT,Nat.reduceSub,Nat.reduceAdd,Int.reduceAdd,Int.reduceEq,Int.reduceLT,Int.reduceLE,ZD,ZE,]
theorem ZkR (a b:List Int) (x:Int) (ha:x∉a) (hl:(a++x::b).length≤1048576) (Q:List AV→Prop):mc.C Zce [⟨L I,a++x::b⟩,⟨I,x⟩] Q=Q [⟨I,(a.length:Int)⟩]:=by
 refine Mc.Ends.c (mc.ends Zg6 ?_)
 have hlen:(a++x::b).length=a.length+(b.length+1):=by simp
 simp+contextual(maxSteps:=1000000)(disch:=omega)only[↓Sd,↓So,↓Sk,↓den,↓Z0,Sa,Sb,Sc,Se,O1.d,O2.d,O3.d,cmI,arI,Z1,Z2,↓reduceIte,Nat.reduceLT,Nat.reduceSub,Nat.reduceAdd,Int.reduceAdd,Int.reduceEq,Int.reduceLT,Int.reduceLE,ZD,ZE,Zeb]
 refine mc.lp_inv (fun j us=>∃i,i≤a.length∧us=[⟨L I,a++x::b⟩,⟨I,x⟩,⟨I,(a.length:Int)+((b.length:Int)+1)⟩,⟨I,(i:Int)⟩]∧j=a.length - i) _ _ ⟨0,Nat.zero_le _,rfl,rfl⟩ ?_
 rintro j us ⟨i,hi,rfl,rfl⟩
 by_cases h:i=a.length
 ·subst h
  have h1:(a++x::b).getD a.length 0=x:=by simp
  simp+contextual(maxSteps:=1000000)(disch:=omega)only[↓Sd,↓So,↓Sk,↓den,↓Z0,Sa,Sb,Sc,Se,O1.d,O2.d,O3.d,cmI,arI,Z1,Z2,↓reduceIte,Nat.reduceLT,Nat.reduceSub,Nat.reduceAdd,Int.reduceAdd,Int.reduceEq,Int.reduceLT,Int.reduceLE,ZD,ZE,hlen,h1]
 ·have h1:(a++x::b).getD i 0=a.getD i 0:=by
   rw [List.getD_eq_getElem?_getD,List.getD_eq_getElem?_getD,List.getElem?_append_left (by omega)]
  have h2:¬x=a.getD i 0:=fun he=>ha (by rw [he];exact ZH (by omega))
  simp+contextual(maxSteps:=1000000)(disch:=omega)only[↓Sd,↓So,↓Sk,↓den,↓Z0,Sa,Sb,Sc,Se,O1.d,O2.d,O3.d,cmI,arI,Z1,Z2,↓reduceIte,Nat.reduceLT,Nat.reduceSub,Nat.reduceAdd,Int.reduceAdd,Int.reduceEq,Int.reduceLT,Int.reduceLE,ZD,ZE,hlen,h1,h2]
  refine ⟨a.length - (i+1),by omega,i+1,by omega,rfl,rfl⟩
def ZW (T:List (List Int)) (p:Nat→Bool) (n:Nat):List (List Int):=tab (fun k=>if p k=true then (T.getD k []).filter (fun x=>p x.toNat) else []) n
theorem ZkS {T:List (List Int)} {p:Nat→Bool} {n k:Nat} (hk:k<n):(ZW T p n).getD k []=if p k=true then (T.getD k []).filter (fun x=>p x.toNat) else []:=ZL hk
theorem ZkT {T:List (List Int)} {p:Nat→Bool} {n k:Nat} (hk:k<n) {y:Nat}:(y:Int)∈(ZW T p n).getD k []↔p k=true∧(y:Int)∈T.getD k []∧p y=true:=by
 rw [ZkS hk]
 by_cases h:p k=true
 ·rw [if_pos h,List.mem_filter];simp [h]
 ·rw [if_neg h];simp [h]
theorem ZkU {T:List (List Int)} {p:Nat→Bool} {n:Nat} (h:Tb8 T n):Tb8 (ZW T p n) n:=by
 have hrow:∀r∈ZW T p n,r.length≤8∧∀x∈r,0≤x∧x<n:=by
  intro r hr
  simp only [ZW,tab,List.mem_map,List.mem_range] at hr
  obtain ⟨k,hk,rfl⟩:=hr
  split
  ·have h1:=h.2.2 _ (ZH (l:=T) (d:=[]) (by rw [h.1.1];exact hk))
   have h2:=h.1.row (i:=k)
   exact ⟨Nat.le_trans (List.length_filter_le ..) h1,fun x hx=>h2 x (List.mem_filter.1 hx).1⟩
  ·simp
 exact ⟨⟨ZK,fun r hr=>⟨by have:=(hrow r hr).1;omega,(hrow r hr).2⟩⟩,h.2.1,fun r hr=>(hrow r hr).1⟩
def Tj.av (n:Nat) (T:List (List Int)) (p:Nat→Bool) (s:Tj):List AV:=[⟨I,(s.c:Int)⟩,⟨L I,tab (fun k=>(s.o k:Int)) n⟩,⟨L I,tab (fun k=>(s.lw k:Int)) n⟩,⟨L I,s.st.map fun k:Nat=>(k:Int)⟩,⟨L (L I),T⟩,⟨L B,tab p n⟩,⟨B,true⟩,⟨L I,tab s.out n⟩]
theorem TInv.few {U:List (List Int)} {n:Nat} {p:Nat→Bool} {s:Tj} {G:List Nat} (h:TInv U n p s G):s.c≤n∧s.st.length≤n:=by
 have h1:=h.cc
 have h2:=h.len
 omega
theorem ZkV {l:List Nat} {x:Nat}:(x:Int)∈l.map (fun k:Nat=>(k:Int))↔x∈l:=by
 constructor
 ·intro h
  obtain ⟨y,h1,h2⟩:=List.mem_map.1 h
  rw [←Int.ofNat_inj.1 h2];exact h1
 ·intro h;exact List.mem_map.2 ⟨x,h,rfl⟩
theorem ZkW:∀(l:List Nat),l≠[]→∃m∈l,∀x∈l,m≤x
 | [],h=>absurd rfl h
 | [a],_=>⟨a,List.mem_cons_self ..,fun x hx=>by rw [List.mem_singleton.1 hx];exact Nat.le_refl _⟩
 | a::b::l,_=>by
  obtain ⟨m,h1,h2⟩:=ZkW (b::l) (by simp)
  by_cases h:a≤m
  ·exact ⟨a,List.mem_cons_self ..,fun x hx=>by
    rcases List.mem_cons.1 hx with rfl | hx
    ·exact Nat.le_refl _
    ·exact Nat.le_trans h (h2 x hx)⟩
  ·exact ⟨m,List.mem_cons_of_mem _ h1,fun x hx=>by
    rcases List.mem_cons.1 hx with rfl | hx
    ·omega
    ·exact h2 x hx⟩
theorem ZkX (T:List (List Int)) (p:Nat→Bool) (n:Nat) (ht:Tbl T n) (hn:n≤1000):∀(k:Nat) (s:Tj) (G:List Nat) (v:Nat),TInv (ZW T p n) n p s G→s.o v=0→v<n→p v=true→(∀g∈G,Rch (ZW T p n) [(g:Int)] v)→n - s.c≤k →
  ∀(Q:List AV→Prop),(∀s' X,TPost (ZW T p n) n p s G v s' X→Q (s'.av n T p))→mc.C Zcg (⟨I,(v:Int)⟩::s.av n T p) Q:=by
 intro k
 induction k with
 | zero =>
  intro s G v h ho hv hp ha hk
  have h1:=(TLoop.init h ho hv hp ha).inv.few.1
  have:(s.push v).c=s.c+1:=rfl
  omega
 | succ k ih =>
  intro s G v h ho hv hp ha hk Q hQ
  have hL:=TLoop.init h ho hv hp ha
  have hTl:=ht.1
  have hf:=h.few
  have hrl:(T.getD v []).length≤1048576:=(ht.2 _ (ZH (by omega))).1
  obtain ⟨row,hrow⟩:∃row,T.getD v []=row:=⟨_,rfl⟩
  have hri:=fun i (hi:i<row.length)=>ht.row (i:=v) _ (by rw [hrow];exact ZH (d:=0) hi)
  rw [hrow] at hrl
  have hedge:∀y:Nat,(y:Int)∈(ZW T p n).getD v []↔(y:Int)∈row∧p y=true:=fun y=>by rw [ZkT hv,hrow];simp [hp]
  refine mc.c_of Zg8 ?_
  simp only [Tj.av]
  simp+contextual(maxSteps:=1000000)(disch:=omega)only[↓Sd,↓So,↓Sk,↓den,↓Z0,Sa,Sb,Sc,Se,O1.d,O2.d,O3.d,cmI,arI,Z1,Z2,↓reduceIte,Nat.reduceLT,Nat.reduceSub,Nat.reduceAdd,Int.reduceAdd,Int.reduceEq,Int.reduceLT,Int.reduceLE,ZD,ZE,↓ZF,Zed,ZK,ZiX,List.length_map,hTl,hrow]
  have epo:∀s:Tj,(fun k=>if k=v then (s.c:Int)+1 else (s.o k:Int))=fun k=>(((s.push v).o k:Nat):Int):=fun s=>funext fun k=>by
   simp only [Tj.push];split<;>simp
  have epl:∀s:Tj,(fun k=>if k=v then (s.c:Int)+1 else (s.lw k:Int))=fun k=>(((s.push v).lw k:Nat):Int):=fun s=>funext fun k=>by
   simp only [Tj.push];split<;>simp
  have esl:∀(s':Tj) (x:Nat),(fun k=>if k=v then (if (x:Int)<(s'.lw v:Int) then (x:Int) else (s'.lw v:Int)) else (s'.lw k:Int))=fun k=>(((s'.setL v (min (s'.lw v) x)).lw k:Nat):Int):=fun s' x=>funext fun k=>by
   simp only [Tj.setL]
   split
   ·split<;>omega
   ·rfl
  refine mc.lp_for (Tj×List Nat) (fun j z=>[⟨I,(v:Int)⟩,⟨L I,row⟩,⟨I,(row.length:Int)⟩,⟨I,(j:Int)⟩,⟨I,(z.1.c:Int)⟩,⟨L (L I),T⟩,⟨L B,tab p n⟩,⟨L I,tab (fun k=>(z.1.o k:Int)) n⟩,⟨L I,tab (fun k=>(z.1.lw k:Int)) n⟩,⟨L I,z.1.st.map fun k:Nat=>(k:Int)⟩,⟨L I,tab z.1.out n⟩])
   (fun j z=>∃dn,TLoop (ZW T p n) n p s G v z.1 z.2 dn∧∀y:Nat,(y:Int)∈row.take j→p y=true→y∈dn) row.length 0 (s.push v,[]) _ ?_ (Nat.zero_le _) ⟨[],hL,by simp⟩ ?_ ?_
  ·rw [epo s,epl s]
   simp [Tj.push]
  ·rintro j ⟨s',X⟩ hj ⟨dn,hl,hdn⟩
   dsimp only at hl
   have hmr:=hri j hj
   obtain ⟨m,hm⟩:∃m:Nat,row.getD j 0=(m:Int):=⟨_,(Int.toNat_of_nonneg hmr.1).symm⟩
   rw [hm] at hmr
   have hmn:m<n:=Int.ofNat_lt.1 hmr.2
   have hnext:∀y:Nat,(y:Int)∈row.take (j+1)→(y:Int)∈row.take j∨y=m:=fun y hy=>by
    rcases (ZU hj).1 hy with h1 | h1
    ·exact .inl h1
    ·rw [hm] at h1;exact .inr (Int.ofNat_inj.1 h1)
   have hvo:s'.o v≠0:=by rw [hl.ov];omega
   by_cases hpm:p m=true
   ·have hem:(m:Int)∈(ZW T p n).getD v []:=(hedge m).2 ⟨by rw [←hm];exact ZH hj,hpm⟩
    by_cases hom:s'.o m=0
    ·simp+contextual(maxSteps:=1000000)(disch:=omega)only[↓Sd,↓So,↓Sk,↓den,↓Z0,Sa,Sb,Sc,Se,O1.d,O2.d,O3.d,cmI,arI,Z1,Z2,↓reduceIte,Nat.reduceLT,Nat.reduceSub,Nat.reduceAdd,Int.reduceAdd,Int.reduceEq,Int.reduceLT,Int.reduceLE,ZD,ZE,↓ZF,hm,ZK,ZL hmn,hpm,hom]
     refine ih s' (v::G) m hl.inv hom hmn hpm ?_ ?_ _ fun s2 X2 hP=>?_
     ·intro g hg
      rcases List.mem_cons.1 hg with rfl | hg
      ·exact ZkO hem
      ·exact (ha g hg).trans (ZkO hem)
     ·have h1:=hl.inv.cnt v
      have h2:=hl.ov
      have h3:=hl.inv.few.1
      omega
     ·simp only [Tj.av]
      simp+contextual(maxSteps:=1000000)(disch:=omega)only[↓Sd,↓So,↓Sk,↓den,↓Z0,Sa,Sb,Sc,Se,O1.d,O2.d,O3.d,cmI,arI,Z1,Z2,↓reduceIte,Nat.reduceLT,Nat.reduceSub,Nat.reduceAdd,Int.reduceAdd,Int.reduceEq,Int.reduceLT,Int.reduceLE,ZD,ZE,ZK,ZL hmn,ZL hv,ZiX,hm]
      refine ⟨(s2.setL v (min (s2.lw v) (s2.lw m)),X++X2),⟨rfl,rfl,congrArg (tab · n) (esl s2 (s2.lw m)),rfl,rfl⟩,m::dn,hl.child hom hP hem,fun y hy hpy=>?_⟩
      rcases hnext y hy with h1 | h1
      ·exact List.mem_cons_of_mem _ (hdn y h1 hpy)
      ·rw [h1];exact List.mem_cons_self ..
    ·by_cases hout:s'.out m<0
     ·simp+contextual(maxSteps:=1000000)(disch:=omega)only[↓Sd,↓So,↓Sk,↓den,↓Z0,Sa,Sb,Sc,Se,O1.d,O2.d,O3.d,cmI,arI,Z1,Z2,↓reduceIte,Nat.reduceLT,Nat.reduceSub,Nat.reduceAdd,Int.reduceAdd,Int.reduceEq,Int.reduceLT,Int.reduceLE,ZD,ZE,↓ZF,hm,ZK,ZL hmn,ZL hv,ZiX,hpm,hom,hout]
      refine ⟨(s'.setL v (min (s'.lw v) (s'.o m)),X),⟨rfl,rfl,congrArg (tab · n) (esl s' (s'.o m)),rfl,rfl⟩,m::dn,hl.back hom hout hem,fun y hy hpy=>?_⟩
      rcases hnext y hy with h1 | h1
      ·exact List.mem_cons_of_mem _ (hdn y h1 hpy)
      ·rw [h1];exact List.mem_cons_self ..
     ·simp+contextual(maxSteps:=1000000)(disch:=omega)only[↓Sd,↓So,↓Sk,↓den,↓Z0,Sa,Sb,Sc,Se,O1.d,O2.d,O3.d,cmI,arI,Z1,Z2,↓reduceIte,Nat.reduceLT,Nat.reduceSub,Nat.reduceAdd,Int.reduceAdd,Int.reduceEq,Int.reduceLT,Int.reduceLE,ZD,ZE,↓ZF,hm,ZK,ZL hmn,hpm,hom,hout]
      refine ⟨(s',X),⟨rfl,rfl,rfl,rfl,rfl⟩,m::dn,hl.closed (Int.not_lt.1 hout),fun y hy hpy=>?_⟩
      rcases hnext y hy with h1 | h1
      ·exact List.mem_cons_of_mem _ (hdn y h1 hpy)
      ·rw [h1];exact List.mem_cons_self ..
   ·simp+contextual(maxSteps:=1000000)(disch:=omega)only[↓Sd,↓So,↓Sk,↓den,↓Z0,Sa,Sb,Sc,Se,O1.d,O2.d,O3.d,cmI,arI,Z1,Z2,↓reduceIte,Nat.reduceLT,Nat.reduceSub,Nat.reduceAdd,Int.reduceAdd,Int.reduceEq,Int.reduceLT,Int.reduceLE,ZD,ZE,↓ZF,hm,ZK,ZL hmn,hpm]
    refine ⟨(s',X),⟨rfl,rfl,rfl,rfl,rfl⟩,dn,hl,fun y hy hpy=>?_⟩
    rcases hnext y hy with h1 | h1
    ·exact hdn y h1 hpy
    ·rw [h1] at hpy;exact absurd hpy hpm
  ·rintro ⟨s',X⟩ ⟨dn,hl,hdn⟩
   dsimp only at hl
   rw [List.take_length] at hdn
   have hd:∀y:Nat,(y:Int)∈(ZW T p n).getD v []→y∈dn:=fun y hy=>hdn y ((hedge y).1 hy).1 ((hedge y).1 hy).2
   have hf':=hl.inv.few
   by_cases he:s'.lw v=s'.o v
   ·obtain ⟨mu,hmu,hml⟩:=ZkW (v::X) (by simp)
    have hst:s'.st.map (fun k:Nat=>(k:Int))=s.st.map (fun k:Nat=>(k:Int))++(v:Int)::X.map (fun k:Nat=>(k:Int)):=by rw [hl.st];simp
    have hnot:(v:Int)∉s.st.map (fun k:Nat=>(k:Int)):=fun h=>hl.nG (List.mem_cons_self ..) (ZkV.1 h)
    have hlen:(s.st.map (fun k:Nat=>(k:Int))++(v:Int)::X.map (fun k:Nat=>(k:Int))).length=s.st.length+(X.length+1):=by simp
    have hlen2:s'.st.length=s.st.length+(X.length+1):=by rw [hl.st];simp
    have hbot:ZkP ((v:Int)::X.map (fun k:Nat=>(k:Int))) (mu:Int):=by
     rw [show (v:Int)::X.map (fun k:Nat=>(k:Int))=(v::X).map (fun k:Nat=>(k:Int)) from rfl]
     refine ⟨ZkV.2 hmu,fun x hx=>?_⟩
     obtain ⟨y,h1,rfl⟩:=List.mem_map.1 hx
     exact Int.ofNat_le.2 (hml y h1)
    have hidx:=ZkR (s.st.map (fun k:Nat=>(k:Int))) (X.map (fun k:Nat=>(k:Int))) (v:Int) hnot (by omega)
    obtain ⟨A,hA⟩:∃A,s.st.map (fun k:Nat=>(k:Int))=A:=⟨_,rfl⟩
    obtain ⟨Z,hB⟩:∃Z,(v:Int)::X.map (fun k:Nat=>(k:Int))=Z:=⟨_,rfl⟩
    have hAl:A.length=s.st.length:=by rw [←hA];simp
    have hBl:Z.length=X.length+1:=by rw [←hB];simp
    have hBx:Z=(v::X).map (fun k:Nat=>(k:Int)):=by rw [←hB];rfl
    rw [←hAl] at hlen2
    have hlen3:(A++Z).length=A.length+(X.length+1):=by rw [List.length_append,hBl]
    have hcut:List.drop A.length (List.take ((A.length:Int)+((X.length:Int)+1)).toNat (A++Z))=Z:=by
     rw [show ((A.length:Int)+((X.length:Int)+1)).toNat=(A++Z).length by rw [hlen3];omega,List.take_length,List.drop_left]
    have htake:List.take A.length (A++Z)=A:=List.take_left ..
    have hget:∀i,i<X.length+1→(A++Z).getD (A.length+i) 0=(((v::X).getD i 0:Nat):Int):=by
     intro i hi
     rw [List.getD_eq_getElem?_getD,List.getElem?_append_right (Nat.le_add_right _ _),Nat.add_sub_cancel_left,hBx,List.getElem?_map,List.getD_eq_getElem?_getD,List.getElem?_eq_getElem (by simpa using hi)]
     rfl
    have hgn:∀i,i<X.length+1→(v::X).getD i 0<n:=fun i hi=>(hl.inv.lt _ ((hl.inv.stv _).1 (hl.inA (ZH (by simpa using hi)))).1).1
    rw [hst]
    rw [hA,hB] at hidx hlen ⊢
    rw [hB] at hbot
    have hmin:=ZkQ Z mu hbot (by omega)
    simp+contextual(maxSteps:=1000000)(disch:=omega)only[↓Sd,↓So,↓Sk,↓den,↓Z0,Sa,Sb,Sc,Se,O1.d,O2.d,O3.d,cmI,arI,Z1,Z2,↓reduceIte,Nat.reduceLT,Nat.reduceSub,Nat.reduceAdd,Int.reduceAdd,Int.reduceEq,Int.reduceLT,Int.reduceLE,ZD,ZE,ZK,ZL hv,he,hidx,hlen3,hcut,hmin,hBl]
    refine mc.lp_for (Nat→Int) (fun j f=>[⟨I,(A.length:Int)⟩,⟨I,(mu:Int)⟩,⟨I,(A.length:Int)⟩,⟨I,(A.length:Int)+((X.length:Int)+1)⟩,⟨I,(X.length:Int)+1⟩,⟨I,(j:Int)⟩,⟨I,(s'.c:Int)⟩,⟨L (L I),T⟩,⟨L Sm.Q.B,tab p n⟩,⟨L I,tab (fun k=>(s'.o k:Int)) n⟩,⟨L I,tab (fun k=>(s'.lw k:Int)) n⟩,⟨L I,A++Z⟩,⟨L I,tab f n⟩])
     (fun j f=>∀k,f k=if k∈(v::X).take j then (mu:Int) else s'.out k) (X.length+1) 0 s'.out _ rfl (Nat.zero_le _) (fun k=>by simp) ?_ ?_
    ·intro j f hj hf
     have e1:((A.length:Int)+(j:Int)).toNat=A.length+j:=by omega
     have e2:=hget j hj
     have e3:=hgn j hj
     have e4:(v::X).take (j+1)=(v::X).take j++[(v::X).getD j 0]:=by
      rw [List.take_succ_eq_append_getElem (by simpa using hj),List.getD_eq_getElem?_getD,List.getElem?_eq_getElem (by simpa using hj)]
      rfl
     generalize (v::X).getD j 0=y at e2 e3 e4
     simp+contextual(maxSteps:=1000000)(disch:=omega)only[↓Sd,↓So,↓Sk,↓den,↓Z0,Sa,Sb,Sc,Se,O1.d,O2.d,O3.d,cmI,arI,Z1,Z2,↓reduceIte,Nat.reduceLT,Nat.reduceSub,Nat.reduceAdd,Int.reduceAdd,Int.reduceEq,Int.reduceLT,Int.reduceLE,ZD,ZE,hlen3,hcut,hBl,e1,e2,ZK,ZiX]
     refine ⟨_,rfl,fun k=>?_⟩
     rw [e4,hf k]
     by_cases hk:k=y
     ·subst hk;simp
     ·simp [hk]
    ·intro f hf
     simp+contextual(maxSteps:=1000000)(disch:=omega)only[↓Sd,↓So,↓Sk,↓den,↓Z0,Sa,Sb,Sc,Se,O1.d,O2.d,O3.d,cmI,arI,Z1,Z2,↓reduceIte,Nat.reduceLT,Nat.reduceSub,Nat.reduceAdd,Int.reduceAdd,Int.reduceEq,Int.reduceLT,Int.reduceLE,ZD,ZE,hlen3,htake]
     have h1:=hQ _ _ (hl.pop he hd hmu hml)
     have h2:f=(s'.pop s.st (v::X) mu).out:=funext fun k=>by
      rw [hf k,List.take_of_length_le (by simp)]
      rfl
     rw [h2,←hA]
     exact h1
   ·have he':¬((s'.lw v:Int)=(s'.o v:Int)):=fun h=>he (Int.ofNat_inj.1 h)
    simp+contextual(maxSteps:=1000000)(disch:=omega)only[↓Sd,↓So,↓Sk,↓den,↓Z0,Sa,Sb,Sc,Se,O1.d,O2.d,O3.d,cmI,arI,Z1,Z2,↓reduceIte,Nat.reduceLT,Nat.reduceSub,Nat.reduceAdd,Int.reduceAdd,Int.reduceEq,Int.reduceLT,Int.reduceLE,ZD,ZE,ZK,ZL hv,he']
    exact hQ s' (v::X) (hl.keep he hd)
theorem ZkY (T:List (List Int)) (p:Nat→Bool) (n:Nat) (ht:Tb8 T n) (Q:List AV→Prop) :
  mc.C Zch [⟨L (L I),T⟩,⟨L B,tab p n⟩] Q=Q [⟨L I,tab (fun k=>if p k=true then cmp (ZW T p n) n k else -1) n⟩]:=by
 refine Mc.Ends.c (mc.ends Zg9 ?_)
 have hTl:=ht.1.1
 have hn:=ht.2.1
 have hrep:∀c:Int,List.replicate n c=tab (fun _=>c) n:=fun c=>by simp [tab,List.map_const']
 simp+contextual(maxSteps:=1000000)(disch:=omega)only[↓Sd,↓So,↓Sk,↓den,↓Z0,Sa,Sb,Sc,Se,O1.d,O2.d,O3.d,cmI,arI,Z1,Z2,↓reduceIte,Nat.reduceLT,Nat.reduceSub,Nat.reduceAdd,Int.reduceAdd,Int.reduceEq,Int.reduceLT,Int.reduceLE,ZD,ZE,↓ZF,Zee,hTl,ZjW (-1) n (by omega)]
 refine mc.lp_for Tj (fun j z=>[⟨I,(n:Int)⟩,⟨I,(j:Int)⟩,⟨L B,tab p n⟩,⟨L I,tab (fun k=>(z.o k:Int)) n⟩,⟨L I,tab z.out n⟩,⟨L I,z.st.map fun k:Nat=>(k:Int)⟩,⟨I,(z.c:Int)⟩,⟨L I,tab (fun k=>(z.lw k:Int)) n⟩,⟨L (L I),T⟩])
  (fun j z=>TInv (ZW T p n) n p z []∧∀k,k<j→p k=true→z.o k≠0) n 0 tj0 _ ?_ (Nat.zero_le _) ⟨.zero,fun k hk=>absurd hk (Nat.not_lt_zero _)⟩ ?_ ?_
 ·rw [hrep,hrep];rfl
 ·rintro j z hj ⟨h1,h2⟩
  have hnext:∀z':Tj,(∀k,z.o k≠0→z'.o k≠0)→(p j=true→z'.o j≠0)→∀k,k<j+1→p k=true→z'.o k≠0:=fun z' g1 g2 k hk hp=>by
   by_cases he:k=j
   ·subst he;exact g2 hp
   ·exact g1 k (h2 k (by omega) hp)
  by_cases hp:p j=true
  ·by_cases ho:z.o j=0
   ·simp+contextual(maxSteps:=1000000)(disch:=omega)only[↓Sd,↓So,↓Sk,↓den,↓Z0,Sa,Sb,Sc,Se,O1.d,O2.d,O3.d,cmI,arI,Z1,Z2,↓reduceIte,Nat.reduceLT,Nat.reduceSub,Nat.reduceAdd,Int.reduceAdd,Int.reduceEq,Int.reduceLT,Int.reduceLE,ZD,ZE,↓ZF,ZK,ZL hj,hp,ho]
    refine ZkX T p n ht.1 (by omega) _ z [] j h1 ho hj hp (fun g hg=>by simp at hg) (Nat.le_refl _) _ fun z' X hP=>?_
    simp only [Tj.av]
    simp+contextual(maxSteps:=1000000)(disch:=omega)only[↓Sd,↓So,↓Sk,↓den,↓Z0,Sa,Sb,Sc,Se,O1.d,O2.d,O3.d,cmI,arI,Z1,Z2,↓reduceIte,Nat.reduceLT,Nat.reduceSub,Nat.reduceAdd,Int.reduceAdd,Int.reduceEq,Int.reduceLT,Int.reduceLE,ZD,ZE,]
    refine ⟨z',by simp,hP.inv,hnext z' (fun k hk=>?_) fun _=>hP.vis⟩
    rw [(hP.ext.old k hk).1];exact hk
   ·simp+contextual(maxSteps:=1000000)(disch:=omega)only[↓Sd,↓So,↓Sk,↓den,↓Z0,Sa,Sb,Sc,Se,O1.d,O2.d,O3.d,cmI,arI,Z1,Z2,↓reduceIte,Nat.reduceLT,Nat.reduceSub,Nat.reduceAdd,Int.reduceAdd,Int.reduceEq,Int.reduceLT,Int.reduceLE,ZD,ZE,↓ZF,ZK,ZL hj,hp,ho]
    refine ⟨z,?_,h1,hnext z (fun k hk=>hk) fun _=>ho⟩
    simp
  ·simp+contextual(maxSteps:=1000000)(disch:=omega)only[↓Sd,↓So,↓Sk,↓den,↓Z0,Sa,Sb,Sc,Se,O1.d,O2.d,O3.d,cmI,arI,Z1,Z2,↓reduceIte,Nat.reduceLT,Nat.reduceSub,Nat.reduceAdd,Int.reduceAdd,Int.reduceEq,Int.reduceLT,Int.reduceLE,ZD,ZE,↓ZF,ZK,ZL hj,hp]
   refine ⟨z,?_,h1,hnext z (fun k hk=>hk) fun h=>absurd h hp⟩
   simp
 ·rintro z ⟨h1,h2⟩
  simp+contextual(maxSteps:=1000000)(disch:=omega)only[↓Sd,↓So,↓Sk,↓den,↓Z0,Sa,Sb,Sc,Se,O1.d,O2.d,O3.d,cmI,arI,Z1,Z2,↓reduceIte,Nat.reduceLT,Nat.reduceSub,Nat.reduceAdd,Int.reduceAdd,Int.reduceEq,Int.reduceLT,Int.reduceLE,ZD,ZE,]
  rw [ZS fun k hk=>h1.done h2 hk]
abbrev FBox:Ty:=P (P (L V3) (L TR)) (P (L (L I)) (P (L I) (P (L I) (L (L I)))))
def ruM (s:Sy) (k a:Nat):List Int:=ZhV s.1 (s.2.getD k ([],[],[])) (stN s a)
def rub (s:Sy) (k a:Nat):Bool:=decide (ruM s k a≠[])
def rtg (s:Sy) (k a:Nat):Int:=if ruM s k a=[] then -1 else num s.1 (ruM s k a)
theorem ZkZ {s:Sy} (h:valid s) {k a:Nat}:rtg s k a = -1∨0≤rtg s k a∧rtg s k a<(szn s.1:Int):=by
 unfold rtg
 split
 ·exact .inl rfl
 ·rename_i h1
  have h2:=Zit h.2.2.1 (ZhX h1)
  have h3:=ZM h
  exact .inr ⟨h2.1,by rw [h3.1];exact h2.2⟩
theorem Zk_ {s:Sy} (h:valid s) {k a:Nat}:0≤rtg s k a↔rub s k a=true:=by
 unfold rtg rub
 split
 ·rename_i h1;simp [h1]
 ·rename_i h1
  have h2:=Zit h.2.2.1 (ZhX h1)
  simp only [ne_eq,h1,not_false_eq_true,decide_true,iff_true]
  exact h2.1
theorem Zl0 {s:Sy} (h:valid s) {k a:Nat} (hu:rub s k a=true):∃b,b<szn s.1∧rtg s k a=(b:Int):=by
 have h1:=(Zk_ h).2 hu
 have h2:=ZkZ h (k:=k) (a:=a)
 exact ⟨(rtg s k a).toNat,by omega,(Int.toNat_of_nonneg h1).symm⟩
theorem Zl1 {s:Sy} (h:valid s) {k a:Nat} (hu:¬rub s k a=true):rtg s k a = -1:=by
 rcases ZkZ h (k:=k) (a:=a) with h1 | h1
 ·exact h1
 ·exact absurd ((Zk_ h).1 h1.1) hu
def toT (s:Sy):List (List Int):=tab (fun k=>tab (rtg s k) (szn s.1)) s.2.length
abbrev fbx (s:Sy) (weak strong:List Int):FBox.D:=((s.1,s.2),(steps s,(weak,(strong,toT s))))
noncomputable def ZX (s:Sy) (k:Nat) (p:Nat→Bool):Bool:=dB (∃a,a<szn s.1∧p a=true∧∃b:Nat,rtg s k a=(b:Int)∧p b=true)
theorem Zl2 (s:Sy) (h:valid s) (weak strong:List Int) (Q:List AV→Prop):mc.C Zcd [⟨L V3,s.1⟩,⟨L TR,s.2⟩,⟨L I,weak⟩,⟨L I,strong⟩] Q=Q [⟨FBox,fbx s weak strong⟩]:=by
 have hz:=ZM h
 have h5:=h.1.2
 have hv:=h.2.2.1
 have hTl:=(Zjf h).1
 have hR:=h.2.1
 refine Mc.Ends.c (mc.ends Zg5 ?_)
 simp+contextual(maxSteps:=1000000)(disch:=omega)only[↓Sd,↓So,↓Sk,↓den,↓Z0,Sa,Sb,Sc,Se,O1.d,O2.d,O3.d,cmI,arI,Z1,Z2,↓reduceIte,Nat.reduceLT,Nat.reduceSub,Nat.reduceAdd,Int.reduceAdd,Int.reduceEq,Int.reduceLT,Int.reduceLE,ZD,ZE,Zea,ZiO s h]
 refine mc.lp_for (List (List Int)) (fun i o=>[⟨I,(s.2.length:Int)⟩,⟨I,(i:Int)⟩,⟨L V3,s.1⟩,⟨L TR,s.2⟩,⟨L V3,s.1⟩,⟨L TR,s.2⟩,⟨L I,weak⟩,⟨L I,strong⟩,⟨L (L I),steps s⟩,⟨L (L I),o⟩])
  (fun i o=>o=tab (fun k=>tab (rtg s k) (szn s.1)) i) s.2.length 0 [] _ rfl (Nat.zero_le _) rfl ?_ ?_
 ·rintro i o hi rfl
  simp+contextual(maxSteps:=1000000)(disch:=omega)only[↓Sd,↓So,↓Sk,↓den,↓Z0,Sa,Sb,Sc,Se,O1.d,O2.d,O3.d,cmI,arI,Z1,Z2,↓reduceIte,Nat.reduceLT,Nat.reduceSub,Nat.reduceAdd,Int.reduceAdd,Int.reduceEq,Int.reduceLT,Int.reduceLE,ZD,ZE,hTl,ZjW (-1) (szn s.1) (by omega),List.length_replicate]
  refine mc.lp_for (List Int) (fun j o=>[⟨I,(i:Int)⟩,⟨I,(s.2.length:Int)⟩,⟨I,(i:Int)⟩,⟨I,(szn s.1:Int)⟩,⟨I,(j:Int)⟩,⟨L V3,s.1⟩,⟨L TR,s.2⟩,⟨L V3,s.1⟩,⟨L TR,s.2⟩,⟨L I,weak⟩,⟨L I,strong⟩,⟨L (L I),steps s⟩,⟨L (L I),tab (fun k=>tab (rtg s k) (szn s.1)) i⟩,⟨L I,o⟩])
   (fun j o=>o=tab (rtg s i) j++List.replicate (szn s.1 - j) (-1)) (szn s.1) 0 (List.replicate (szn s.1) (-1)) _ rfl (Nat.zero_le _) (by simp [tab]) ?_ ?_
  ·rintro j o hj rfl
   have hin:=ZiI h hj
   have hst:Ziw s.1 (j:Int)=stN s j:=rfl
   have hus:ZhV s.1 (s.2.getD i ([],[],[])) (stN s j)=ruM s i j:=rfl
   by_cases hu:ruM s i j=[]
   ·have ht:rtg s i j = -1:=if_pos hu
    simp+contextual(maxSteps:=1000000)(disch:=omega)only[↓Sd,↓So,↓Sk,↓den,↓Z0,Sa,Sb,Sc,Se,O1.d,O2.d,O3.d,cmI,arI,Z1,Z2,↓reduceIte,Nat.reduceLT,Nat.reduceSub,Nat.reduceAdd,Int.reduceAdd,Int.reduceEq,Int.reduceLT,Int.reduceLE,ZD,ZE,↓ZF,ZiC s j h5 hv (by omega),hst,Zh_ s (stN s j) i h hin hi,hus,hu,ne_eq,not_true_eq_false,decide_false]
    rw [ZhP hj,List.replicate_succ,←ZiE,ht]
    simp
   ·have ht:rtg s i j=num s.1 (ruM s i j):=if_neg hu
    have hl:(tab (rtg s i) j++List.replicate (szn s.1 - j) (-1)).length=szn s.1:=by simp [ZK];omega
    simp+contextual(maxSteps:=1000000)(disch:=omega)only[↓Sd,↓So,↓Sk,↓den,↓Z0,Sa,Sb,Sc,Se,O1.d,O2.d,O3.d,cmI,arI,Z1,Z2,↓reduceIte,Nat.reduceLT,Nat.reduceSub,Nat.reduceAdd,Int.reduceAdd,Int.reduceEq,Int.reduceLT,Int.reduceLE,ZD,ZE,↓ZF,ZiC s j h5 hv (by omega),hst,Zh_ s (stN s j) i h hin hi,hus,ne_eq,hu,not_false_eq_true,decide_true,Ziv s (ruM s i j) h5 hv (ZhX hu),hl]
    exact ZiF hj ht.symm
  ·rintro o rfl
   have htl:(tab (fun k=>tab (rtg s k) (szn s.1)) i).length=i:=ZK
   rw [Nat.sub_self,List.replicate_zero,List.append_nil]
   simp+contextual(maxSteps:=1000000)(disch:=omega)only[↓Sd,↓So,↓Sk,↓den,↓Z0,Sa,Sb,Sc,Se,O1.d,O2.d,O3.d,cmI,arI,Z1,Z2,↓reduceIte,Nat.reduceLT,Nat.reduceSub,Nat.reduceAdd,Int.reduceAdd,Int.reduceEq,Int.reduceLT,Int.reduceLE,ZD,ZE,htl]
   exact ZiE
 ·rintro o rfl
  simp+contextual(maxSteps:=1000000)(disch:=omega)only[↓Sd,↓So,↓Sk,↓den,↓Z0,Sa,Sb,Sc,Se,O1.d,O2.d,O3.d,cmI,arI,Z1,Z2,↓reduceIte,Nat.reduceLT,Nat.reduceSub,Nat.reduceAdd,Int.reduceAdd,Int.reduceEq,Int.reduceLT,Int.reduceLE,ZD,ZE,]
  rfl
theorem Zl3 (s:Sy) (h:valid s) (weak strong:List Int) (k:Nat) (hk:k<s.2.length) (p:Nat→Bool) (Q:List AV→Prop) :
  mc.C Zck [⟨FBox,fbx s weak strong⟩,⟨I,(k:Int)⟩,⟨L B,tab p (szn s.1)⟩] Q=Q [⟨B,ZX s k p⟩,⟨FBox,fbx s weak strong⟩]:=by
 have hz:=ZM h
 have hg:(toT s).getD k []=tab (rtg s k) (szn s.1):=ZL hk
 have hl:(toT s).length=s.2.length:=ZK
 refine Mc.Ends.c (mc.ends Zgc ?_)
 simp+contextual(maxSteps:=1000000)(disch:=omega)only[↓Sd,↓So,↓Sk,↓den,↓Z0,Sa,Sb,Sc,Se,O1.d,O2.d,O3.d,cmI,arI,Z1,Z2,↓reduceIte,Nat.reduceLT,Nat.reduceSub,Nat.reduceAdd,Int.reduceAdd,Int.reduceEq,Int.reduceLT,Int.reduceLE,ZD,ZE,Zeh,fbx,ZK]
 refine mc.lp_for Unit (fun j _=>[⟨I,(k:Int)⟩,⟨L B,tab p (szn s.1)⟩,⟨L B,tab p (szn s.1)⟩,⟨I,(szn s.1:Int)⟩,⟨I,(j:Int)⟩,⟨L V3,s.1⟩,⟨L TR,s.2⟩,⟨L (L I),steps s⟩,⟨L I,weak⟩,⟨L I,strong⟩,⟨L (L I),toT s⟩])
  (fun j _=>∀a,a<j→p a=true→∀b:Nat,rtg s k a=(b:Int)→¬p b=true) (szn s.1) 0 () _ rfl (Nat.zero_le _) (fun a ha=>absurd ha (Nat.not_lt_zero _)) ?_ ?_
 ·rintro j _ hj hI
  have hnext:(p j=true→∀b:Nat,rtg s k j=(b:Int)→¬p b=true)→∀a,a<j+1→p a=true→∀b:Nat,rtg s k a=(b:Int)→¬p b=true:=fun h1 a ha=>by
   by_cases he:a=j
   ·subst he;exact h1
   ·exact hI a (by omega)
  by_cases hp:p j=true
  ·by_cases hu:rub s k j=true
   ·obtain ⟨b,hb,ht⟩:=Zl0 h hu
    by_cases hpb:p b=true
    ·have hT:ZX s k p=true:=ZQ ⟨j,hj,hp,b,ht,hpb⟩
     simp+contextual(maxSteps:=1000000)(disch:=omega)only[↓Sd,↓So,↓Sk,↓den,↓Z0,Sa,Sb,Sc,Se,O1.d,O2.d,O3.d,cmI,arI,Z1,Z2,↓reduceIte,Nat.reduceLT,Nat.reduceSub,Nat.reduceAdd,Int.reduceAdd,Int.reduceEq,Int.reduceLT,Int.reduceLE,ZD,ZE,↓ZF,ZK,ZL hj,hp,hl,hg,ht,ZL hb,hpb,hT]
    ·simp+contextual(maxSteps:=1000000)(disch:=omega)only[↓Sd,↓So,↓Sk,↓den,↓Z0,Sa,Sb,Sc,Se,O1.d,O2.d,O3.d,cmI,arI,Z1,Z2,↓reduceIte,Nat.reduceLT,Nat.reduceSub,Nat.reduceAdd,Int.reduceAdd,Int.reduceEq,Int.reduceLT,Int.reduceLE,ZD,ZE,↓ZF,ZK,ZL hj,hp,hl,hg,ht,ZL hb,hpb]
     exact hnext fun _ b' hb'=>by rw [ht] at hb';rw [←Int.ofNat_inj.1 hb'];exact hpb
   ·have ht:=Zl1 h hu
    simp+contextual(maxSteps:=1000000)(disch:=omega)only[↓Sd,↓So,↓Sk,↓den,↓Z0,Sa,Sb,Sc,Se,O1.d,O2.d,O3.d,cmI,arI,Z1,Z2,↓reduceIte,Nat.reduceLT,Nat.reduceSub,Nat.reduceAdd,Int.reduceAdd,Int.reduceEq,Int.reduceLT,Int.reduceLE,ZD,ZE,↓ZF,ZK,ZL hj,hp,hl,hg,ht]
    exact hnext fun _ b' hb'=>by rw [ht] at hb';omega
  ·simp+contextual(maxSteps:=1000000)(disch:=omega)only[↓Sd,↓So,↓Sk,↓den,↓Z0,Sa,Sb,Sc,Se,O1.d,O2.d,O3.d,cmI,arI,Z1,Z2,↓reduceIte,Nat.reduceLT,Nat.reduceSub,Nat.reduceAdd,Int.reduceAdd,Int.reduceEq,Int.reduceLT,Int.reduceLE,ZD,ZE,↓ZF,ZK,ZL hj,hp]
   exact hnext fun h=>absurd h hp
 ·rintro _ hI
  have hF:ZX s k p=false:=ZR fun ⟨a,h1,h2,b,h3,h4⟩=>hI a h1 h2 b h3 h4
  simp+contextual(maxSteps:=1000000)(disch:=omega)only[↓Sd,↓So,↓Sk,↓den,↓Z0,Sa,Sb,Sc,Se,O1.d,O2.d,O3.d,cmI,arI,Z1,Z2,↓reduceIte,Nat.reduceLT,Nat.reduceSub,Nat.reduceAdd,Int.reduceAdd,Int.reduceEq,Int.reduceLT,Int.reduceLE,ZD,ZE,hF]
theorem Zl4 (s:Sy) (hs:ZI s) (h:valid s) (Q:List AV→Prop):mc.C Zbx [⟨L V3,s.1⟩,⟨L TR,s.2⟩] Q=Q [⟨L (L B),tab (fun k=>tab (rub s k) (szn s.1)) s.2.length⟩]:=by
 have hz:=ZM h
 have hR:=h.2.1
 refine Mc.Ends.c (mc.ends Zfp ?_)
 simp+contextual(maxSteps:=1000000)(disch:=omega)only[↓Sd,↓So,↓Sk,↓den,↓Z0,Sa,Sb,Sc,Se,O1.d,O2.d,O3.d,cmI,arI,Z1,Z2,↓reduceIte,Nat.reduceLT,Nat.reduceSub,Nat.reduceAdd,Int.reduceAdd,Int.reduceEq,Int.reduceLT,Int.reduceLE,ZD,ZE,Zdu]
 refine mc.lp_for (List (List Bool)) (fun i o=>[⟨I,(i:Int)⟩,⟨L V3,s.1⟩,⟨L TR,s.2⟩,⟨L (L B),o⟩]) (fun i o=>o=tab (fun k=>tab (rub s k) (szn s.1)) i) s.2.length 0 [] _ rfl (Nat.zero_le _) rfl ?_ ?_
 ·rintro i o hi rfl
  simp+contextual(maxSteps:=1000000)(disch:=omega)only[↓Sd,↓So,↓Sk,↓den,↓Z0,Sa,Sb,Sc,Se,O1.d,O2.d,O3.d,cmI,arI,Z1,Z2,↓reduceIte,Nat.reduceLT,Nat.reduceSub,Nat.reduceAdd,Int.reduceAdd,Int.reduceEq,Int.reduceLT,Int.reduceLE,ZD,ZE,Zhv s hs,h,←hz.1,List.length_replicate]
  refine mc.lp_for (List Bool) (fun j o=>[⟨I,(i:Int)⟩,⟨I,(j:Int)⟩,⟨L V3,s.1⟩,⟨L TR,s.2⟩,⟨L (L B),tab (fun k=>tab (rub s k) (szn s.1)) i⟩,⟨L B,o⟩])
   (fun j o=>o=tab (rub s i) j++List.replicate (szn s.1 - j) false) (szn s.1) 0 (List.replicate (szn s.1) false) _ rfl (Nat.zero_le _) (by simp [tab]) ?_ ?_
  ·rintro j o hj rfl
   have hin:=ZiI h hj
   have hst:Ziw s.1 (j:Int)=stN s j:=rfl
   have hus:ZhV s.1 (s.2.getD i ([],[],[])) (stN s j)=ruM s i j:=rfl
   have hl:(tab (rub s i) j++List.replicate (szn s.1 - j) false).length=szn s.1:=by simp [ZK];omega
   have hd:decide ((0:Int)<((ruM s i j).length:Int))=rub s i j:=by
    unfold rub
    rw [decide_eq_decide]
    cases ruM s i j with
    | nil=>simp
    | cons x l=>simp
   simp+contextual(maxSteps:=1000000)(disch:=omega)only[↓Sd,↓So,↓Sk,↓den,↓Z0,Sa,Sb,Sc,Se,O1.d,O2.d,O3.d,cmI,arI,Z1,Z2,↓reduceIte,Nat.reduceLT,Nat.reduceSub,Nat.reduceAdd,Int.reduceAdd,Int.reduceEq,Int.reduceLT,Int.reduceLE,ZD,ZE,ZiD s j hs h (by omega),hst,ZhZ s (stN s j) i h hin hi,hus,hl]
   exact ZiF hj (by rw [←hd])
  ·rintro o rfl
   have hl:(tab (rub s i) (szn s.1)++List.replicate (szn s.1 - szn s.1) false).length=szn s.1:=by simp [ZK]
   have htl:(tab (fun k=>tab (rub s k) (szn s.1)) i).length=i:=ZK
   simp+contextual(maxSteps:=1000000)(disch:=omega)only[↓Sd,↓So,↓Sk,↓den,↓Z0,Sa,Sb,Sc,Se,O1.d,O2.d,O3.d,cmI,arI,Z1,Z2,↓reduceIte,Nat.reduceLT,Nat.reduceSub,Nat.reduceAdd,Int.reduceAdd,Int.reduceEq,Int.reduceLT,Int.reduceLE,ZD,ZE,hl,htl]
   rw [Nat.sub_self,List.replicate_zero,List.append_nil]
   exact ZiE
 ·rintro o rfl
  simp+contextual(maxSteps:=1000000)(disch:=omega)only[↓Sd,↓So,↓Sk,↓den,↓Z0,Sa,Sb,Sc,Se,O1.d,O2.d,O3.d,cmI,arI,Z1,Z2,↓reduceIte,Nat.reduceLT,Nat.reduceSub,Nat.reduceAdd,Int.reduceAdd,Int.reduceEq,Int.reduceLT,Int.reduceLE,ZD,ZE,]
theorem Zl5 (s:Sy) (hs:ZI s) (h:valid s) (a k:Nat) (ha:a<szn s.1) (hk:k<s.2.length) (Q:List AV→Prop):mc.C ZbE [⟨L V3,s.1⟩,⟨L TR,s.2⟩,⟨I,(a:Int)⟩,⟨I,(k:Int)⟩] Q=Q [⟨I,rtg s k a⟩]:=by
 have hz:=ZM h
 have hin:=ZiI h ha
 have hst:Ziw s.1 (a:Int)=stN s a:=rfl
 have hus:ZhV s.1 (s.2.getD k ([],[],[])) (stN s a)=ruM s k a:=rfl
 refine Mc.Ends.c (mc.ends Zfw ?_)
 by_cases hu:ruM s k a=[]
 ·have ht:rtg s k a = -1:=if_pos hu
  simp+contextual(maxSteps:=1000000)(disch:=omega)only[↓Sd,↓So,↓Sk,↓den,↓Z0,Sa,Sb,Sc,Se,O1.d,O2.d,O3.d,cmI,arI,Z1,Z2,↓reduceIte,Nat.reduceLT,Nat.reduceSub,Nat.reduceAdd,Int.reduceAdd,Int.reduceEq,Int.reduceLT,Int.reduceLE,ZD,ZE,ZdB,ZiD s a hs h (by omega),hst,ZhZ s (stN s a) k h hin hk,hus,hu,ht,List.length_nil]
 ·have ht:rtg s k a=num s.1 (ruM s k a):=if_neg hu
  have hl:=List.length_pos_iff.2 hu
  simp+contextual(maxSteps:=1000000)(disch:=omega)only[↓Sd,↓So,↓Sk,↓den,↓Z0,Sa,Sb,Sc,Se,O1.d,O2.d,O3.d,cmI,arI,Z1,Z2,↓reduceIte,Nat.reduceLT,Nat.reduceSub,Nat.reduceAdd,Int.reduceAdd,Int.reduceEq,Int.reduceLT,Int.reduceLE,ZD,ZE,ZdB,ZiD s a hs h (by omega),hst,ZhZ s (stN s a) k h hin hk,hus,ht,Ziu s (ruM s k a) h.1.2 h.2.2.1 (ZhX hu)]
end Go.Proofs.YtknlennollmgeaaGreat
