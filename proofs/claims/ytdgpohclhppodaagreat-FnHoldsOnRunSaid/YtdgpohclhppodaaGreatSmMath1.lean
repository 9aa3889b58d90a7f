/- What the trees come to: plain mathematics; no condition. -/
import Derived.Test.YtdgpohclhppodaaGreatSmMath0
namespace Go.Proofs.YtdgpohclhppodaaGreat
open Go Go.Sm Go.Sm.Q
set_option linter.unusedSimpArgs false
set_option linter.unusedVariables false
theorem rep_tab {α:Type} {z:α} {n:Nat}:List.replicate n z=tab (fun _=>z) n:=by
 apply List.ext_getElem<;>simp [tab]
def lset (l:List Int) (n:Int):Prop:=∀i,i<l.length→(0≤l.getD i 0∧l.getD i 0≤n - 1)∧(0<i→l.getD (i - 1) 0<l.getD i 0)
instance (l : List Int) (n : Int) : Decidable (lset l n) := by unfold lset; infer_instance
theorem lset_ge {l:List Int} {n:Int} (h:lset l n):∀i,i<l.length→(i:Int)≤l.getD i 0:=by
 intro i
 induction i with
 | zero=>intro hi;exact (h 0 hi).1.1
 | succ i ih =>
  intro hi
  have h1:=ih (by omega)
  have h2:=(h (i+1) hi).2 (by omega)
  simp only [Nat.add_sub_cancel] at h2
  omega
theorem lset_len {l:List Int} {n:Int} (h:lset l n) (hn:0≤n):(l.length:Int)≤n:=by
 rcases Nat.eq_zero_or_pos l.length with h0 | h0
 ·omega
 ·have h1:=lset_ge h (l.length - 1) (by omega)
  have h2:=(h (l.length - 1) (by omega)).1.2
  omega
def behind (T:List (List Int)) (p:Nat→Bool) (n:Nat) (k:Nat):Prop:=∃a,a<n∧p a=true∧(k:Int)∈T.getD a []
theorem upTo_mono {p q:Nat→Bool}:∀{n:Nat},(∀k,k<n→p k=true→q k=true)→(upTo p n).length≤(upTo q n).length∧((upTo q n).length≤(upTo p n).length→∀k,k<n→q k=true→p k=true)
 | 0,_=>⟨Nat.le_refl _,fun _ k hk=>absurd hk (Nat.not_lt_zero _)⟩
 | n+1,h=>by
  obtain ⟨h1,h2⟩:=upTo_mono (n:=n) fun k hk=>h k (by omega)
  by_cases hp:p n=true
  ·have hq:=h n (by omega) hp
   rw [upTo_s hp,upTo_s hq]
   simp only [List.length_append,List.length_cons,List.length_nil]
   refine ⟨by omega,fun h3 k hk hqk=>?_⟩
   rcases Nat.lt_succ_iff_lt_or_eq.1 hk with h4 | rfl
   ·exact h2 (by omega) k h4 hqk
   ·exact hp
  ·rw [upTo_n hp]
   by_cases hq:q n=true
   ·rw [upTo_s hq]
    simp only [List.length_append,List.length_cons,List.length_nil]
    exact ⟨by omega,fun h3=>absurd h3 (by omega)⟩
   ·rw [upTo_n hq]
    refine ⟨h1,fun h3 k hk hqk=>?_⟩
    rcases Nat.lt_succ_iff_lt_or_eq.1 hk with h4 | rfl
    ·exact h2 h3 k h4 hqk
    ·exact absurd hqk hq
inductive Rch (T:List (List Int)) (F:List Int):Nat→Prop
 | base {k:Nat}:(k:Int)∈F→Rch T F k
 | step {a k:Nat}:Rch T F a→(k:Int)∈T.getD a []→Rch T F k
def Tbl (T:List (List Int)) (n:Nat):Prop:=T.length=n∧∀r∈T,r.length≤1048576∧∀x∈r,0≤x∧x<n
theorem Tbl.row {T:List (List Int)} {n i:Nat} (h:Tbl T n):∀x∈T.getD i [],0≤x∧x<n:=by
 intro x hx
 by_cases hi:i<T.length
 ·exact (h.2 _ (getD_mem hi)).2 x hx
 ·rw [List.getD_eq_getElem?_getD,List.getElem?_eq_none (by omega)] at hx
  cases hx
def cntF (p:Nat→Bool) (n:Nat):Nat:=(upTo (fun k=>!p k) n).length
theorem upTo_nil {p:Nat→Bool} {n:Nat}:(upTo p n).length=0↔∀k,k<n→p k=false:=by
 constructor
 ·intro h k hk
  cases hp:p k with
  | false=>rfl
  | true =>
   have:=(upTo_mem (p:=p) (n:=n) (x:=k)).2 ⟨k,hk,rfl,hp⟩
   rw [List.eq_nil_of_length_eq_zero h] at this
   cases this
 ·intro h
  cases hl:upTo p n with
  | nil=>rfl
  | cons x l =>
   obtain ⟨k,h1,_,h3⟩:=(upTo_mem (p:=p) (n:=n) (x:=x)).1 (by rw [hl];simp)
   rw [h k h1] at h3
   cases h3
def setV (s:Sy) (l:List Int):Prop:=valid s∧lset l (sz s.1)
instance (s : Sy) (l : List Int) : Decidable (setV s l) := by unfold setV; infer_instance
theorem setV.n {s:Sy} {l:List Int} (h:setV s l):lset l (szn s.1):=by rw [(szn_eq h.1).1];exact h.2
theorem setV.len {s:Sy} {l:List Int} (h:setV s l):l.length≤400:=by
 have h1:=lset_len h.n (by omega)
 have h2:=szn_eq h.1
 omega
def ahead (T:List (List Int)) (p:Nat→Bool) (n:Nat) (k:Nat):Prop:=∃b,b<n∧p b=true∧(b:Int)∈T.getD k []
theorem getD_set_ne {α:Type} {l:List α} {i j:Nat} {x d:α} (h:i≠j):(l.set i x).getD j d=l.getD j d:=by
 simp [List.getD_eq_getElem?_getD,List.getElem?_set,h]
def Same {α:Type} (l s:List α) (d:α) (i:Nat):Prop:=s.length=l.length∧∀j,i≤j→s.getD j d=l.getD j d
theorem Same.set {α:Type} {l s:List α} {d x:α} {i:Nat} (h:Same l s d i):Same l (s.set i x) d (i+1) :=
 ⟨by rw [List.length_set];exact h.1,fun j hj=>by rw [getD_set_ne (by omega)];exact h.2 j (by omega)⟩
def vb (n w : Nat) : List Int := tab (fun i => ((n / 2 ^ (w - 1 - i) % 2 : Nat) : Int)) w
def sbN (l:List Vr) (st:List Int):Nat→List Int
 | 0=>[]
 | i+1=>sbN l st i++vb (st.getD i 0 - (l.getD i (0,0,0)).1).toNat (bw l i).toNat
def sb (s:Sy) (st:List Int):List Int:=sbN s.1 st s.1.length
def cHas (c b:List Int):Prop:=∀i,i<c.length→c.getD i 0=2∨c.getD i 0=b.getD i 0
noncomputable def inC (s:Sy) (c:List Int) (n:Nat):Bool:=dB (cHas c (sb s (stN s n)))
def blk (s:Sy) (F c:List Int):Prop:=inC s c (num s.1 (fst0 s.1)).toNat=false∧∀x∈F,inC s c x.toNat=false→∀y∈(steps s).getD x.toNat [],inC s c y.toNat=false
theorem upTo_pos {p:Nat→Bool} {n:Nat}:0<(upTo p n).length↔∃k,k<n∧p k=true:=by
 constructor
 ·intro h
  obtain ⟨k,h1,_,h3⟩:=upTo_mem.1 (getD_mem (d:=0) h)
  exact ⟨k,h1,h3⟩
 ·rintro ⟨k,h1,h2⟩
  exact List.length_pos_of_mem (upTo_mem.2 ⟨k,h1,rfl,h2⟩)
theorem least {P:Nat→Prop} (h:∃d,P d):∃d,P d∧∀e,e<d→¬P e:=by
 obtain ⟨d,hd⟩:=h
 induction d using Nat.strongRecOn with
 | ind d ih =>
  by_cases g:∃e,e<d∧P e
  ·obtain ⟨e,h1,h2⟩:=g;exact ih e h1 h2
  ·exact ⟨d,hd,fun e he hp=>g ⟨e,he,hp⟩⟩
theorem Rch.trans {T:List (List Int)} {a b c:Nat} (h:Rch T [(a:Int)] b) (h2:Rch T [(b:Int)] c):Rch T [(a:Int)] c:=by
 induction h2 with
 | base h3=>simp only [List.mem_singleton] at h3;have h3:=Int.ofNat_inj.1 h3;subst h3;exact h
 | step _ h3 ih=>exact .step ih h3
def eqv (T:List (List Int)) (i k:Nat):Prop:=Rch T [(i:Int)] k∧Rch T [(k:Int)] i
noncomputable def cmp (T:List (List Int)):Nat→Nat→Int
 | 0,_ => -1
 | i+1,k=>if 0≤cmp T i k then cmp T i k else if dB (eqv T i k)=true then (i:Int) else -1
abbrev RD:Ty:=P (L U) I
def Byt (b:List Int):Prop:=∀x∈b,0≤x∧x≤255
def Rdy (b:List Int):Prop:=Byt b∧b.length≤2000
theorem Byt.get {b:List Int} (h:Byt b) (i:Nat):0≤b.getD i 0∧b.getD i 0≤255:=by
 by_cases hi:i<b.length
 ·exact h _ (getD_mem hi)
 ·rw [List.getD_eq_getElem?_getD,List.getElem?_eq_none (by omega)];simp
theorem xor_bd {x y:Int} (hx:0≤x∧x<1099511627776) (hy:0≤y∧y<1099511627776):0≤IntKind.i64.wrap ((BitVec.ofInt IntKind.i64.bits x ^^^ BitVec.ofInt IntKind.i64.bits y).toNat:Int):=by
 have e:∀z:Int,0≤z∧z<1099511627776→(BitVec.ofInt IntKind.i64.bits z).toNat<2 ^ 40:=by
  intro z hz
  rw [BitVec.toNat_ofInt]
  show Int.toNat (z % (2:Int) ^ 64)<2 ^ 40
  omega
 have h:(BitVec.ofInt IntKind.i64.bits x ^^^ BitVec.ofInt IntKind.i64.bits y).toNat<2 ^ 40:=by
  rw [BitVec.toNat_xor]
  exact Nat.xor_lt_two_pow (e x hx) (e y hy)
 rw [wrap_id (by omega) (by omega)]
 omega
theorem D_pick (b:List Int) (p n:Int) (hb:Rdy b) (hp:0≤p∧p≤1000000000) {Q:List AV→Prop} (h:∀v:Int,0≤v→(1≤n→v<n)→Q [⟨I,v⟩,⟨RD,(b,p+1)⟩]):mc.C f_spec_l40Rd_pick [⟨RD,(b,p)⟩,⟨I,n⟩] Q:=by
 refine mc.c_of F_spec_l40Rd_pick ?_
 have hl:=hb.2
 simp+contextual(maxSteps:=1000000)(disch:=omega)only[↓Sd,↓So,↓Sk,↓den,↓denA,Sa,Sb,Sc,Se,O1.d,O2.d,O3.d,cmI,arI,envOf,putN,↓reduceIte,Nat.reduceLT,Nat.reduceSub,Nat.reduceAdd,Int.reduceAdd,Int.reduceEq,Int.reduceLT,Int.reduceLE,arr_pos,arr_neg,tr_spec_l40Rd_pick]
 refine ⟨fun g=>h 0 (by omega) (by omega),fun g=>⟨fun g2=>h 0 (by omega) (by omega),fun g2=>?_⟩⟩
 have hn:1≤n:=by omega
 have hlb:0<(b.length:Int):=by omega
 refine ⟨fun g3=>?_,fun g3=>?_⟩
 ·have h1:=hb.1.get p.toNat
  rw [wrap_id (by omega) (by omega),Int.tmod_eq_emod_of_nonneg h1.1]
  exact h _ (Int.emod_nonneg _ (by omega)) fun _=>Int.emod_lt_of_pos _ (by omega)
 ·have a1:=Int.emod_nonneg p (show (b.length:Int)≠0 by omega)
  have a2:=Int.emod_lt_of_pos p hlb
  have a3:=Int.emod_nonneg (p * 7+3) (show (b.length:Int)≠0 by omega)
  have a4:=Int.emod_lt_of_pos (p * 7+3) hlb
  have a5:=Int.ediv_nonneg hp.1 (Int.le_of_lt hlb)
  have a6:=Int.ediv_le_self (b.length:Int) hp.1
  have h1:=hb.1.get (p % (b.length:Int)).toNat
  have h2:=hb.1.get ((p * 7+3) % (b.length:Int)).toNat
  refine ⟨a1,a2,a3,a4,?_⟩
  generalize b.getD (p % (b.length:Int)).toNat 0=x1 at *
  generalize b.getD ((p * 7+3) % (b.length:Int)).toNat 0=x2 at *
  generalize p / (b.length:Int)=x3 at *
  rw [wrap_id (x:=x1) (by omega) (by omega),wrap_id (x:=x2) (by omega) (by omega),wrap_id (x:=x3) (by omega) (by omega),wrap_id (x:=x1 * 131) (by omega) (by omega),wrap_id (x:=x2 * 1117) (by omega) (by omega),wrap_id (x:=x1 * 131+x2 * 1117) (by omega) (by omega),wrap_id (x:=x1 * 131+x2 * 1117+p * 29) (by omega) (by omega),wrap_id (x:=x3 * 53) (by omega) (by omega),wrap_id (x:=x1 * 131+x2 * 1117+p * 29+x3 * 53) (by omega) (by omega)]
  obtain ⟨y,hy⟩:∃y,x1 * 131+x2 * 1117+p * 29+x3 * 53=y:=⟨_,rfl⟩
  have hyb:0≤y∧y<1099511627776:=by omega
  rw [hy,Int.tdiv_eq_ediv_of_nonneg hyb.1,wrap_id (x:=y / 64) (by omega) (by omega)]
  have h4:=xor_bd hyb (y:=y / 64) (by omega)
  rw [Int.tmod_eq_emod_of_nonneg h4]
  exact h _ (Int.emod_nonneg _ (by omega)) fun _=>Int.emod_lt_of_pos _ (by omega)
theorem D_pick1 (b:List Int) (p n:Int) (hb:Rdy b) (hp:0≤p∧p≤1000000000) (hn:1≤n) {Q:List AV→Prop} (h:∀v:Int,0≤v→v<n→Q [⟨I,v⟩,⟨RD,(b,p+1)⟩]):mc.C f_spec_l40Rd_pick [⟨RD,(b,p)⟩,⟨I,n⟩] Q:=D_pick b p n hb hp fun v h0 h1=>h v h0 (h1 hn)
theorem D_num (b:List Int) (p:Int) (l:List Int) (hb:Rdy b) (hp:0≤p∧p≤1000000000) (hl:l≠[]) (hl2:l.length≤1048576) {Q:List AV→Prop} (h:∀v:Int,v∈l→Q [⟨I,v⟩,⟨RD,(b,p+1)⟩]):mc.C f_spec_l40Rd_num [⟨RD,(b,p)⟩,⟨L I,l⟩] Q:=by
 have hl1:0<l.length:=List.length_pos_iff.2 hl
 refine mc.c_of F_spec_l40Rd_num ?_
 simp+contextual(maxSteps:=1000000)(disch:=omega)only[↓Sd,↓So,↓Sk,↓den,↓denA,Sa,Sb,Sc,Se,O1.d,O2.d,O3.d,cmI,arI,envOf,putN,↓reduceIte,Nat.reduceLT,Nat.reduceSub,Nat.reduceAdd,Int.reduceAdd,Int.reduceEq,Int.reduceLT,Int.reduceLE,arr_pos,arr_neg,tr_spec_l40Rd_num]
 refine D_pick1 b p _ hb hp (by omega) fun v h0 h1=>?_
 simp+contextual(maxSteps:=1000000)(disch:=omega)only[↓Sd,↓So,↓Sk,↓den,↓denA,Sa,Sb,Sc,Se,O1.d,O2.d,O3.d,cmI,arI,envOf,putN,↓reduceIte,Nat.reduceLT,Nat.reduceSub,Nat.reduceAdd,Int.reduceAdd,Int.reduceEq,Int.reduceLT,Int.reduceLE,arr_pos,arr_neg,]
 exact h _ (getD_mem (by omega))
theorem D_open (b:List Int) (hb:Byt b) (hl:Lt63 b) {Q:List AV→Prop} (h:∀b',Rdy b'→Q [⟨RD,(b',0)⟩]):mc.C f_spec_l40Open [⟨L U,b⟩] Q:=by
 unfold Lt63 at hl
 refine mc.c_of F_spec_l40Open ?_
 simp+contextual(maxSteps:=1000000)(disch:=omega)only[↓Sd,↓So,↓Sk,↓den,↓denA,Sa,Sb,Sc,Se,O1.d,O2.d,O3.d,cmI,arI,envOf,putN,↓reduceIte,Nat.reduceLT,Nat.reduceSub,Nat.reduceAdd,Int.reduceAdd,Int.reduceEq,Int.reduceLT,Int.reduceLE,arr_pos,arr_neg,↓wpJoin,tr_spec_l40Open]
 refine ⟨fun g=>?_,fun g=>h b ⟨hb,by omega⟩⟩
 refine h _ ⟨fun x hx=>hb x ?_,?_⟩
 ·exact List.mem_of_mem_take hx
 ·rw [List.length_take];omega
theorem D_l1Number (b:List Int) (p:Int) (hb:Rdy b) (hp:0≤p∧p≤900000000) {Q:List AV→Prop} (h:∀v p':Int,p≤p'∧p'≤p+6→Q [⟨I,v⟩,⟨RD,(b,p')⟩]):mc.C f_spec_l1Number [⟨RD,(b,p)⟩] Q:=by
 refine mc.c_of F_spec_l1Number ?_
 simp+contextual(maxSteps:=1000000)(disch:=omega)only[↓Sd,↓So,↓Sk,↓den,↓denA,Sa,Sb,Sc,Se,O1.d,O2.d,O3.d,cmI,arI,envOf,putN,↓reduceIte,Nat.reduceLT,Nat.reduceSub,Nat.reduceAdd,Int.reduceAdd,Int.reduceEq,Int.reduceLT,Int.reduceLE,arr_pos,arr_neg,tr_spec_l1Number]
 refine D_pick1 _ _ _ hb (by omega) (by omega) fun v1 v10 v11=>?_;simp+contextual(maxSteps:=1000000)(disch:=omega)only[↓Sd,↓So,↓Sk,↓den,↓denA,Sa,Sb,Sc,Se,O1.d,O2.d,O3.d,cmI,arI,envOf,putN,↓reduceIte,Nat.reduceLT,Nat.reduceSub,Nat.reduceAdd,Int.reduceAdd,Int.reduceEq,Int.reduceLT,Int.reduceLE,arr_pos,arr_neg,]
 refine D_pick1 _ _ _ hb (by omega) (by omega) fun v2 v20 v21=>?_;simp+contextual(maxSteps:=1000000)(disch:=omega)only[↓Sd,↓So,↓Sk,↓den,↓denA,Sa,Sb,Sc,Se,O1.d,O2.d,O3.d,cmI,arI,envOf,putN,↓reduceIte,Nat.reduceLT,Nat.reduceSub,Nat.reduceAdd,Int.reduceAdd,Int.reduceEq,Int.reduceLT,Int.reduceLE,arr_pos,arr_neg,]
 refine D_pick1 _ _ _ hb (by omega) (by omega) fun v3 v30 v31=>?_;simp+contextual(maxSteps:=1000000)(disch:=omega)only[↓Sd,↓So,↓Sk,↓den,↓denA,Sa,Sb,Sc,Se,O1.d,O2.d,O3.d,cmI,arI,envOf,putN,↓reduceIte,Nat.reduceLT,Nat.reduceSub,Nat.reduceAdd,Int.reduceAdd,Int.reduceEq,Int.reduceLT,Int.reduceLE,arr_pos,arr_neg,]
 refine D_pick1 _ _ _ hb (by omega) (by omega) fun v4 v40 v41=>?_;simp+contextual(maxSteps:=1000000)(disch:=omega)only[↓Sd,↓So,↓Sk,↓den,↓denA,Sa,Sb,Sc,Se,O1.d,O2.d,O3.d,cmI,arI,envOf,putN,↓reduceIte,Nat.reduceLT,Nat.reduceSub,Nat.reduceAdd,Int.reduceAdd,Int.reduceEq,Int.reduceLT,Int.reduceLE,arr_pos,arr_neg,]
 refine D_pick1 _ _ _ hb (by omega) (by omega) fun v5 v50 v51=>?_;simp+contextual(maxSteps:=1000000)(disch:=omega)only[↓Sd,↓So,↓Sk,↓den,↓denA,Sa,Sb,Sc,Se,O1.d,O2.d,O3.d,cmI,arI,envOf,putN,↓reduceIte,Nat.reduceLT,Nat.reduceSub,Nat.reduceAdd,Int.reduceAdd,Int.reduceEq,Int.reduceLT,Int.reduceLE,arr_pos,arr_neg,]
 refine D_num _ _ _ hb (by omega) (by simp) (by simp) fun v v0=>?_;simp+contextual(maxSteps:=1000000)(disch:=omega)only[↓Sd,↓So,↓Sk,↓den,↓denA,Sa,Sb,Sc,Se,O1.d,O2.d,O3.d,cmI,arI,envOf,putN,↓reduceIte,Nat.reduceLT,Nat.reduceSub,Nat.reduceAdd,Int.reduceAdd,Int.reduceEq,Int.reduceLT,Int.reduceLE,arr_pos,arr_neg,]
 exact h v _ (by omega)
theorem D_l1Pick (b:List Int) (p:Int) (ks:List Int) (kind:Int) (hb:Rdy b) (hp:0≤p∧p≤900000000) (hk:0<ks.length) (hk2:ks.length≤1000) {Q:List AV→Prop} (h:∀v:Int,-1≤v∧v<ks.length→Q [⟨I,v⟩,⟨RD,(b,p+1)⟩]):mc.C f_spec_l1Pick [⟨RD,(b,p)⟩,⟨L I,ks⟩,⟨I,kind⟩] Q:=by
 refine mc.c_of F_spec_l1Pick ?_
 simp+contextual(maxSteps:=1000000)(disch:=omega)only[↓Sd,↓So,↓Sk,↓den,↓denA,Sa,Sb,Sc,Se,O1.d,O2.d,O3.d,cmI,arI,envOf,putN,↓reduceIte,Nat.reduceLT,Nat.reduceSub,Nat.reduceAdd,Int.reduceAdd,Int.reduceEq,Int.reduceLT,Int.reduceLE,arr_pos,arr_neg,tr_spec_l1Pick]
 refine D_pick1 _ _ _ hb (by omega) (by omega) fun a a0 a1=>?_;simp+contextual(maxSteps:=1000000)(disch:=omega)only[↓Sd,↓So,↓Sk,↓den,↓denA,Sa,Sb,Sc,Se,O1.d,O2.d,O3.d,cmI,arI,envOf,putN,↓reduceIte,Nat.reduceLT,Nat.reduceSub,Nat.reduceAdd,Int.reduceAdd,Int.reduceEq,Int.reduceLT,Int.reduceLE,arr_pos,arr_neg,]
 refine mc.lp_for Unit (fun i _=>[⟨L I,ks⟩,⟨I,kind⟩,⟨I,a⟩,⟨I,(i:Int)⟩,⟨L U,b⟩,⟨I,p+1⟩]) (fun _ _=>True) ks.length 0 () _ rfl (Nat.zero_le _) trivial ?_ ?_
 ·rintro i - hi -
  have a1:=Int.emod_nonneg (a+(i:Int)) (show (ks.length:Int)≠0 by omega)
  have a2:=Int.emod_lt_of_pos (a+(i:Int)) (show 0<(ks.length:Int) by omega)
  simp+contextual(maxSteps:=1000000)(disch:=omega)only[↓Sd,↓So,↓Sk,↓den,↓denA,Sa,Sb,Sc,Se,O1.d,O2.d,O3.d,cmI,arI,envOf,putN,↓reduceIte,Nat.reduceLT,Nat.reduceSub,Nat.reduceAdd,Int.reduceAdd,Int.reduceEq,Int.reduceLT,Int.reduceLE,arr_pos,arr_neg,]
  exact fun _=>h _ (by omega)
 ·rintro - -
  simp+contextual(maxSteps:=1000000)(disch:=omega)only[↓Sd,↓So,↓Sk,↓den,↓denA,Sa,Sb,Sc,Se,O1.d,O2.d,O3.d,cmI,arI,envOf,putN,↓reduceIte,Nat.reduceLT,Nat.reduceSub,Nat.reduceAdd,Int.reduceAdd,Int.reduceEq,Int.reduceLT,Int.reduceLE,arr_pos,arr_neg,]
  exact h _ (by omega)
theorem C_spec_l2VarOf (n:Int) (Q:List AV→Prop):mc.C f_spec_l2VarOf [⟨I,n⟩] Q=Q [⟨I,1⟩,⟨I,n⟩,⟨I,0⟩,⟨I,0⟩]:=Mc.Ends.c (mc.ends F_spec_l2VarOf (by simp+contextual(maxSteps:=1000000)(disch:=omega)only[↓Sd,↓So,↓Sk,↓den,↓denA,Sa,Sb,Sc,Se,O1.d,O2.d,O3.d,cmI,arI,envOf,putN,↓reduceIte,Nat.reduceLT,Nat.reduceSub,Nat.reduceAdd,Int.reduceAdd,Int.reduceEq,Int.reduceLT,Int.reduceLE,arr_pos,arr_neg,tr_spec_l2VarOf]))
theorem C_spec_l2Const (n:Int) (Q:List AV→Prop):mc.C f_spec_l2Const [⟨I,n⟩] Q=Q [⟨I,0⟩,⟨I,n⟩,⟨I,0⟩,⟨I,0⟩]:=Mc.Ends.c (mc.ends F_spec_l2Const (by simp+contextual(maxSteps:=1000000)(disch:=omega)only[↓Sd,↓So,↓Sk,↓den,↓denA,Sa,Sb,Sc,Se,O1.d,O2.d,O3.d,cmI,arI,envOf,putN,↓reduceIte,Nat.reduceLT,Nat.reduceSub,Nat.reduceAdd,Int.reduceAdd,Int.reduceEq,Int.reduceLT,Int.reduceLE,arr_pos,arr_neg,tr_spec_l2Const]))
theorem D_l2Cond (b:List Int) (p:Int) (v:Vr) (at_:Int) (hb:Rdy b) (hp:0≤p∧p≤900000000) {Q:List AV→Prop} (h:∀(l:List Tm) (p':Int),p≤p'∧p'≤p+3→l.length≤4→Q [⟨L T4,l⟩,⟨RD,(b,p')⟩]):mc.C f_spec_l2Cond [⟨RD,(b,p)⟩,⟨I,v.1⟩,⟨I,v.2.1⟩,⟨I,v.2.2⟩,⟨I,at_⟩] Q:=by
 refine mc.c_of F_spec_l2Cond ?_
 simp+contextual(maxSteps:=1000000)(disch:=omega)only[↓Sd,↓So,↓Sk,↓den,↓denA,Sa,Sb,Sc,Se,O1.d,O2.d,O3.d,cmI,arI,envOf,putN,↓reduceIte,Nat.reduceLT,Nat.reduceSub,Nat.reduceAdd,Int.reduceAdd,Int.reduceEq,Int.reduceLT,Int.reduceLE,arr_pos,arr_neg,tr_spec_l2Cond]
 refine D_pick _ _ _ hb (by omega) fun n _ _=>?_
 simp+contextual(maxSteps:=1000000)(disch:=omega)only[↓Sd,↓So,↓Sk,↓den,↓denA,Sa,Sb,Sc,Se,O1.d,O2.d,O3.d,cmI,arI,envOf,putN,↓reduceIte,Nat.reduceLT,Nat.reduceSub,Nat.reduceAdd,Int.reduceAdd,Int.reduceEq,Int.reduceLT,Int.reduceLE,arr_pos,arr_neg,↓wpJoin,]
 refine D_num _ _ _ hb (by omega) (by simp) (by simp) fun o o0=>?_;simp+contextual(maxSteps:=1000000)(disch:=omega)only[↓Sd,↓So,↓Sk,↓den,↓denA,Sa,Sb,Sc,Se,O1.d,O2.d,O3.d,cmI,arI,envOf,putN,↓reduceIte,Nat.reduceLT,Nat.reduceSub,Nat.reduceAdd,Int.reduceAdd,Int.reduceEq,Int.reduceLT,Int.reduceLE,arr_pos,arr_neg,]
 simp+contextual(maxSteps:=1000000)(disch:=omega)only[↓Sd,↓So,↓Sk,↓den,↓denA,Sa,Sb,Sc,Se,O1.d,O2.d,O3.d,cmI,arI,envOf,putN,↓reduceIte,Nat.reduceLT,Nat.reduceSub,Nat.reduceAdd,Int.reduceAdd,Int.reduceEq,Int.reduceLT,Int.reduceLE,arr_pos,arr_neg,↓wpJoin,C_spec_l2VarOf,C_spec_l2Const]
 refine D_pick1 _ _ _ hb (by omega) (by omega) fun k k0 k1=>?_;simp+contextual(maxSteps:=1000000)(disch:=omega)only[↓Sd,↓So,↓Sk,↓den,↓denA,Sa,Sb,Sc,Se,O1.d,O2.d,O3.d,cmI,arI,envOf,putN,↓reduceIte,Nat.reduceLT,Nat.reduceSub,Nat.reduceAdd,Int.reduceAdd,Int.reduceEq,Int.reduceLT,Int.reduceLE,arr_pos,arr_neg,]
 exact ⟨fun _=>h _ _ (by omega) (by simp),fun _=>h _ _ (by omega) (by simp)⟩
def mvT (t:Tm) (n:Int):Tm:=if 2≤t.1 then (t.1,0,IntKind.i64.wrap (t.2.2.1+n),IntKind.i64.wrap (t.2.2.2+n)) else t
theorem C_spec_l1Moved (t:Tm) (n:Int) (Q:List AV→Prop):mc.C f_spec_l1Moved [⟨I,t.1⟩,⟨I,t.2.1⟩,⟨I,t.2.2.1⟩,⟨I,t.2.2.2⟩,⟨I,n⟩] Q=Q [⟨I,(mvT t n).1⟩,⟨I,(mvT t n).2.1⟩,⟨I,(mvT t n).2.2.1⟩,⟨I,(mvT t n).2.2.2⟩]:=by
 refine Mc.Ends.c (mc.ends F_spec_l1Moved ?_)
 unfold mvT
 by_cases g:2≤t.1
 ·rw [if_pos g]
  simp+contextual(maxSteps:=1000000)(disch:=omega)only[↓Sd,↓So,↓Sk,↓den,↓denA,Sa,Sb,Sc,Se,O1.d,O2.d,O3.d,cmI,arI,envOf,putN,↓reduceIte,Nat.reduceLT,Nat.reduceSub,Nat.reduceAdd,Int.reduceAdd,Int.reduceEq,Int.reduceLT,Int.reduceLE,arr_pos,arr_neg,tr_spec_l1Moved]
 ·rw [if_neg g]
  simp+contextual(maxSteps:=1000000)(disch:=omega)only[↓Sd,↓So,↓Sk,↓den,↓denA,Sa,Sb,Sc,Se,O1.d,O2.d,O3.d,cmI,arI,envOf,putN,↓reduceIte,Nat.reduceLT,Nat.reduceSub,Nat.reduceAdd,Int.reduceAdd,Int.reduceEq,Int.reduceLT,Int.reduceLE,arr_pos,arr_neg,tr_spec_l1Moved]
theorem C_spec_TermsValid (l:List Tm) (vars:Int) (hl:Few l) (Q:List AV→Prop):mc.C f_spec_TermsValid [⟨L T4,l⟩,⟨I,vars⟩] Q=Q [⟨B,decide (((kdsOf l vars).length:Int) > 0)⟩]:=by
 refine Mc.Ends.c (mc.ends F_spec_TermsValid ?_)
 simp+contextual(maxSteps:=1000000)(disch:=omega)only[↓Sd,↓So,↓Sk,↓den,↓denA,Sa,Sb,Sc,Se,O1.d,O2.d,O3.d,cmI,arI,envOf,putN,↓reduceIte,Nat.reduceLT,Nat.reduceSub,Nat.reduceAdd,Int.reduceAdd,Int.reduceEq,Int.reduceLT,Int.reduceLE,arr_pos,arr_neg,tr_spec_TermsValid,C_spec_KindsOf l vars hl]
theorem D_Joined (o:Int) (l m:List Tm) (vars:Int) (hl:l.length≤1000) (hm:m.length≤1000) {Q:List AV→Prop} (h:∀(r:List Tm),r.length≤l.length+m.length+1→Q [⟨L T4,r⟩]):mc.C f_spec_Joined [⟨I,o⟩,⟨L T4,l⟩,⟨L T4,m⟩,⟨I,vars⟩] Q:=by
 have h1:Few l:=by unfold Few;omega
 have h2:Few m:=by unfold Few;omega
 refine mc.c_of F_spec_Joined ?_
 simp+contextual(maxSteps:=1000000)(disch:=omega)only[↓Sd,↓So,↓Sk,↓den,↓denA,Sa,Sb,Sc,Se,O1.d,O2.d,O3.d,cmI,arI,envOf,putN,↓reduceIte,Nat.reduceLT,Nat.reduceSub,Nat.reduceAdd,Int.reduceAdd,Int.reduceEq,Int.reduceLT,Int.reduceLE,arr_pos,arr_neg,tr_spec_Joined,C_spec_TermsValid l vars h1,C_spec_TermsValid m vars h2]
 refine ⟨fun _=>h _ (by simp),fun _=>⟨fun _=>h _ (by simp),fun _=>?_⟩⟩
 refine mc.lp_for (List Tm) (fun i s=>[⟨I,o⟩,⟨L T4,l⟩,⟨L T4,m⟩,⟨I,vars⟩,⟨I,(i:Int)⟩,⟨L T4,s⟩]) (fun i s=>s.length=i) l.length 0 [] _ rfl (Nat.zero_le _) rfl ?_ ?_
 ·rintro i s hi hs
  simp+contextual(maxSteps:=1000000)(disch:=omega)only[↓Sd,↓So,↓Sk,↓den,↓denA,Sa,Sb,Sc,Se,O1.d,O2.d,O3.d,cmI,arI,envOf,putN,↓reduceIte,Nat.reduceLT,Nat.reduceSub,Nat.reduceAdd,Int.reduceAdd,Int.reduceEq,Int.reduceLT,Int.reduceLE,arr_pos,arr_neg,]
  omega
 rintro s hs
 simp+contextual(maxSteps:=1000000)(disch:=omega)only[↓Sd,↓So,↓Sk,↓den,↓denA,Sa,Sb,Sc,Se,O1.d,O2.d,O3.d,cmI,arI,envOf,putN,↓reduceIte,Nat.reduceLT,Nat.reduceSub,Nat.reduceAdd,Int.reduceAdd,Int.reduceEq,Int.reduceLT,Int.reduceLE,arr_pos,arr_neg,↓wpJoin,]
 refine mc.lp_for (List Tm) (fun i s=>[⟨I,o⟩,⟨L T4,l⟩,⟨L T4,m⟩,⟨I,vars⟩,⟨I,(i:Int)⟩,⟨L T4,s⟩]) (fun i s=>s.length≤l.length+i) m.length 0 s _ rfl (Nat.zero_le _) (by omega) ?_ ?_
 ·rintro i s hi hs
  simp+contextual(maxSteps:=1000000)(disch:=omega)only[↓Sd,↓So,↓Sk,↓den,↓denA,Sa,Sb,Sc,Se,O1.d,O2.d,O3.d,cmI,arI,envOf,putN,↓reduceIte,Nat.reduceLT,Nat.reduceSub,Nat.reduceAdd,Int.reduceAdd,Int.reduceEq,Int.reduceLT,Int.reduceLE,arr_pos,arr_neg,C_spec_l1One,C_spec_l1Moved]
  refine ⟨fun _=>by omega,fun g=>?_⟩
  have hf:Few (s++[((7:Int),(0:Int),(l.length:Int) - 1,(s.length:Int) - 1)]):=by unfold Few;simp only [List.length_append,List.length_singleton];omega
  simp+contextual(maxSteps:=1000000)(disch:=omega)only[↓Sd,↓So,↓Sk,↓den,↓denA,Sa,Sb,Sc,Se,O1.d,O2.d,O3.d,cmI,arI,envOf,putN,↓reduceIte,Nat.reduceLT,Nat.reduceSub,Nat.reduceAdd,Int.reduceAdd,Int.reduceEq,Int.reduceLT,Int.reduceLE,arr_pos,arr_neg,C_spec_TermsValid _ vars hf]
  exact ⟨fun _=>h _ (by simp),fun _=>h _ (by simp only [List.length_append,List.length_singleton];omega)⟩
 ·rintro s hs
  simp+contextual(maxSteps:=1000000)(disch:=omega)only[↓Sd,↓So,↓Sk,↓den,↓denA,Sa,Sb,Sc,Se,O1.d,O2.d,O3.d,cmI,arI,envOf,putN,↓reduceIte,Nat.reduceLT,Nat.reduceSub,Nat.reduceAdd,Int.reduceAdd,Int.reduceEq,Int.reduceLT,Int.reduceLE,arr_pos,arr_neg,]
  refine ⟨fun _=>h _ (by simp),fun _=>?_⟩
  have hf:Few (s++[(o,(0:Int),(l.length:Int) - 1,(s.length:Int) - 1)]):=by unfold Few;simp only [List.length_append,List.length_singleton];omega
  simp+contextual(maxSteps:=1000000)(disch:=omega)only[↓Sd,↓So,↓Sk,↓den,↓denA,Sa,Sb,Sc,Se,O1.d,O2.d,O3.d,cmI,arI,envOf,putN,↓reduceIte,Nat.reduceLT,Nat.reduceSub,Nat.reduceAdd,Int.reduceAdd,Int.reduceEq,Int.reduceLT,Int.reduceLE,arr_pos,arr_neg,C_spec_TermsValid _ vars hf]
  exact ⟨fun _=>h _ (by simp),fun _=>h _ (by simp only [List.length_append,List.length_singleton];omega)⟩
theorem D_l2When (b:List Int) (p:Int) (vs:List Vr) (hb:Rdy b) (hp:0≤p∧p≤800000000) (hv:1≤vs.length) (hv2:vs.length≤1000) {Q:List AV→Prop} (h:∀(l:List Tm) (p':Int),p≤p'∧p'≤p+10→l.length≤9→Q [⟨L T4,l⟩,⟨RD,(b,p')⟩]):mc.C f_spec_l2When [⟨RD,(b,p)⟩,⟨L V3,vs⟩] Q:=by
 refine mc.c_of F_spec_l2When ?_
 simp+contextual(maxSteps:=1000000)(disch:=omega)only[↓Sd,↓So,↓Sk,↓den,↓denA,Sa,Sb,Sc,Se,O1.d,O2.d,O3.d,cmI,arI,envOf,putN,↓reduceIte,Nat.reduceLT,Nat.reduceSub,Nat.reduceAdd,Int.reduceAdd,Int.reduceEq,Int.reduceLT,Int.reduceLE,arr_pos,arr_neg,tr_spec_l2When]
 refine D_pick1 _ _ _ hb (by omega) (by omega) fun i i0 i1=>?_;simp+contextual(maxSteps:=1000000)(disch:=omega)only[↓Sd,↓So,↓Sk,↓den,↓denA,Sa,Sb,Sc,Se,O1.d,O2.d,O3.d,cmI,arI,envOf,putN,↓reduceIte,Nat.reduceLT,Nat.reduceSub,Nat.reduceAdd,Int.reduceAdd,Int.reduceEq,Int.reduceLT,Int.reduceLE,arr_pos,arr_neg,]
 refine D_l2Cond _ _ (vs.getD i.toNat (0,0,0)) _ hb (by omega) fun l p1 hp1 hl=>?_
 simp+contextual(maxSteps:=1000000)(disch:=omega)only[↓Sd,↓So,↓Sk,↓den,↓denA,Sa,Sb,Sc,Se,O1.d,O2.d,O3.d,cmI,arI,envOf,putN,↓reduceIte,Nat.reduceLT,Nat.reduceSub,Nat.reduceAdd,Int.reduceAdd,Int.reduceEq,Int.reduceLT,Int.reduceLE,arr_pos,arr_neg,↓wpJoin,]
 refine D_pick1 _ _ _ hb (by omega) (by omega) fun k k0 k1=>?_;simp+contextual(maxSteps:=1000000)(disch:=omega)only[↓Sd,↓So,↓Sk,↓den,↓denA,Sa,Sb,Sc,Se,O1.d,O2.d,O3.d,cmI,arI,envOf,putN,↓reduceIte,Nat.reduceLT,Nat.reduceSub,Nat.reduceAdd,Int.reduceAdd,Int.reduceEq,Int.reduceLT,Int.reduceLE,arr_pos,arr_neg,]
 refine ⟨fun _=>?_,fun _=>h _ _ (by omega) (by omega)⟩
 refine D_pick1 _ _ _ hb (by omega) (by omega) fun j j0 j1=>?_;simp+contextual(maxSteps:=1000000)(disch:=omega)only[↓Sd,↓So,↓Sk,↓den,↓denA,Sa,Sb,Sc,Se,O1.d,O2.d,O3.d,cmI,arI,envOf,putN,↓reduceIte,Nat.reduceLT,Nat.reduceSub,Nat.reduceAdd,Int.reduceAdd,Int.reduceEq,Int.reduceLT,Int.reduceLE,arr_pos,arr_neg,]
 refine D_num _ _ _ hb (by omega) (by simp) (by simp) fun o o0=>?_;simp+contextual(maxSteps:=1000000)(disch:=omega)only[↓Sd,↓So,↓Sk,↓den,↓denA,Sa,Sb,Sc,Se,O1.d,O2.d,O3.d,cmI,arI,envOf,putN,↓reduceIte,Nat.reduceLT,Nat.reduceSub,Nat.reduceAdd,Int.reduceAdd,Int.reduceEq,Int.reduceLT,Int.reduceLE,arr_pos,arr_neg,]
 refine D_l2Cond _ _ (vs.getD j.toNat (0,0,0)) _ hb (by omega) fun m p2 hp2 hm=>?_
 simp+contextual(maxSteps:=1000000)(disch:=omega)only[↓Sd,↓So,↓Sk,↓den,↓denA,Sa,Sb,Sc,Se,O1.d,O2.d,O3.d,cmI,arI,envOf,putN,↓reduceIte,Nat.reduceLT,Nat.reduceSub,Nat.reduceAdd,Int.reduceAdd,Int.reduceEq,Int.reduceLT,Int.reduceLE,arr_pos,arr_neg,]
 refine D_Joined _ _ _ _ (by omega) (by omega) fun r hr=>?_
 simp+contextual(maxSteps:=1000000)(disch:=omega)only[↓Sd,↓So,↓Sk,↓den,↓denA,Sa,Sb,Sc,Se,O1.d,O2.d,O3.d,cmI,arI,envOf,putN,↓reduceIte,Nat.reduceLT,Nat.reduceSub,Nat.reduceAdd,Int.reduceAdd,Int.reduceEq,Int.reduceLT,Int.reduceLE,arr_pos,arr_neg,↓wpJoin,]
 exact h _ _ (by omega) (by omega)
theorem D_l1Terms (b:List Int) (p vars kind most:Int) (hb:Rdy b) (hp:0≤p∧p≤800000000) (hv:0≤vars∧vars≤5) (hm:1≤most∧most≤12) {Q:List AV→Prop} (h:∀(l:List Tm) (p':Int),p≤p'∧p'≤p+400→1≤l.length→l.length≤16→Q [⟨L T4,l⟩,⟨RD,(b,p')⟩]):mc.C f_spec_l1Terms [⟨RD,(b,p)⟩,⟨I,vars⟩,⟨I,kind⟩,⟨I,most⟩] Q:=by
 refine mc.c_of F_spec_l1Terms ?_
 simp+contextual(maxSteps:=1000000)(disch:=omega)only[↓Sd,↓So,↓Sk,↓den,↓denA,Sa,Sb,Sc,Se,O1.d,O2.d,O3.d,cmI,arI,envOf,putN,↓reduceIte,Nat.reduceLT,Nat.reduceSub,Nat.reduceAdd,Int.reduceAdd,Int.reduceEq,Int.reduceLT,Int.reduceLE,arr_pos,arr_neg,tr_spec_l1Terms]
 refine D_pick1 _ _ _ hb (by omega) (by omega) fun n n0 n1=>?_;simp+contextual(maxSteps:=1000000)(disch:=omega)only[↓Sd,↓So,↓Sk,↓den,↓denA,Sa,Sb,Sc,Se,O1.d,O2.d,O3.d,cmI,arI,envOf,putN,↓reduceIte,Nat.reduceLT,Nat.reduceSub,Nat.reduceAdd,Int.reduceAdd,Int.reduceEq,Int.reduceLT,Int.reduceLE,arr_pos,arr_neg,]
 obtain ⟨N,hN⟩:∃N:Nat,n=N:=⟨n.toNat,by omega⟩
 subst hN
 refine mc.lp_inv (fun k us=>∃(p1:Int) (l:List Tm) (ks:List Int),us=[⟨I,vars⟩,⟨I,kind⟩,⟨I,(k:Int)⟩,⟨L U,b⟩,⟨I,p1⟩,⟨L T4,l⟩,⟨L I,ks⟩]∧l.length=ks.length∧l.length+k≤2+N∧p≤p1∧p1+20 * k≤p+1+20 * (2+N)) (2+N) _ ⟨p+1,[],[],by simp,rfl,by simp,by omega,by omega⟩ ?_
 rintro k us ⟨p1,l,ks,rfl,i1,i2,i3,i4⟩
 cases k with
 | zero =>
  simp+contextual(maxSteps:=1000000)(disch:=omega)only[↓Sd,↓So,↓Sk,↓den,↓denA,Sa,Sb,Sc,Se,O1.d,O2.d,O3.d,cmI,arI,envOf,putN,↓reduceIte,Nat.reduceLT,Nat.reduceSub,Nat.reduceAdd,Int.reduceAdd,Int.reduceEq,Int.reduceLT,Int.reduceLE,arr_pos,arr_neg,]
  refine mc.wp_join (fun us=>∃(l:List Tm) (ks:List Int),us=[⟨I,kind⟩,⟨L U,b⟩,⟨I,p1⟩,⟨L T4,l⟩,⟨L I,ks⟩]∧l.length=ks.length∧1≤l.length∧l.length≤14) ?_ ?_
  ·simp+contextual(maxSteps:=1000000)(disch:=omega)only[↓Sd,↓So,↓Sk,↓den,↓denA,Sa,Sb,Sc,Se,O1.d,O2.d,O3.d,cmI,arI,envOf,putN,↓reduceIte,Nat.reduceLT,Nat.reduceSub,Nat.reduceAdd,Int.reduceAdd,Int.reduceEq,Int.reduceLT,Int.reduceLE,arr_pos,arr_neg,]
   refine ⟨fun g=>⟨_,_,⟨rfl,rfl⟩,by simp [i1],by simp,?_⟩,fun g=>⟨l,ks,⟨rfl,rfl⟩,i1,by omega,by omega⟩⟩
   simp only [List.length_append,List.length_singleton];omega
  ·rintro us ⟨l,ks,rfl,a1,a2,a3⟩
   refine mc.wp_join (fun us=>∃(p2:Int) (l:List Tm),us=[⟨L U,b⟩,⟨I,p2⟩,⟨L T4,l⟩]∧p≤p2∧p2≤p+390∧1≤l.length∧l.length≤16) ?_ ?_
   ·have ln1:∀x:Tm,1≤(l++[x]).length∧(l++[x]).length≤16:=fun x=>by simp only [List.length_append,List.length_singleton];omega
    simp+contextual(maxSteps:=1000000)(disch:=omega)only[↓Sd,↓So,↓Sk,↓den,↓denA,Sa,Sb,Sc,Se,O1.d,O2.d,O3.d,cmI,arI,envOf,putN,↓reduceIte,Nat.reduceLT,Nat.reduceSub,Nat.reduceAdd,Int.reduceAdd,Int.reduceEq,Int.reduceLT,Int.reduceLE,arr_pos,arr_neg,]
    refine ⟨fun _=>⟨fun _=>?_,fun _=>⟨_,_,⟨rfl,rfl⟩,by omega,by omega,by omega,by omega⟩⟩,fun _=>⟨fun _=>⟨fun _=>?_,fun _=>⟨_,_,⟨rfl,rfl⟩,by omega,by omega,by omega,by omega⟩⟩,fun _=>⟨_,_,⟨rfl,rfl⟩,by omega,by omega,by omega,by omega⟩⟩⟩
    ·refine D_num _ _ _ hb (by omega) (by simp) (by simp) fun o o0=>?_;simp+contextual(maxSteps:=1000000)(disch:=omega)only[↓Sd,↓So,↓Sk,↓den,↓denA,Sa,Sb,Sc,Se,O1.d,O2.d,O3.d,cmI,arI,envOf,putN,↓reduceIte,Nat.reduceLT,Nat.reduceSub,Nat.reduceAdd,Int.reduceAdd,Int.reduceEq,Int.reduceLT,Int.reduceLE,arr_pos,arr_neg,]
     refine D_l1Pick _ _ _ _ hb (by omega) (by omega) (by omega) fun x hx=>?_
     simp+contextual(maxSteps:=1000000)(disch:=omega)only[↓Sd,↓So,↓Sk,↓den,↓denA,Sa,Sb,Sc,Se,O1.d,O2.d,O3.d,cmI,arI,envOf,putN,↓reduceIte,Nat.reduceLT,Nat.reduceSub,Nat.reduceAdd,Int.reduceAdd,Int.reduceEq,Int.reduceLT,Int.reduceLE,arr_pos,arr_neg,]
     exact ⟨_,_,⟨rfl,rfl⟩,by omega,by omega,(ln1 _).1,(ln1 _).2⟩
    ·refine D_l1Pick _ _ _ _ hb (by omega) (by omega) (by omega) fun x hx=>?_
     simp+contextual(maxSteps:=1000000)(disch:=omega)only[↓Sd,↓So,↓Sk,↓den,↓denA,Sa,Sb,Sc,Se,O1.d,O2.d,O3.d,cmI,arI,envOf,putN,↓reduceIte,Nat.reduceLT,Nat.reduceSub,Nat.reduceAdd,Int.reduceAdd,Int.reduceEq,Int.reduceLT,Int.reduceLE,arr_pos,arr_neg,]
     refine D_num _ _ _ hb (by omega) (by simp) (by simp) fun o o0=>?_;simp+contextual(maxSteps:=1000000)(disch:=omega)only[↓Sd,↓So,↓Sk,↓den,↓denA,Sa,Sb,Sc,Se,O1.d,O2.d,O3.d,cmI,arI,envOf,putN,↓reduceIte,Nat.reduceLT,Nat.reduceSub,Nat.reduceAdd,Int.reduceAdd,Int.reduceEq,Int.reduceLT,Int.reduceLE,arr_pos,arr_neg,]
     refine D_l1Pick _ _ _ _ hb (by omega) (by omega) (by omega) fun y hy=>?_
     simp+contextual(maxSteps:=1000000)(disch:=omega)only[↓Sd,↓So,↓Sk,↓den,↓denA,Sa,Sb,Sc,Se,O1.d,O2.d,O3.d,cmI,arI,envOf,putN,↓reduceIte,Nat.reduceLT,Nat.reduceSub,Nat.reduceAdd,Int.reduceAdd,Int.reduceEq,Int.reduceLT,Int.reduceLE,arr_pos,arr_neg,]
     exact ⟨_,_,⟨rfl,rfl⟩,by omega,by omega,(ln1 _).1,(ln1 _).2⟩
   ·rintro us ⟨p2,l,rfl,c1,c2,c3,c4⟩
    simp+contextual(maxSteps:=1000000)(disch:=omega)only[↓Sd,↓So,↓Sk,↓den,↓denA,Sa,Sb,Sc,Se,O1.d,O2.d,O3.d,cmI,arI,envOf,putN,↓reduceIte,Nat.reduceLT,Nat.reduceSub,Nat.reduceAdd,Int.reduceAdd,Int.reduceEq,Int.reduceLT,Int.reduceLE,arr_pos,arr_neg,]
    exact h _ _ (by omega) (by omega) (by omega)
 | succ k =>
  simp+contextual(maxSteps:=1000000)(disch:=omega)only[↓Sd,↓So,↓Sk,↓den,↓denA,Sa,Sb,Sc,Se,O1.d,O2.d,O3.d,cmI,arI,envOf,putN,↓reduceIte,Nat.reduceLT,Nat.reduceSub,Nat.reduceAdd,Int.reduceAdd,Int.reduceEq,Int.reduceLT,Int.reduceLE,arr_pos,arr_neg,]
  refine mc.wp_join (fun us=>∃(p2:Int) (l:List Tm) (ks:List Int),us=[⟨I,vars⟩,⟨I,kind⟩,⟨I,(k:Int)+1⟩,⟨L U,b⟩,⟨I,p2⟩,⟨L T4,l⟩,⟨L I,ks⟩]∧l.length=ks.length∧l.length+k≤2+N∧p≤p2∧p2+20 * k≤p+1+20 * (2+N)) ?_ ?_
  ·simp+contextual(maxSteps:=1000000)(disch:=omega)only[↓Sd,↓So,↓Sk,↓den,↓denA,Sa,Sb,Sc,Se,O1.d,O2.d,O3.d,cmI,arI,envOf,putN,↓reduceIte,Nat.reduceLT,Nat.reduceSub,Nat.reduceAdd,Int.reduceAdd,Int.reduceEq,Int.reduceLT,Int.reduceLE,arr_pos,arr_neg,]
   refine D_num _ _ _ hb (by omega) (by simp) (by simp) fun o o0=>?_;simp+contextual(maxSteps:=1000000)(disch:=omega)only[↓Sd,↓So,↓Sk,↓den,↓denA,Sa,Sb,Sc,Se,O1.d,O2.d,O3.d,cmI,arI,envOf,putN,↓reduceIte,Nat.reduceLT,Nat.reduceSub,Nat.reduceAdd,Int.reduceAdd,Int.reduceEq,Int.reduceLT,Int.reduceLE,arr_pos,arr_neg,]
   refine mc.wp_join (fun us=>∃(p2:Int) (t:Tm),us=[⟨I,vars⟩,⟨I,kind⟩,⟨I,(k:Int)+1⟩,⟨L U,b⟩,⟨I,p2⟩,⟨L T4,l⟩,⟨L I,ks⟩,⟨I,t.1⟩,⟨I,t.2.1⟩,⟨I,t.2.2.1⟩,⟨I,t.2.2.2⟩]∧p≤p2∧p2≤p1+10) ?_ ?_
   ·simp+contextual(maxSteps:=1000000)(disch:=omega)only[↓Sd,↓So,↓Sk,↓den,↓denA,Sa,Sb,Sc,Se,O1.d,O2.d,O3.d,cmI,arI,envOf,putN,↓reduceIte,Nat.reduceLT,Nat.reduceSub,Nat.reduceAdd,Int.reduceAdd,Int.reduceEq,Int.reduceLT,Int.reduceLE,arr_pos,arr_neg,]
    refine ⟨fun g=>?_,fun g=>⟨fun g2=>?_,fun g2=>?_⟩⟩
    ·refine D_l1Number _ _ hb (by omega) fun x p2 hp2=>?_
     simp+contextual(maxSteps:=1000000)(disch:=omega)only[↓Sd,↓So,↓Sk,↓den,↓denA,Sa,Sb,Sc,Se,O1.d,O2.d,O3.d,cmI,arI,envOf,putN,↓reduceIte,Nat.reduceLT,Nat.reduceSub,Nat.reduceAdd,Int.reduceAdd,Int.reduceEq,Int.reduceLT,Int.reduceLE,arr_pos,arr_neg,]
     refine ⟨fun _=>⟨fun _=>?_,fun _=>⟨_,((0:Int),x,(0:Int),(0:Int)),⟨rfl,rfl,rfl,rfl,rfl⟩,by omega,by omega⟩⟩,fun _=>⟨_,((0:Int),x,(0:Int),(0:Int)),⟨rfl,rfl,rfl,rfl,rfl⟩,by omega,by omega⟩⟩
     refine D_pick1 _ _ _ hb (by omega) (by omega) fun y y0 y1=>?_;simp+contextual(maxSteps:=1000000)(disch:=omega)only[↓Sd,↓So,↓Sk,↓den,↓denA,Sa,Sb,Sc,Se,O1.d,O2.d,O3.d,cmI,arI,envOf,putN,↓reduceIte,Nat.reduceLT,Nat.reduceSub,Nat.reduceAdd,Int.reduceAdd,Int.reduceEq,Int.reduceLT,Int.reduceLE,arr_pos,arr_neg,]
     exact ⟨_,((1:Int),y,(0:Int),(0:Int)),⟨rfl,rfl,rfl,rfl,rfl⟩,by omega,by omega⟩
    ·refine D_l1Number _ _ hb (by omega) fun x p2 hp2=>?_
     simp+contextual(maxSteps:=1000000)(disch:=omega)only[↓Sd,↓So,↓Sk,↓den,↓denA,Sa,Sb,Sc,Se,O1.d,O2.d,O3.d,cmI,arI,envOf,putN,↓reduceIte,Nat.reduceLT,Nat.reduceSub,Nat.reduceAdd,Int.reduceAdd,Int.reduceEq,Int.reduceLT,Int.reduceLE,arr_pos,arr_neg,]
     refine ⟨fun _=>⟨fun _=>?_,fun _=>⟨_,((0:Int),x,(0:Int),(0:Int)),⟨rfl,rfl,rfl,rfl,rfl⟩,by omega,by omega⟩⟩,fun _=>⟨_,((0:Int),x,(0:Int),(0:Int)),⟨rfl,rfl,rfl,rfl,rfl⟩,by omega,by omega⟩⟩
     refine D_pick1 _ _ _ hb (by omega) (by omega) fun y y0 y1=>?_;simp+contextual(maxSteps:=1000000)(disch:=omega)only[↓Sd,↓So,↓Sk,↓den,↓denA,Sa,Sb,Sc,Se,O1.d,O2.d,O3.d,cmI,arI,envOf,putN,↓reduceIte,Nat.reduceLT,Nat.reduceSub,Nat.reduceAdd,Int.reduceAdd,Int.reduceEq,Int.reduceLT,Int.reduceLE,arr_pos,arr_neg,]
     exact ⟨_,((1:Int),y,(0:Int),(0:Int)),⟨rfl,rfl,rfl,rfl,rfl⟩,by omega,by omega⟩
    ·refine mc.wp_join (fun us=>∃w:Int,us=[⟨I,vars⟩,⟨I,kind⟩,⟨I,(k:Int)+1⟩,⟨I,o⟩,⟨I,w⟩,⟨L U,b⟩,⟨I,p1+1⟩,⟨L T4,l⟩,⟨L I,ks⟩,⟨I,o⟩,⟨I,(0:Int)⟩,⟨I,(0:Int)⟩,⟨I,(0:Int)⟩]) ?_ ?_
     ·simp+contextual(maxSteps:=1000000)(disch:=omega)only[↓Sd,↓So,↓Sk,↓den,↓denA,Sa,Sb,Sc,Se,O1.d,O2.d,O3.d,cmI,arI,envOf,putN,↓reduceIte,Nat.reduceLT,Nat.reduceSub,Nat.reduceAdd,Int.reduceAdd,Int.reduceEq,Int.reduceLT,Int.reduceLE,arr_pos,arr_neg,]
      exact ⟨fun _=>⟨2,rfl⟩,fun _=>⟨1,rfl⟩⟩
     ·rintro us ⟨w,rfl⟩
      simp+contextual(maxSteps:=1000000)(disch:=omega)only[↓Sd,↓So,↓Sk,↓den,↓denA,Sa,Sb,Sc,Se,O1.d,O2.d,O3.d,cmI,arI,envOf,putN,↓reduceIte,Nat.reduceLT,Nat.reduceSub,Nat.reduceAdd,Int.reduceAdd,Int.reduceEq,Int.reduceLT,Int.reduceLE,arr_pos,arr_neg,]
      refine D_l1Pick _ _ _ _ hb (by omega) (by omega) (by omega) fun x hx=>?_
      simp+contextual(maxSteps:=1000000)(disch:=omega)only[↓Sd,↓So,↓Sk,↓den,↓denA,Sa,Sb,Sc,Se,O1.d,O2.d,O3.d,cmI,arI,envOf,putN,↓reduceIte,Nat.reduceLT,Nat.reduceSub,Nat.reduceAdd,Int.reduceAdd,Int.reduceEq,Int.reduceLT,Int.reduceLE,arr_pos,arr_neg,]
      refine D_l1Pick _ _ _ _ hb (by omega) (by omega) (by omega) fun y hy=>?_
      simp+contextual(maxSteps:=1000000)(disch:=omega)only[↓Sd,↓So,↓Sk,↓den,↓denA,Sa,Sb,Sc,Se,O1.d,O2.d,O3.d,cmI,arI,envOf,putN,↓reduceIte,Nat.reduceLT,Nat.reduceSub,Nat.reduceAdd,Int.reduceAdd,Int.reduceEq,Int.reduceLT,Int.reduceLE,arr_pos,arr_neg,C_spec_l1One]
      exact ⟨fun _=>⟨_,((7:Int),(0:Int),x,x),⟨rfl,rfl,rfl,rfl,rfl⟩,by omega,by omega⟩,fun _=>⟨_,(o,(0:Int),x,y),⟨rfl,rfl,rfl,rfl,rfl⟩,by omega,by omega⟩⟩
   ·rintro us ⟨p2,t,rfl,c1,c2⟩
    simp+contextual(maxSteps:=1000000)(disch:=omega)only[↓Sd,↓So,↓Sk,↓den,↓denA,Sa,Sb,Sc,Se,O1.d,O2.d,O3.d,cmI,arI,envOf,putN,↓reduceIte,Nat.reduceLT,Nat.reduceSub,Nat.reduceAdd,Int.reduceAdd,Int.reduceEq,Int.reduceLT,Int.reduceLE,arr_pos,arr_neg,C_spec_l1Kind t ks vars hv (by omega)]
    refine ⟨fun _=>⟨_,_,_,⟨rfl,rfl,rfl⟩,?_,?_,by omega,by omega⟩,fun _=>⟨_,_,_,⟨rfl,rfl,rfl⟩,i1,by omega,by omega,by omega⟩⟩
    ·simp only [List.length_append,List.length_singleton];omega
    ·simp only [List.length_append,List.length_singleton];omega
  ·rintro us ⟨p2,l,ks,rfl,a1,a2,a3,a4⟩
   simp+contextual(maxSteps:=1000000)(disch:=omega)only[↓Sd,↓So,↓Sk,↓den,↓denA,Sa,Sb,Sc,Se,O1.d,O2.d,O3.d,cmI,arI,envOf,putN,↓reduceIte,Nat.reduceLT,Nat.reduceSub,Nat.reduceAdd,Int.reduceAdd,Int.reduceEq,Int.reduceLT,Int.reduceLE,arr_pos,arr_neg,]
   exact ⟨k,by omega,p2,l,ks,⟨rfl,rfl,rfl,rfl⟩,a1,a2,a3,a4⟩
theorem D_l2Value (b:List Int) (p:Int) (vs:List Vr) (k:Int) (i:Nat) (hk:k=i) (hb:Rdy b) (hp:0≤p∧p≤700000000) (hv:vs.length≤5) (hi:i<vs.length) {Q:List AV→Prop} (h:∀(l:List Tm) (p':Int),p≤p'∧p'≤p+500→l.length≤16→Q [⟨L T4,l⟩,⟨RD,(b,p')⟩]):mc.C f_spec_l2Value [⟨RD,(b,p)⟩,⟨L V3,vs⟩,⟨I,k⟩] Q:=by
 subst hk
 refine mc.c_of F_spec_l2Value ?_
 simp+contextual(maxSteps:=1000000)(disch:=omega)only[↓Sd,↓So,↓Sk,↓den,↓denA,Sa,Sb,Sc,Se,O1.d,O2.d,O3.d,cmI,arI,envOf,putN,↓reduceIte,Nat.reduceLT,Nat.reduceSub,Nat.reduceAdd,Int.reduceAdd,Int.reduceEq,Int.reduceLT,Int.reduceLE,arr_pos,arr_neg,tr_spec_l2Value]
 refine D_pick1 _ _ _ hb (by omega) (by omega) fun k k0 k1=>?_;simp+contextual(maxSteps:=1000000)(disch:=omega)only[↓Sd,↓So,↓Sk,↓den,↓denA,Sa,Sb,Sc,Se,O1.d,O2.d,O3.d,cmI,arI,envOf,putN,↓reduceIte,Nat.reduceLT,Nat.reduceSub,Nat.reduceAdd,Int.reduceAdd,Int.reduceEq,Int.reduceLT,Int.reduceLE,arr_pos,arr_neg,]
 refine ⟨fun _=>?_,fun _=>⟨fun _=>?_,fun _=>⟨fun _=>?_,fun _=>?_⟩⟩⟩
 ·simp+contextual(maxSteps:=1000000)(disch:=omega)only[↓Sd,↓So,↓Sk,↓den,↓denA,Sa,Sb,Sc,Se,O1.d,O2.d,O3.d,cmI,arI,envOf,putN,↓reduceIte,Nat.reduceLT,Nat.reduceSub,Nat.reduceAdd,Int.reduceAdd,Int.reduceEq,Int.reduceLT,Int.reduceLE,arr_pos,arr_neg,C_spec_l2VarOf,C_spec_l2Const]
  refine D_num _ _ _ hb (by omega) (by simp) (by simp) fun o o0=>?_;simp+contextual(maxSteps:=1000000)(disch:=omega)only[↓Sd,↓So,↓Sk,↓den,↓denA,Sa,Sb,Sc,Se,O1.d,O2.d,O3.d,cmI,arI,envOf,putN,↓reduceIte,Nat.reduceLT,Nat.reduceSub,Nat.reduceAdd,Int.reduceAdd,Int.reduceEq,Int.reduceLT,Int.reduceLE,arr_pos,arr_neg,]
  exact h _ _ (by omega) (by simp)
 ·refine D_pick _ _ _ hb (by omega) fun n _ _=>?_
  simp+contextual(maxSteps:=1000000)(disch:=omega)only[↓Sd,↓So,↓Sk,↓den,↓denA,Sa,Sb,Sc,Se,O1.d,O2.d,O3.d,cmI,arI,envOf,putN,↓reduceIte,Nat.reduceLT,Nat.reduceSub,Nat.reduceAdd,Int.reduceAdd,Int.reduceEq,Int.reduceLT,Int.reduceLE,arr_pos,arr_neg,↓wpJoin,C_spec_l2Const]
  exact h _ _ (by omega) (by simp)
 ·refine D_pick1 _ _ _ hb (by omega) (by omega) fun n n0 n1=>?_;simp+contextual(maxSteps:=1000000)(disch:=omega)only[↓Sd,↓So,↓Sk,↓den,↓denA,Sa,Sb,Sc,Se,O1.d,O2.d,O3.d,cmI,arI,envOf,putN,↓reduceIte,Nat.reduceLT,Nat.reduceSub,Nat.reduceAdd,Int.reduceAdd,Int.reduceEq,Int.reduceLT,Int.reduceLE,arr_pos,arr_neg,]
  simp+contextual(maxSteps:=1000000)(disch:=omega)only[↓Sd,↓So,↓Sk,↓den,↓denA,Sa,Sb,Sc,Se,O1.d,O2.d,O3.d,cmI,arI,envOf,putN,↓reduceIte,Nat.reduceLT,Nat.reduceSub,Nat.reduceAdd,Int.reduceAdd,Int.reduceEq,Int.reduceLT,Int.reduceLE,arr_pos,arr_neg,C_spec_l2VarOf]
  exact h _ _ (by omega) (by simp)
 ·refine D_l1Terms _ _ _ _ _ hb (by omega) (by omega) (by omega) fun l p2 h1 h2 h3=>?_
  simp+contextual(maxSteps:=1000000)(disch:=omega)only[↓Sd,↓So,↓Sk,↓den,↓denA,Sa,Sb,Sc,Se,O1.d,O2.d,O3.d,cmI,arI,envOf,putN,↓reduceIte,Nat.reduceLT,Nat.reduceSub,Nat.reduceAdd,Int.reduceAdd,Int.reduceEq,Int.reduceLT,Int.reduceLE,arr_pos,arr_neg,]
  exact h _ _ (by omega) (by omega)
def SmRu (r:Ru):Prop:=r.1.length≤100∧r.2.1.length≤100∧r.2.2.length≤100∧∀x∈r.2.2,x.length≤100
def SmR5 (r:Ru):Prop:=r.1.length≤50∧r.2.1.length≤50∧r.2.2.length≤50∧∀x∈r.2.2,x.length≤50
theorem SmR5.sm {r:Ru} (h:SmR5 r):SmRu r:=⟨by have:=h.1;omega,by have:=h.2.1;omega,by have:=h.2.2.1;omega,fun x hx=>by have:=h.2.2.2 x hx;omega⟩
def SmSy (s:Sy):Prop:=s.1.length≤3∧s.2.length≤9∧∀r∈s.2,SmRu r
theorem SmSy.few {s:Sy} (h:SmSy s):FewSy s:=by
 refine ⟨by have:=h.1;unfold Few;omega,by have:=h.2.1;unfold Few;omega,fun r hr=>?_⟩
 have h1:=h.2.2 r hr
 exact ⟨by have:=h1.1;unfold Few;omega,by have:=h1.2.1;unfold Few;omega,by have:=h1.2.2.1;unfold Few;omega,fun x hx=>by have:=h1.2.2.2 x hx;unfold Few;omega⟩
theorem D_l2Rules (b:List Int) (p:Int) (vs:List Vr) (many:Nat) (hb:Rdy b) (hp:0≤p∧p≤600000000) (hv1:1≤vs.length) (hv:vs.length≤3) (hm:many≤9) {Q:List AV→Prop} (h:∀(l:List Ru) (p':Int),p≤p'∧p'≤p+20000→l.length≤many→(∀r∈l,SmR5 r)→Q [⟨L TR,l⟩,⟨RD,(b,p')⟩]):mc.C f_spec_l2Rules [⟨RD,(b,p)⟩,⟨L V3,vs⟩,⟨I,(many:Int)⟩] Q:=by
 refine mc.c_of F_spec_l2Rules ?_
 simp+contextual(maxSteps:=1000000)(disch:=omega)only[↓Sd,↓So,↓Sk,↓den,↓denA,Sa,Sb,Sc,Se,O1.d,O2.d,O3.d,cmI,arI,envOf,putN,↓reduceIte,Nat.reduceLT,Nat.reduceSub,Nat.reduceAdd,Int.reduceAdd,Int.reduceEq,Int.reduceLT,Int.reduceLE,arr_pos,arr_neg,tr_spec_l2Rules]
 refine mc.lp_for (Int×List Ru) (fun i s=>[⟨L V3,vs⟩,⟨I,(many:Int)⟩,⟨I,(i:Int)⟩,⟨L U,b⟩,⟨I,s.1⟩,⟨L TR,s.2⟩]) (fun i s=>p≤s.1∧s.1≤p+2000 * i∧s.2.length=i∧∀r∈s.2,SmR5 r) many 0 (p,[]) _ rfl (Nat.zero_le _) ⟨by simp,by simp,rfl,by simp⟩ ?_ ?_
 ·rintro i ⟨p1,l⟩ hi ⟨a1,a2,a3,a4⟩
  simp only at a1 a2 a3 a4
  simp+contextual(maxSteps:=1000000)(disch:=omega)only[↓Sd,↓So,↓Sk,↓den,↓denA,Sa,Sb,Sc,Se,O1.d,O2.d,O3.d,cmI,arI,envOf,putN,↓reduceIte,Nat.reduceLT,Nat.reduceSub,Nat.reduceAdd,Int.reduceAdd,Int.reduceEq,Int.reduceLT,Int.reduceLE,arr_pos,arr_neg,]
  refine D_l2When _ _ _ hb (by omega) hv1 (by omega) fun w p2 hp2 hw=>?_
  simp+contextual(maxSteps:=1000000)(disch:=omega)only[↓Sd,↓So,↓Sk,↓den,↓denA,Sa,Sb,Sc,Se,O1.d,O2.d,O3.d,cmI,arI,envOf,putN,↓reduceIte,Nat.reduceLT,Nat.reduceSub,Nat.reduceAdd,Int.reduceAdd,Int.reduceEq,Int.reduceLT,Int.reduceLE,arr_pos,arr_neg,]
  refine mc.lp_for (Int×List Int×List (List Tm)) (fun j s=>[⟨L V3,vs⟩,⟨I,(many:Int)⟩,⟨I,(i:Int)⟩,⟨I,(j:Int)⟩,⟨L U,b⟩,⟨I,s.1⟩,⟨L TR,l⟩,⟨L T4,w⟩,⟨L I,s.2.1⟩,⟨L (L T4),s.2.2⟩]) (fun j s=>p2≤s.1∧s.1≤p2+510 * j∧s.2.1.length≤j∧s.2.2.length≤j∧∀x∈s.2.2,x.length≤16) vs.length 0 (p2,[],[]) _ rfl (Nat.zero_le _) ⟨by simp,by simp,by simp,by simp,by simp⟩ ?_ ?_
  ·rintro j ⟨p3,ss,ts⟩ hj ⟨c1,c2,c3,c4,c5⟩
   simp only at c1 c2 c3 c4 c5
   have app:∀(x:List Tm),x.length≤16→∀y∈ts++[x],y.length≤16:=fun x hx y hy=>(List.mem_append.1 hy).elim (c5 y) fun hy=>by rw [List.mem_singleton.1 hy];exact hx
   have l1:∀x,(ss++[x]).length=ss.length+1:=fun x=>by simp
   have l2:∀x,(ts++[x]).length=ts.length+1:=fun x=>by simp
   simp+contextual(maxSteps:=1000000)(disch:=omega)only[↓Sd,↓So,↓Sk,↓den,↓denA,Sa,Sb,Sc,Se,O1.d,O2.d,O3.d,cmI,arI,envOf,putN,↓reduceIte,Nat.reduceLT,Nat.reduceSub,Nat.reduceAdd,Int.reduceAdd,Int.reduceEq,Int.reduceLT,Int.reduceLE,arr_pos,arr_neg,↓wpJoin,]
   refine D_pick1 _ _ _ hb (by omega) (by omega) fun a a0 a1=>?_;simp+contextual(maxSteps:=1000000)(disch:=omega)only[↓Sd,↓So,↓Sk,↓den,↓denA,Sa,Sb,Sc,Se,O1.d,O2.d,O3.d,cmI,arI,envOf,putN,↓reduceIte,Nat.reduceLT,Nat.reduceSub,Nat.reduceAdd,Int.reduceAdd,Int.reduceEq,Int.reduceLT,Int.reduceLE,arr_pos,arr_neg,]
   refine ⟨fun _=>?_,fun _=>⟨fun _=>⟨fun _=>?_,fun _=>?_⟩,fun _=>?_⟩⟩
   ·refine D_l2Value _ _ _ _ j (by omega) hb (by omega) (by omega) hj fun x p4 hp4 hx=>?_
    simp+contextual(maxSteps:=1000000)(disch:=omega)only[↓Sd,↓So,↓Sk,↓den,↓denA,Sa,Sb,Sc,Se,O1.d,O2.d,O3.d,cmI,arI,envOf,putN,↓reduceIte,Nat.reduceLT,Nat.reduceSub,Nat.reduceAdd,Int.reduceAdd,Int.reduceEq,Int.reduceLT,Int.reduceLE,arr_pos,arr_neg,↓wpJoin,]
    exact ⟨(_,_,_),⟨rfl,rfl,rfl⟩,by dsimp only;omega,by dsimp only;omega,by dsimp only;rw [l1];omega,by dsimp only;rw [l2];omega,app x hx⟩
   ·refine D_pick1 _ _ _ hb (by omega) (by omega) fun c c0 c1=>?_;simp+contextual(maxSteps:=1000000)(disch:=omega)only[↓Sd,↓So,↓Sk,↓den,↓denA,Sa,Sb,Sc,Se,O1.d,O2.d,O3.d,cmI,arI,envOf,putN,↓reduceIte,Nat.reduceLT,Nat.reduceSub,Nat.reduceAdd,Int.reduceAdd,Int.reduceEq,Int.reduceLT,Int.reduceLE,arr_pos,arr_neg,]
    refine ⟨fun _=>?_,fun _=>?_⟩
    ·refine D_l2Value _ _ _ _ j (by omega) hb (by omega) (by omega) hj fun x p4 hp4 hx=>?_
     simp+contextual(maxSteps:=1000000)(disch:=omega)only[↓Sd,↓So,↓Sk,↓den,↓denA,Sa,Sb,Sc,Se,O1.d,O2.d,O3.d,cmI,arI,envOf,putN,↓reduceIte,Nat.reduceLT,Nat.reduceSub,Nat.reduceAdd,Int.reduceAdd,Int.reduceEq,Int.reduceLT,Int.reduceLE,arr_pos,arr_neg,↓wpJoin,]
     exact ⟨(_,_,_),⟨rfl,rfl,rfl⟩,by dsimp only;omega,by dsimp only;omega,by dsimp only;rw [l1];omega,by dsimp only;rw [l2];omega,app x hx⟩
    ·exact ⟨(_,_,_),⟨rfl,rfl,rfl⟩,by dsimp only;omega,by dsimp only;omega,by dsimp only;omega,by dsimp only;omega,c5⟩
   ·exact ⟨(_,_,_),⟨rfl,rfl,rfl⟩,by dsimp only;omega,by dsimp only;omega,by dsimp only;omega,by dsimp only;omega,c5⟩
   ·exact ⟨(_,_,_),⟨rfl,rfl,rfl⟩,by dsimp only;omega,by dsimp only;omega,by dsimp only;omega,by dsimp only;omega,c5⟩
  ·rintro ⟨p3,ss,ts⟩ ⟨c1,c2,c3,c4,c5⟩
   simp only at c1 c2 c3 c4 c5
   simp+contextual(maxSteps:=1000000)(disch:=omega)only[↓Sd,↓So,↓Sk,↓den,↓denA,Sa,Sb,Sc,Se,O1.d,O2.d,O3.d,cmI,arI,envOf,putN,↓reduceIte,Nat.reduceLT,Nat.reduceSub,Nat.reduceAdd,Int.reduceAdd,Int.reduceEq,Int.reduceLT,Int.reduceLE,arr_pos,arr_neg,]
   refine ⟨(_,_),⟨rfl,rfl⟩,by dsimp only;omega,by dsimp only;omega,by dsimp only;simp [a3],fun r hr=>?_⟩
   rcases List.mem_append.1 hr with hr | hr
   ·exact a4 r hr
   ·rw [List.mem_singleton.1 hr]
    exact ⟨by dsimp only;omega,by dsimp only;omega,by dsimp only;omega,fun x hx=>by have:=c5 x hx;omega⟩
 ·rintro ⟨p1,l⟩ ⟨a1,a2,a3,a4⟩
  simp only at a1 a2 a3 a4
  simp+contextual(maxSteps:=1000000)(disch:=omega)only[↓Sd,↓So,↓Sk,↓den,↓denA,Sa,Sb,Sc,Se,O1.d,O2.d,O3.d,cmI,arI,envOf,putN,↓reduceIte,Nat.reduceLT,Nat.reduceSub,Nat.reduceAdd,Int.reduceAdd,Int.reduceEq,Int.reduceLT,Int.reduceLE,arr_pos,arr_neg,]
  exact h _ _ (by omega) (by omega) a4
theorem D_l2System (b:List Int) (p most:Int) (hb:Rdy b) (hp:0≤p∧p≤500000000) {Q:List AV→Prop} (h:∀(s:Sy) (p':Int),p≤p'∧p'≤p+30000→SmSy s→1≤s.1.length→s.2.length≤4→(∀r∈s.2,SmR5 r)→Q [⟨L V3,s.1⟩,⟨L TR,s.2⟩,⟨RD,(b,p')⟩]):mc.C f_spec_l2System [⟨RD,(b,p)⟩,⟨I,most⟩] Q:=by
 refine mc.c_of F_spec_l2System ?_
 simp+contextual(maxSteps:=1000000)(disch:=omega)only[↓Sd,↓So,↓Sk,↓den,↓denA,Sa,Sb,Sc,Se,O1.d,O2.d,O3.d,cmI,arI,envOf,putN,↓reduceIte,Nat.reduceLT,Nat.reduceSub,Nat.reduceAdd,Int.reduceAdd,Int.reduceEq,Int.reduceLT,Int.reduceLE,arr_pos,arr_neg,tr_spec_l2System]
 refine D_pick1 _ _ _ hb (by omega) (by omega) fun n n0 n1=>?_;simp+contextual(maxSteps:=1000000)(disch:=omega)only[↓Sd,↓So,↓Sk,↓den,↓denA,Sa,Sb,Sc,Se,O1.d,O2.d,O3.d,cmI,arI,envOf,putN,↓reduceIte,Nat.reduceLT,Nat.reduceSub,Nat.reduceAdd,Int.reduceAdd,Int.reduceEq,Int.reduceLT,Int.reduceLE,arr_pos,arr_neg,]
 obtain ⟨N,hN⟩:∃N:Nat,n=N:=⟨n.toNat,by omega⟩
 subst hN
 refine mc.lp_inv (fun k us=>∃(p1 m:Int) (l:List Vr),us=[⟨I,most⟩,⟨I,m⟩,⟨I,(k:Int)⟩,⟨L U,b⟩,⟨I,p1⟩,⟨L V3,l⟩]∧l.length+k≤1+N∧p≤p1∧p1+3 * k≤p+1+3 * (1+N)) (1+N) _ ⟨p+1,1,[],by simp,by simp,by omega,by omega⟩ ?_
 rintro k us ⟨p1,m,l,rfl,i1,i2,i3⟩
 cases k with
 | zero =>
  simp+contextual(maxSteps:=1000000)(disch:=omega)only[↓Sd,↓So,↓Sk,↓den,↓denA,Sa,Sb,Sc,Se,O1.d,O2.d,O3.d,cmI,arI,envOf,putN,↓reduceIte,Nat.reduceLT,Nat.reduceSub,Nat.reduceAdd,Int.reduceAdd,Int.reduceEq,Int.reduceLT,Int.reduceLE,arr_pos,arr_neg,]
  refine mc.wp_join (fun us=>∃(l:List Vr),us=[⟨L U,b⟩,⟨I,p1⟩,⟨L V3,l⟩]∧1≤l.length∧l.length≤3) ?_ ?_
  ·simp+contextual(maxSteps:=1000000)(disch:=omega)only[↓Sd,↓So,↓Sk,↓den,↓denA,Sa,Sb,Sc,Se,O1.d,O2.d,O3.d,cmI,arI,envOf,putN,↓reduceIte,Nat.reduceLT,Nat.reduceSub,Nat.reduceAdd,Int.reduceAdd,Int.reduceEq,Int.reduceLT,Int.reduceLE,arr_pos,arr_neg,]
   exact ⟨fun _=>by omega,fun _=>by omega⟩
  ·rintro us ⟨l,rfl,a1,a2⟩
   simp+contextual(maxSteps:=1000000)(disch:=omega)only[↓Sd,↓So,↓Sk,↓den,↓denA,Sa,Sb,Sc,Se,O1.d,O2.d,O3.d,cmI,arI,envOf,putN,↓reduceIte,Nat.reduceLT,Nat.reduceSub,Nat.reduceAdd,Int.reduceAdd,Int.reduceEq,Int.reduceLT,Int.reduceLE,arr_pos,arr_neg,]
   refine D_num _ _ _ hb (by omega) (by simp) (by simp) fun x x0=>?_;simp+contextual(maxSteps:=1000000)(disch:=omega)only[↓Sd,↓So,↓Sk,↓den,↓denA,Sa,Sb,Sc,Se,O1.d,O2.d,O3.d,cmI,arI,envOf,putN,↓reduceIte,Nat.reduceLT,Nat.reduceSub,Nat.reduceAdd,Int.reduceAdd,Int.reduceEq,Int.reduceLT,Int.reduceLE,arr_pos,arr_neg,]
   have hx:0≤x∧x≤4:=by simp only [List.mem_append,List.mem_singleton] at x0;omega
   obtain ⟨y,hy⟩:∃y:Nat,x=y:=⟨x.toNat,by omega⟩
   subst hy
   refine D_l2Rules _ _ _ _ hb (by omega) a1 a2 (by omega) fun rs p2 hp2 h1 h2=>?_
   simp+contextual(maxSteps:=1000000)(disch:=omega)only[↓Sd,↓So,↓Sk,↓den,↓denA,Sa,Sb,Sc,Se,O1.d,O2.d,O3.d,cmI,arI,envOf,putN,↓reduceIte,Nat.reduceLT,Nat.reduceSub,Nat.reduceAdd,Int.reduceAdd,Int.reduceEq,Int.reduceLT,Int.reduceLE,arr_pos,arr_neg,↓wpJoin,]
   exact h (l,rs) _ (by omega) ⟨a2,by dsimp only;omega,fun r hr=>(h2 r hr).sm⟩ a1 (by dsimp only;omega) h2
 | succ k =>
  simp+contextual(maxSteps:=1000000)(disch:=omega)only[↓Sd,↓So,↓Sk,↓den,↓denA,Sa,Sb,Sc,Se,O1.d,O2.d,O3.d,cmI,arI,envOf,putN,↓reduceIte,Nat.reduceLT,Nat.reduceSub,Nat.reduceAdd,Int.reduceAdd,Int.reduceEq,Int.reduceLT,Int.reduceLE,arr_pos,arr_neg,]
  refine mc.wp_join (fun us=>∃(p2 m:Int) (l:List Vr),us=[⟨I,most⟩,⟨I,m⟩,⟨I,(k:Int)+1⟩,⟨L U,b⟩,⟨I,p2⟩,⟨L V3,l⟩]∧l.length+k≤1+N∧p≤p2∧p2+3 * k≤p+1+3 * (1+N)) ?_ ?_
  ·simp+contextual(maxSteps:=1000000)(disch:=omega)only[↓Sd,↓So,↓Sk,↓den,↓denA,Sa,Sb,Sc,Se,O1.d,O2.d,O3.d,cmI,arI,envOf,putN,↓reduceIte,Nat.reduceLT,Nat.reduceSub,Nat.reduceAdd,Int.reduceAdd,Int.reduceEq,Int.reduceLT,Int.reduceLE,arr_pos,arr_neg,]
   refine D_num _ _ _ hb (by omega) (by simp) (by simp) fun x x0=>?_;simp+contextual(maxSteps:=1000000)(disch:=omega)only[↓Sd,↓So,↓Sk,↓den,↓denA,Sa,Sb,Sc,Se,O1.d,O2.d,O3.d,cmI,arI,envOf,putN,↓reduceIte,Nat.reduceLT,Nat.reduceSub,Nat.reduceAdd,Int.reduceAdd,Int.reduceEq,Int.reduceLT,Int.reduceLE,arr_pos,arr_neg,]
   have hx:2≤x∧x≤5:=by simp only [List.mem_append,List.mem_singleton] at x0;omega
   refine ⟨fun _=>?_,fun _=>⟨_,_,_,⟨rfl,rfl,rfl⟩,by omega,by omega,by omega⟩⟩
   refine D_num _ _ _ hb (by omega) (by simp) (by simp) fun lo lo0=>?_;simp+contextual(maxSteps:=1000000)(disch:=omega)only[↓Sd,↓So,↓Sk,↓den,↓denA,Sa,Sb,Sc,Se,O1.d,O2.d,O3.d,cmI,arI,envOf,putN,↓reduceIte,Nat.reduceLT,Nat.reduceSub,Nat.reduceAdd,Int.reduceAdd,Int.reduceEq,Int.reduceLT,Int.reduceLE,arr_pos,arr_neg,]
   refine D_pick1 _ _ _ hb (by omega) (by omega) fun d d0 d1=>?_;simp+contextual(maxSteps:=1000000)(disch:=omega)only[↓Sd,↓So,↓Sk,↓den,↓denA,Sa,Sb,Sc,Se,O1.d,O2.d,O3.d,cmI,arI,envOf,putN,↓reduceIte,Nat.reduceLT,Nat.reduceSub,Nat.reduceAdd,Int.reduceAdd,Int.reduceEq,Int.reduceLT,Int.reduceLE,arr_pos,arr_neg,]
   simp+contextual(maxSteps:=1000000)(disch:=omega)only[↓Sd,↓So,↓Sk,↓den,↓denA,Sa,Sb,Sc,Se,O1.d,O2.d,O3.d,cmI,arI,envOf,putN,↓reduceIte,Nat.reduceLT,Nat.reduceSub,Nat.reduceAdd,Int.reduceAdd,Int.reduceEq,Int.reduceLT,Int.reduceLE,arr_pos,arr_neg,↓wpJoin,]
   exact ⟨_,_,_,⟨rfl,rfl,rfl⟩,by simp only [List.length_append,List.length_singleton];omega,by omega,by omega⟩
  ·rintro us ⟨p2,m,l,rfl,a1,a2,a3⟩
   simp+contextual(maxSteps:=1000000)(disch:=omega)only[↓Sd,↓So,↓Sk,↓den,↓denA,Sa,Sb,Sc,Se,O1.d,O2.d,O3.d,cmI,arI,envOf,putN,↓reduceIte,Nat.reduceLT,Nat.reduceSub,Nat.reduceAdd,Int.reduceAdd,Int.reduceEq,Int.reduceLT,Int.reduceLE,arr_pos,arr_neg,]
   exact ⟨k,by omega,p2,m,l,⟨rfl,rfl,rfl,rfl⟩,a1,a2,a3⟩
theorem D_l2Any (b:List Int) (p most:Int) (hb:Rdy b) (hp:0≤p∧p≤400000000) {Q:List AV→Prop} (h:∀(s:Sy) (p':Int),p≤p'∧p'≤p+31000→SmSy s→Q [⟨L V3,s.1⟩,⟨L TR,s.2⟩,⟨RD,(b,p')⟩]):mc.C f_spec_l2Any [⟨RD,(b,p)⟩,⟨I,most⟩] Q:=by
 refine mc.c_of F_spec_l2Any ?_
 simp+contextual(maxSteps:=1000000)(disch:=omega)only[↓Sd,↓So,↓Sk,↓den,↓denA,Sa,Sb,Sc,Se,O1.d,O2.d,O3.d,cmI,arI,envOf,putN,↓reduceIte,Nat.reduceLT,Nat.reduceSub,Nat.reduceAdd,Int.reduceAdd,Int.reduceEq,Int.reduceLT,Int.reduceLE,arr_pos,arr_neg,tr_spec_l2Any]
 refine D_l2System _ _ _ hb (by omega) fun s p1 hp1 hs h1 h2 h5=>?_
 simp+contextual(maxSteps:=1000000)(disch:=omega)only[↓Sd,↓So,↓Sk,↓den,↓denA,Sa,Sb,Sc,Se,O1.d,O2.d,O3.d,cmI,arI,envOf,putN,↓reduceIte,Nat.reduceLT,Nat.reduceSub,Nat.reduceAdd,Int.reduceAdd,Int.reduceEq,Int.reduceLT,Int.reduceLE,arr_pos,arr_neg,↓wpJoin,C_spec_l2Const]
 refine D_pick1 _ _ _ hb (by omega) (by omega) fun a a0 a1=>?_;simp+contextual(maxSteps:=1000000)(disch:=omega)only[↓Sd,↓So,↓Sk,↓den,↓denA,Sa,Sb,Sc,Se,O1.d,O2.d,O3.d,cmI,arI,envOf,putN,↓reduceIte,Nat.reduceLT,Nat.reduceSub,Nat.reduceAdd,Int.reduceAdd,Int.reduceEq,Int.reduceLT,Int.reduceLE,arr_pos,arr_neg,]
 refine ⟨fun _=>?_,fun _=>h _ _ (by omega) hs⟩
 have hV:∀(l:List Vr) (p':Int),l.length≤3→p≤p'∧p'≤p+31000→Q [⟨L V3,l⟩,⟨L TR,s.2⟩,⟨RD,(b,p')⟩]:=fun l p' hl hp'=>h (l,s.2) p' hp' ⟨hl,hs.2.1,hs.2.2⟩
 have hR:∀(r:Ru) (p':Int),SmRu r→p≤p'∧p'≤p+31000→Q [⟨L V3,s.1⟩,⟨L TR,s.2.set 0 r⟩,⟨RD,(b,p')⟩]:=fun r p' hr hp'=>h (s.1,s.2.set 0 r) p' hp' ⟨hs.1,by rw [List.length_set];exact hs.2.1,fun x hx=>(List.mem_or_eq_of_mem_set hx).elim (hs.2.2 x) fun e=>by rw [e];exact hr⟩
 have hS1:(s.1.set 0 (s.1.getD 0 (0,0,0))).length≤3:=by rw [List.length_set];exact hs.1
 have hsl:∀x:Vr,(s.1.set 0 x).length≤3:=fun x=>by rw [List.length_set];exact hs.1
 have hb0:SmR5 (s.2.getD 0 ([],[],[])):=by
  by_cases g:0<s.2.length
  ·exact h5 _ (getD_mem g)
  ·rw [List.getD_eq_getElem?_getD,List.getElem?_eq_none (by omega)];exact ⟨by simp,by simp,by simp,by simp⟩
 refine D_pick1 _ _ _ hb (by omega) (by omega) fun c c0 c1=>?_;simp+contextual(maxSteps:=1000000)(disch:=omega)only[↓Sd,↓So,↓Sk,↓den,↓denA,Sa,Sb,Sc,Se,O1.d,O2.d,O3.d,cmI,arI,envOf,putN,↓reduceIte,Nat.reduceLT,Nat.reduceSub,Nat.reduceAdd,Int.reduceAdd,Int.reduceEq,Int.reduceLT,Int.reduceLE,arr_pos,arr_neg,]
 have q1:=hb0.2.1
 have q2:=hb0.2.2.1
 simp+contextual(maxSteps:=1000000)(disch:=omega)only[↓Sd,↓So,↓Sk,↓den,↓denA,Sa,Sb,Sc,Se,O1.d,O2.d,O3.d,cmI,arI,envOf,putN,↓reduceIte,Nat.reduceLT,Nat.reduceSub,Nat.reduceAdd,Int.reduceAdd,Int.reduceEq,Int.reduceLT,Int.reduceLE,arr_pos,arr_neg,↓wpJoin,C_spec_l2Const]
 repeat' first | apply And.intro | intro _
 all_goals first
  | exact hV _ _ (hsl _) (by omega)
  | exact hV _ _ (by simp) (by omega)
  | exact hV _ _ hs.1 (by omega)
  | exact hR _ _ ⟨by simp,hb0.sm.2.1,hb0.sm.2.2.1,hb0.sm.2.2.2⟩ (by omega)
  | exact hR _ _ ⟨hb0.sm.1,by simp only [List.length_append,List.length_singleton];omega,hb0.sm.2.2.1,hb0.sm.2.2.2⟩ (by omega)
  | exact hR _ _ ⟨hb0.sm.1,hb0.sm.2.1,by simp only [List.length_append,List.length_singleton];omega,fun x hx=>(List.mem_append.1 hx).elim (hb0.sm.2.2.2 x) fun hx=>by rw [List.mem_singleton.1 hx];simp⟩ (by omega)
  | skip
 refine D_num _ _ _ hb (by omega) (by simp) (by simp) fun x x0=>?_;simp+contextual(maxSteps:=1000000)(disch:=omega)only[↓Sd,↓So,↓Sk,↓den,↓denA,Sa,Sb,Sc,Se,O1.d,O2.d,O3.d,cmI,arI,envOf,putN,↓reduceIte,Nat.reduceLT,Nat.reduceSub,Nat.reduceAdd,Int.reduceAdd,Int.reduceEq,Int.reduceLT,Int.reduceLE,arr_pos,arr_neg,]
 simp+contextual(maxSteps:=1000000)(disch:=omega)only[↓Sd,↓So,↓Sk,↓den,↓denA,Sa,Sb,Sc,Se,O1.d,O2.d,O3.d,cmI,arI,envOf,putN,↓reduceIte,Nat.reduceLT,Nat.reduceSub,Nat.reduceAdd,Int.reduceAdd,Int.reduceEq,Int.reduceLT,Int.reduceLE,arr_pos,arr_neg,↓wpJoin,]
 exact hV _ _ (hsl _) (by omega)
theorem D_l1Any (b:List Int) (p vars:Int) (hb:Rdy b) (hp:0≤p∧p≤700000000) (hv:0≤vars∧vars≤5) {Q:List AV→Prop} (h:∀(l:List Tm) (p':Int),p≤p'∧p'≤p+500→1≤l.length→l.length≤16→Q [⟨L T4,l⟩,⟨RD,(b,p')⟩]):mc.C f_spec_l1Any [⟨RD,(b,p)⟩,⟨I,vars⟩] Q:=by
 refine mc.c_of F_spec_l1Any ?_
 simp+contextual(maxSteps:=1000000)(disch:=omega)only[↓Sd,↓So,↓Sk,↓den,↓denA,Sa,Sb,Sc,Se,O1.d,O2.d,O3.d,cmI,arI,envOf,putN,↓reduceIte,Nat.reduceLT,Nat.reduceSub,Nat.reduceAdd,Int.reduceAdd,Int.reduceEq,Int.reduceLT,Int.reduceLE,arr_pos,arr_neg,tr_spec_l1Any]
 refine D_pick1 _ _ _ hb (by omega) (by omega) fun k k0 k1=>?_;simp+contextual(maxSteps:=1000000)(disch:=omega)only[↓Sd,↓So,↓Sk,↓den,↓denA,Sa,Sb,Sc,Se,O1.d,O2.d,O3.d,cmI,arI,envOf,putN,↓reduceIte,Nat.reduceLT,Nat.reduceSub,Nat.reduceAdd,Int.reduceAdd,Int.reduceEq,Int.reduceLT,Int.reduceLE,arr_pos,arr_neg,]
 refine D_l1Terms _ _ _ _ _ hb (by omega) hv (by omega) fun l p2 h1 h2 h3=>?_
 simp+contextual(maxSteps:=1000000)(disch:=omega)only[↓Sd,↓So,↓Sk,↓den,↓denA,Sa,Sb,Sc,Se,O1.d,O2.d,O3.d,cmI,arI,envOf,putN,↓reduceIte,Nat.reduceLT,Nat.reduceSub,Nat.reduceAdd,Int.reduceAdd,Int.reduceEq,Int.reduceLT,Int.reduceLE,arr_pos,arr_neg,↓wpJoin,]
 refine D_pick1 _ _ _ hb (by omega) (by omega) fun a a0 a1=>?_;simp+contextual(maxSteps:=1000000)(disch:=omega)only[↓Sd,↓So,↓Sk,↓den,↓denA,Sa,Sb,Sc,Se,O1.d,O2.d,O3.d,cmI,arI,envOf,putN,↓reduceIte,Nat.reduceLT,Nat.reduceSub,Nat.reduceAdd,Int.reduceAdd,Int.reduceEq,Int.reduceLT,Int.reduceLE,arr_pos,arr_neg,]
 refine ⟨fun _=>?_,fun _=>h _ _ (by omega) h2 h3⟩
 refine D_pick1 _ _ _ hb (by omega) (by omega) fun i i0 i1=>?_;simp+contextual(maxSteps:=1000000)(disch:=omega)only[↓Sd,↓So,↓Sk,↓den,↓denA,Sa,Sb,Sc,Se,O1.d,O2.d,O3.d,cmI,arI,envOf,putN,↓reduceIte,Nat.reduceLT,Nat.reduceSub,Nat.reduceAdd,Int.reduceAdd,Int.reduceEq,Int.reduceLT,Int.reduceLE,arr_pos,arr_neg,]
 refine D_pick1 _ _ _ hb (by omega) (by omega) fun f f0 f1=>?_;simp+contextual(maxSteps:=1000000)(disch:=omega)only[↓Sd,↓So,↓Sk,↓den,↓denA,Sa,Sb,Sc,Se,O1.d,O2.d,O3.d,cmI,arI,envOf,putN,↓reduceIte,Nat.reduceLT,Nat.reduceSub,Nat.reduceAdd,Int.reduceAdd,Int.reduceEq,Int.reduceLT,Int.reduceLE,arr_pos,arr_neg,↓wpJoin,]
 have hset:∀(x:Tm),1≤(l.set i.toNat x).length∧(l.set i.toNat x).length≤16:=fun x=>by rw [List.length_set];exact ⟨h2,h3⟩
 refine ⟨fun _=>?_,fun _=>⟨fun _=>?_,fun _=>⟨fun _=>?_,fun _=>?_⟩⟩⟩
 ·refine D_num _ _ _ hb (by omega) (by simp) (by simp) fun x x0=>?_;simp+contextual(maxSteps:=1000000)(disch:=omega)only[↓Sd,↓So,↓Sk,↓den,↓denA,Sa,Sb,Sc,Se,O1.d,O2.d,O3.d,cmI,arI,envOf,putN,↓reduceIte,Nat.reduceLT,Nat.reduceSub,Nat.reduceAdd,Int.reduceAdd,Int.reduceEq,Int.reduceLT,Int.reduceLE,arr_pos,arr_neg,]
  exact h _ _ (by omega) (hset _).1 (hset _).2
 ·refine D_num _ _ _ hb (by omega) (by simp) (by simp) fun x x0=>?_;simp+contextual(maxSteps:=1000000)(disch:=omega)only[↓Sd,↓So,↓Sk,↓den,↓denA,Sa,Sb,Sc,Se,O1.d,O2.d,O3.d,cmI,arI,envOf,putN,↓reduceIte,Nat.reduceLT,Nat.reduceSub,Nat.reduceAdd,Int.reduceAdd,Int.reduceEq,Int.reduceLT,Int.reduceLE,arr_pos,arr_neg,]
  exact h _ _ (by omega) (hset _).1 (hset _).2
 ·refine D_num _ _ _ hb (by omega) (by simp) (by simp) fun x x0=>?_;simp+contextual(maxSteps:=1000000)(disch:=omega)only[↓Sd,↓So,↓Sk,↓den,↓denA,Sa,Sb,Sc,Se,O1.d,O2.d,O3.d,cmI,arI,envOf,putN,↓reduceIte,Nat.reduceLT,Nat.reduceSub,Nat.reduceAdd,Int.reduceAdd,Int.reduceEq,Int.reduceLT,Int.reduceLE,arr_pos,arr_neg,]
  exact h _ _ (by omega) (hset _).1 (hset _).2
 ·refine D_num _ _ _ hb (by omega) (by simp) (by simp) fun x x0=>?_;simp+contextual(maxSteps:=1000000)(disch:=omega)only[↓Sd,↓So,↓Sk,↓den,↓denA,Sa,Sb,Sc,Se,O1.d,O2.d,O3.d,cmI,arI,envOf,putN,↓reduceIte,Nat.reduceLT,Nat.reduceSub,Nat.reduceAdd,Int.reduceAdd,Int.reduceEq,Int.reduceLT,Int.reduceLE,arr_pos,arr_neg,]
  exact h _ _ (by omega) (hset _).1 (hset _).2
theorem beq_dB {a b:Int}:(a==b)=dB (a=b):=by
 by_cases h:a=b
 ·rw [dB_t h];simpa using h
 ·rw [dB_f h];simpa using h
def hw1 (s:Sy) (l:List Tm) (X:List Int) (x:Int):Prop:=holdsN s l x.toNat=true→∀y∈(steps s).getD x.toNat [],y∈X→holdsN s l y.toNat=true
def hw (s:Sy) (l:List Tm) (X:List Int):Prop:=∀x∈X,hw1 s l X x
theorem nxtN_rule {s:Sy} {st x:List Int}:∀{k:Nat},x∈nxtN s st k→∃r,r<k∧useM s.1 (s.2.getD r ([],[],[])) st=x∧x≠[]
 | 0,h=>by simp [nxtN] at h
 | k+1,h=>by
  simp only [nxtN] at h
  split at h
  ·obtain ⟨r,h1,h2⟩:=nxtN_rule h;exact ⟨r,by omega,h2⟩
  ·rename_i h1
   rcases putM_mem h with rfl | h
   ·exact ⟨k,by omega,rfl,h1⟩
   ·obtain ⟨r,h1,h2⟩:=nxtN_rule h;exact ⟨r,by omega,h2⟩
def fst1 (p:Nat→Bool):Nat→Int
 | 0 => -1
 | n+1=>if 0≤fst1 p n then fst1 p n else if p n=true then (n:Int) else -1
theorem fst1_none {p:Nat→Bool}:∀{n:Nat},(∀j,j<n→¬p j=true)→fst1 p n = -1
 | 0,_=>rfl
 | n+1,h=>by rw [fst1,fst1_none fun j hj=>h j (by omega),if_neg (by omega),if_neg (h n (by omega))]
theorem fst1_hit {p:Nat→Bool} {i:Nat} (hp:p i=true) (h:∀j,j<i→¬p j=true):∀{n:Nat},i<n→fst1 p n=i
 | 0,hi=>absurd hi (Nat.not_lt_zero _)
 | n+1,hi=>by
  rw [fst1]
  by_cases g:i<n
  ·rw [fst1_hit hp h g,if_pos (by omega)]
  ·have:i=n:=by omega
   subst this
   rw [fst1_none h,if_neg (by omega),if_pos hp]
theorem fst1_ge {p:Nat→Bool} {i n:Nat} (hi:i<n) (hp:p i=true):0≤fst1 p n:=by
 obtain ⟨d,h1,h2⟩:=least (P:=fun i=>p i=true) ⟨i,hp⟩
 have:¬i<d:=fun g=>h2 i g hp
 rw [fst1_hit h1 h2 (show d<n by omega)];omega
def rbt (s:Sy) (a b:List Int):Int:=fst1 (fun r=>decide (useM s.1 (s.2.getD r ([],[],[])) a≠[]∧useM s.1 (s.2.getD r ([],[],[])) a=b)) s.2.length
def IsPrd (T:List (List Int)) (f:Nat→Int) (n k a:Nat):Prop:=a<n∧f a+1=f k∧(k:Int)∈T.getD a []∧∀b,b<a→¬(f b+1=f k∧(k:Int)∈T.getD b [])
def Chain (T:List (List Int)) (f:Nat→Int) (n k D:Nat) (ch:Nat→Nat):Prop:=ch D=k∧(∀e,e<D→IsPrd T f n (ch (e+1)) (ch e))∧∀e,e≤D→ch e<n∧f (ch e)=e
theorem Chain.few {T:List (List Int)} {f:Nat→Int} {n k D:Nat} {ch:Nat→Nat} (h:Chain T f n k D ch):D<n:=by
 have key:∀e,e≤D→e<(upTo (fun k=>decide (0≤f k∧f k≤(e:Int))) n).length:=by
  intro e
  induction e with
  | zero =>
   intro _
   have h1:=h.2.2 0 (by omega)
   exact upTo_pos.2 ⟨ch 0,h1.1,decide_eq_true (by omega)⟩
  | succ e ih =>
   intro he
   have h1:=ih (by omega)
   have h2:=h.2.2 (e+1) he
   have h3:=upTo_mono (p:=fun k=>decide (0≤f k∧f k≤(e:Int))) (q:=fun k=>decide (0≤f k∧f k≤((e+1:Nat):Int))) (n:=n) fun k _ hk=>decide_eq_true (by have:=of_decide_eq_true hk;omega)
   by_cases g:(upTo (fun k=>decide (0≤f k∧f k≤((e+1:Nat):Int))) n).length≤(upTo (fun k=>decide (0≤f k∧f k≤(e:Int))) n).length
   ·have h4:=h3.2 g (ch (e+1)) h2.1 (decide_eq_true (by omega))
    have h5:=of_decide_eq_true h4
    omega
   ·omega
 have h1:=key D (Nat.le_refl _)
 have h2:=@upTo_len (fun k=>decide (0≤f k∧f k≤(D:Int))) n
 omega
theorem useM_few {s:Sy} (h:valid s) {r:Ru} {a:List Int}:(useM s.1 r a).length≤1048576:=by
 by_cases h0:useM s.1 r a=[]
 ·rw [h0];simp
 ·have h1:=(useM_in h0).1;have h2:=h.1.2;omega
theorem rbt_next {s:Sy} {a b:List Int} {i:Nat} (hp:∀j,j<i→¬(¬useM s.1 (s.2.getD j ([],[],[])) a=[]∧useM s.1 (s.2.getD j ([],[],[])) a=b)):¬(¬useM s.1 (s.2.getD i ([],[],[])) a=[]∧useM s.1 (s.2.getD i ([],[],[])) a=b) →
  ∀j,j<i+1→¬(¬useM s.1 (s.2.getD j ([],[],[])) a=[]∧useM s.1 (s.2.getD j ([],[],[])) a=b):=by
 intro hn j hj
 rcases Nat.lt_succ_iff_lt_or_eq.1 hj with hj | rfl
 ·exact hp j hj
 ·exact hn
theorem C_slices_Equal (a b:List Int) (ha:a.length≤1048576) (hb:b.length≤1048576) (Q:List AV→Prop):mc.C f_slices_Equal_Sint_int [⟨L I,a⟩,⟨L I,b⟩] Q=Q [⟨B,decide (a=b)⟩]:=by
 refine Mc.Ends.c (mc.ends F_slices_Equal_Sint_int ?_)
 generalize hK:decide (a=b)=K
 simp+contextual(maxSteps:=1000000)(disch:=omega)only[↓Sd,↓So,↓Sk,↓den,↓denA,Sa,Sb,Sc,Se,O1.d,O2.d,O3.d,cmI,arI,envOf,putN,↓reduceIte,Nat.reduceLT,Nat.reduceSub,Nat.reduceAdd,Int.reduceAdd,Int.reduceEq,Int.reduceLT,Int.reduceLE,arr_pos,arr_neg,tr_slices_Equal_Sint_int]
 refine ⟨fun g=>?_,fun g=>?_⟩
 ·rw [←hK,decide_eq_false];intro h;rw [h] at g;exact g rfl
 ·have hl:a.length=b.length:=by omega
  refine lp_all (fun i=>[⟨L I,a⟩,⟨L I,b⟩,⟨I,(a.length:Int)⟩,⟨I,(i:Int)⟩]) (fun i=>a.getD i 0=b.getD i 0) a.length _ ?_ ?_ ?_
  ·rw [hl];rfl
  ·intro i hi
   simp+contextual(maxSteps:=1000000)(disch:=omega)only[↓Sd,↓So,↓Sk,↓den,↓denA,Sa,Sb,Sc,Se,O1.d,O2.d,O3.d,cmI,arI,envOf,putN,↓reduceIte,Nat.reduceLT,Nat.reduceSub,Nat.reduceAdd,Int.reduceAdd,Int.reduceEq,Int.reduceLT,Int.reduceLE,arr_pos,arr_neg,]
   intro h
   rw [←hK,decide_eq_false]
   intro h2;rw [h2] at h;exact h rfl
  ·intro h
   simp+contextual(maxSteps:=1000000)(disch:=omega)only[↓Sd,↓So,↓Sk,↓den,↓denA,Sa,Sb,Sc,Se,O1.d,O2.d,O3.d,cmI,arI,envOf,putN,↓reduceIte,Nat.reduceLT,Nat.reduceSub,Nat.reduceAdd,Int.reduceAdd,Int.reduceEq,Int.reduceLT,Int.reduceLE,arr_pos,arr_neg,]
   rw [←hK,decide_eq_true]
   refine List.ext_getElem hl fun i h1 h2=>?_
   have:=h i h1
   rwa [getD_lt h1,getD_lt h2] at this
theorem C_impl_ruleBetween (s:Sy) (a b:List Int) (h:valid s) (ha:inR s.1 a) (hb:b.length≤1048576) (Q:List AV→Prop):mc.C f_impl_ruleBetween [⟨L V3,s.1⟩,⟨L TR,s.2⟩,⟨L I,a⟩,⟨L I,b⟩] Q=Q [⟨I,rbt s a b⟩]:=by
 refine Mc.Ends.c (mc.ends F_impl_ruleBetween ?_)
 generalize hK:rbt s a b=K
 simp+contextual(maxSteps:=1000000)(disch:=omega)only[↓Sd,↓So,↓Sk,↓den,↓denA,Sa,Sb,Sc,Se,O1.d,O2.d,O3.d,cmI,arI,envOf,putN,↓reduceIte,Nat.reduceLT,Nat.reduceSub,Nat.reduceAdd,Int.reduceAdd,Int.reduceEq,Int.reduceLT,Int.reduceLE,arr_pos,arr_neg,tr_impl_ruleBetween]
 refine mc.lp_for Unit (fun i _=>[⟨L I,a⟩,⟨L I,b⟩,⟨I,(s.2.length:Int)⟩,⟨I,(i:Int)⟩,⟨L V3,s.1⟩,⟨L TR,s.2⟩]) (fun i _=>∀j,j<i→¬(¬useM s.1 (s.2.getD j ([],[],[])) a=[]∧useM s.1 (s.2.getD j ([],[],[])) a=b)) s.2.length 0 () _ rfl (Nat.zero_le _) (fun j hj=>absurd hj (Nat.not_lt_zero _)) ?_ ?_
 ·rintro i - hi hp
  have hu:(useM s.1 (s.2.getD i ([],[],[])) a).length≤1048576:=useM_few h
  have next:=rbt_next (s:=s) (a:=a) (b:=b) hp
  have h8:=h.2.1
  have hit:(¬useM s.1 (s.2.getD i ([],[],[])) a=[]∧useM s.1 (s.2.getD i ([],[],[])) a=b)→(i:Int)=K:=fun hh=>by
   rw [←hK,rbt,fst1_hit (i:=i) (decide_eq_true hh) (fun j hj h=>hp j hj (of_decide_eq_true h)) hi]
  simp+contextual(maxSteps:=1000000)(disch:=omega)only[↓Sd,↓So,↓Sk,↓den,↓denA,Sa,Sb,Sc,Se,O1.d,O2.d,O3.d,cmI,arI,envOf,putN,↓reduceIte,Nat.reduceLT,Nat.reduceSub,Nat.reduceAdd,Int.reduceAdd,Int.reduceEq,Int.reduceLT,Int.reduceLE,arr_pos,arr_neg,↓wpJoin,C_impl_use s a i h ha hi,C_slices_Equal _ b hu hb]
  exact ⟨fun g1=>⟨fun g2=>hit ⟨g1,g2⟩,fun g2=>next fun h=>g2 h.2⟩,fun g1=>next fun h=>h.1 g1⟩
 ·rintro - hp
  simp+contextual(maxSteps:=1000000)(disch:=omega)only[↓Sd,↓So,↓Sk,↓den,↓denA,Sa,Sb,Sc,Se,O1.d,O2.d,O3.d,cmI,arI,envOf,putN,↓reduceIte,Nat.reduceLT,Nat.reduceSub,Nat.reduceAdd,Int.reduceAdd,Int.reduceEq,Int.reduceLT,Int.reduceLE,arr_pos,arr_neg,]
  rw [←hK,rbt,fst1_none fun j hj h=>hp j hj (of_decide_eq_true h)]
structure IsRun (s:Sy) (D:Nat) (f:Nat→List Int):Prop where
 few:D<500
 first:f 0=fst0 s.1
 inr:∀e,e≤D→inR s.1 (f e)
 rule:∀e,e<D→0≤rbt s (f e) (f (e+1))
def rules (s:Sy) (f:Nat→List Int) (D:Nat):List Int:=tab (fun e=>rbt s (f e) (f (e+1))) D
theorem IsRun.len {s:Sy} {D:Nat} {f:Nat→List Int} (hv:valid s) (h:IsRun s D f) {e:Nat} (he:e≤D):(f e).length≤1048576:=by
 have:=(h.inr e he).1
 have:=hv.1.2
 omega
def SmSS (l:List (List Int)):Prop:=l.length≤4000∧∀x∈l,x.length≤4000
theorem SmSS.row {l:List (List Int)} (h:SmSS l) (i:Nat):(l.getD i []).length≤4000:=by
 by_cases hi:i<l.length
 ·exact h.2 _ (getD_mem hi)
 ·rw [List.getD_eq_getElem?_getD,List.getElem?_eq_none (by omega)];simp
theorem rbt_spec {s:Sy} {a b:List Int} (h:0≤rbt s a b):∃r:Nat,rbt s a b=r∧r<s.2.length∧useM s.1 (s.2.getD r ([],[],[])) a≠[]∧useM s.1 (s.2.getD r ([],[],[])) a=b:=by
 by_cases g:∃r,r<s.2.length∧(useM s.1 (s.2.getD r ([],[],[])) a≠[]∧useM s.1 (s.2.getD r ([],[],[])) a=b)
 ·obtain ⟨r,h1,h2⟩:=least g
  refine ⟨r,?_,h1.1,h1.2.1,h1.2.2⟩
  refine fst1_hit (decide_eq_true h1.2) (fun j hj hp=>?_) h1.1
  have:=of_decide_eq_true hp
  exact h2 j hj ⟨by omega,this⟩
 ·rw [rbt,fst1_none fun j hj hp=>g ⟨j,hj,of_decide_eq_true hp⟩] at h
  omega
def fOk (s:Sy) (F:List (List Tm)):Prop:=valid s∧F.length≤4∧∀i,i<F.length→kf (F.getD i []) s.1.length=2
instance (s : Sy) (F : List (List Tm)) : Decidable (fOk s F) := by unfold fOk; infer_instance
def FewSS (F:List (List Tm)):Prop:=Few F∧∀x∈F,Few x
theorem FewSS.row {F:List (List Tm)} (h:FewSS F) (i:Nat):Few (F.getD i []):=by
 by_cases hi:i<F.length
 ·exact h.2 _ (getD_mem hi)
 ·rw [List.getD_eq_getElem?_getD,List.getElem?_eq_none (by omega)];simp [Few]
def ltr (F:List (List Tm)) (st:List Int):List Int:=tab (fun i=>evl (F.getD i []) st) F.length
theorem C_spec_l20Facts (s:Sy) (F:List (List Tm)) (hs:FewSy s) (hF:FewSS F) (Q:List AV→Prop):mc.C f_spec_l20Facts [⟨L V3,s.1⟩,⟨L TR,s.2⟩,⟨L (L T4),F⟩] Q=Q [⟨B,decide (fOk s F)⟩]:=by
 have hl:F.length≤1048576:=hF.1
 refine Mc.Ends.c (mc.ends F_spec_l20Facts ?_)
 generalize hK:decide (fOk s F)=K
 simp+contextual(maxSteps:=1000000)(disch:=omega)only[↓Sd,↓So,↓Sk,↓den,↓denA,Sa,Sb,Sc,Se,O1.d,O2.d,O3.d,cmI,arI,envOf,putN,↓reduceIte,Nat.reduceLT,Nat.reduceSub,Nat.reduceAdd,Int.reduceAdd,Int.reduceEq,Int.reduceLT,Int.reduceLE,arr_pos,arr_neg,tr_spec_l20Facts]
 refine lp_all (fun i=>[⟨L (L T4),F⟩,⟨I,(i:Int)⟩,⟨L V3,s.1⟩,⟨L TR,s.2⟩]) (fun i=>kf (F.getD i []) s.1.length=2) F.length _ rfl ?_ ?_
 ·intro i hi
  simp+contextual(maxSteps:=1000000)(disch:=omega)only[↓Sd,↓So,↓Sk,↓den,↓denA,Sa,Sb,Sc,Se,O1.d,O2.d,O3.d,cmI,arI,envOf,putN,↓reduceIte,Nat.reduceLT,Nat.reduceSub,Nat.reduceAdd,Int.reduceAdd,Int.reduceEq,Int.reduceLT,Int.reduceLE,arr_pos,arr_neg,C_spec_l2Is (F.getD i []) s.1.length 2 (hF.row i) (by omega)]
  intro g
  rw [←hK,decide_eq_false fun h=>g (h.2.2 i hi)]
 ·intro h
  simp+contextual(maxSteps:=1000000)(disch:=omega)only[↓Sd,↓So,↓Sk,↓den,↓denA,Sa,Sb,Sc,Se,O1.d,O2.d,O3.d,cmI,arI,envOf,putN,↓reduceIte,Nat.reduceLT,Nat.reduceSub,Nat.reduceAdd,Int.reduceAdd,Int.reduceEq,Int.reduceLT,Int.reduceLE,arr_pos,arr_neg,C_spec_SystemValid s hs]
  refine ⟨fun hv=>?_,fun hv=>by rw [←hK,decide_eq_false fun h=>hv h.1]⟩
  rw [←hK]
  exact decide_eq_decide.2 ⟨fun g=>⟨hv,by omega,h⟩,fun g=>by have:=g.2.1;omega⟩
theorem C_impl_factsOk (s:Sy) (F:List (List Tm)) (hs:FewSy s) (hF:FewSS F) (Q:List AV→Prop):mc.C f_impl_factsOk [⟨L V3,s.1⟩,⟨L TR,s.2⟩,⟨L (L T4),F⟩] Q=Q [⟨B,decide (fOk s F)⟩]:=by
 have hl:F.length≤1048576:=hF.1
 refine Mc.Ends.c (mc.ends F_impl_factsOk ?_)
 generalize hK:decide (fOk s F)=K
 simp+contextual(maxSteps:=1000000)(disch:=omega)only[↓Sd,↓So,↓Sk,↓den,↓denA,Sa,Sb,Sc,Se,O1.d,O2.d,O3.d,cmI,arI,envOf,putN,↓reduceIte,Nat.reduceLT,Nat.reduceSub,Nat.reduceAdd,Int.reduceAdd,Int.reduceEq,Int.reduceLT,Int.reduceLE,arr_pos,arr_neg,tr_impl_factsOk,C_impl_SystemValid s hs]
 refine ⟨fun hv=>⟨fun h4=>?_,fun h4=>by rw [←hK,decide_eq_false fun h=>h4 (by have:=h.2.1;omega)]⟩,fun hv=>by rw [←hK,decide_eq_false fun h=>hv h.1]⟩
 refine lp_all (fun i=>[⟨L (L T4),F⟩,⟨I,(F.length:Int)⟩,⟨I,(i:Int)⟩,⟨L V3,s.1⟩,⟨L TR,s.2⟩]) (fun i=>kf (F.getD i []) s.1.length=2) F.length _ rfl ?_ ?_
 ·intro i hi
  simp+contextual(maxSteps:=1000000)(disch:=omega)only[↓Sd,↓So,↓Sk,↓den,↓denA,Sa,Sb,Sc,Se,O1.d,O2.d,O3.d,cmI,arI,envOf,putN,↓reduceIte,Nat.reduceLT,Nat.reduceSub,Nat.reduceAdd,Int.reduceAdd,Int.reduceEq,Int.reduceLT,Int.reduceLE,arr_pos,arr_neg,C_impl_kindOf (F.getD i []) s.1.length (hF.row i)]
  intro g
  have hno:¬fOk s F:=fun h=>g (h.2.2 i hi)
  rw [←hK,decide_eq_false hno]
  simp
 ·intro h
  simp+contextual(maxSteps:=1000000)(disch:=omega)only[↓Sd,↓So,↓Sk,↓den,↓denA,Sa,Sb,Sc,Se,O1.d,O2.d,O3.d,cmI,arI,envOf,putN,↓reduceIte,Nat.reduceLT,Nat.reduceSub,Nat.reduceAdd,Int.reduceAdd,Int.reduceEq,Int.reduceLT,Int.reduceLE,arr_pos,arr_neg,]
  rw [←hK,decide_eq_true (p:=fOk s F) ⟨hv,by omega,h⟩]
  rfl
theorem C_spec_l20Of (F:List (List Tm)) (st:List Int) (hl:F.length≤4) (h:∀i,i<F.length→kf (F.getD i []) st.length=2) (hb:Bds st) (Q:List AV→Prop):mc.C f_spec_l20Of [⟨L (L T4),F⟩,⟨L I,st⟩] Q=Q [⟨L I,ltr F st⟩]:=by
 refine Mc.Ends.c (mc.ends F_spec_l20Of ?_)
 simp+contextual(maxSteps:=1000000)(disch:=omega)only[↓Sd,↓So,↓Sk,↓den,↓denA,Sa,Sb,Sc,Se,O1.d,O2.d,O3.d,cmI,arI,envOf,putN,↓reduceIte,Nat.reduceLT,Nat.reduceSub,Nat.reduceAdd,Int.reduceAdd,Int.reduceEq,Int.reduceLT,Int.reduceLE,arr_pos,arr_neg,tr_spec_l20Of]
 refine mc.lp_for (List Int) (fun i o=>[⟨L (L T4),F⟩,⟨L I,st⟩,⟨I,(i:Int)⟩,⟨L I,o⟩]) (fun i o=>o=tab (fun i=>evl (F.getD i []) st) i) F.length 0 [] _ rfl (Nat.zero_le _) rfl ?_ ?_
 ·rintro i o hi rfl
  have h1:=h i hi
  simp+contextual(maxSteps:=1000000)(disch:=omega)only[↓Sd,↓So,↓Sk,↓den,↓denA,Sa,Sb,Sc,Se,O1.d,O2.d,O3.d,cmI,arI,envOf,putN,↓reduceIte,Nat.reduceLT,Nat.reduceSub,Nat.reduceAdd,Int.reduceAdd,Int.reduceEq,Int.reduceLT,Int.reduceLE,arr_pos,arr_neg,tab_len,C_spec_l2Last (F.getD i []) st st.length (by omega) hb rfl]
  exact tab_next
 ·rintro o rfl
  simp+contextual(maxSteps:=1000000)(disch:=omega)only[↓Sd,↓So,↓Sk,↓den,↓denA,Sa,Sb,Sc,Se,O1.d,O2.d,O3.d,cmI,arI,envOf,putN,↓reduceIte,Nat.reduceLT,Nat.reduceSub,Nat.reduceAdd,Int.reduceAdd,Int.reduceEq,Int.reduceLT,Int.reduceLE,arr_pos,arr_neg,]
  rfl
theorem C_impl_letters (F:List (List Tm)) (st:List Int) (hl:F.length≤4) (h:∀i,i<F.length→kf (F.getD i []) st.length=2) (hb:Bds st) (Q:List AV→Prop):mc.C f_impl_letters [⟨L (L T4),F⟩,⟨L I,st⟩] Q=Q [⟨L I,ltr F st⟩]:=by
 refine Mc.Ends.c (mc.ends F_impl_letters ?_)
 simp+contextual(maxSteps:=1000000)(disch:=omega)only[↓Sd,↓So,↓Sk,↓den,↓denA,Sa,Sb,Sc,Se,O1.d,O2.d,O3.d,cmI,arI,envOf,putN,↓reduceIte,Nat.reduceLT,Nat.reduceSub,Nat.reduceAdd,Int.reduceAdd,Int.reduceEq,Int.reduceLT,Int.reduceLE,arr_pos,arr_neg,tr_impl_letters]
 refine mc.lp_for (List Int) (fun i o=>[⟨L I,st⟩,⟨L (L T4),F⟩,⟨I,(F.length:Int)⟩,⟨I,(i:Int)⟩,⟨L I,o⟩]) (fun i o=>o=tab (fun j=>if j<i then evl (F.getD j []) st else 0) F.length) F.length 0 (List.replicate F.length 0) _ rfl (Nat.zero_le _) (by rw [rep_tab];rfl) ?_ ?_
 ·rintro i o hi rfl
  have h1:=h i hi
  simp+contextual(maxSteps:=1000000)(disch:=omega)only[↓Sd,↓So,↓Sk,↓den,↓denA,Sa,Sb,Sc,Se,O1.d,O2.d,O3.d,cmI,arI,envOf,putN,↓reduceIte,Nat.reduceLT,Nat.reduceSub,Nat.reduceAdd,Int.reduceAdd,Int.reduceEq,Int.reduceLT,Int.reduceLE,arr_pos,arr_neg,tab_len,C_impl_eval (F.getD i []) st st.length (by omega) hb rfl,tab_set']
  refine tab_congr fun k _=>?_
  by_cases e:k=i
  ·subst e;rw [if_pos rfl,if_pos (by omega)]
  ·rw [if_neg e]
   by_cases e2:k<i
   ·rw [if_pos e2,if_pos (by omega)]
   ·rw [if_neg e2,if_neg (by omega)]
 ·rintro o rfl
  simp+contextual(maxSteps:=1000000)(disch:=omega)only[↓Sd,↓So,↓Sk,↓den,↓denA,Sa,Sb,Sc,Se,O1.d,O2.d,O3.d,cmI,arI,envOf,putN,↓reduceIte,Nat.reduceLT,Nat.reduceSub,Nat.reduceAdd,Int.reduceAdd,Int.reduceEq,Int.reduceLT,Int.reduceLE,arr_pos,arr_neg,]
  exact tab_congr fun k hk=>if_pos hk
theorem SmSS.few {l:List (List Int)} (h:SmSS l):l.length≤1048576∧∀x∈l,x.length≤1048576:=⟨by have:=h.1;omega,fun x hx=>by have:=h.2 x hx;omega⟩
abbrev zT:Tm:=(0,0,0,0)
def tO (t:Tm) (i n:Int):Prop :=
 (t.1=0∧t.2.1=0∧t.2.2.1=0∧t.2.2.2=0)∨(t.1=1∧(0≤t.2.1∧t.2.1≤n - 1)∧t.2.2.1=0∧t.2.2.2=0) ∨
 ((2≤t.1∧t.1≤7)∧t.2.1=0∧(0≤t.2.2.1∧t.2.2.1≤i - 1)∧(0≤t.2.2.2∧t.2.2.2≤i - 1)∧((t.1=2∨t.1=5)→t.2.2.2=t.2.2.1))
instance (t : Tm) (i n : Int) : Decidable (tO t i n) := by unfold tO; infer_instance
def tV (l:List Tm) (n:Int):Prop:=(0≤n∧n≤4)∧(1≤l.length∧l.length≤24)∧∀i,i<l.length→tO (l.getD i zT) i n
instance (l : List Tm) (n : Int) : Decidable (tV l n) := by unfold tV; infer_instance
theorem one_eq5 {n:Int}:(n=2→true=decide (True∨False))∧(¬n=2→(n==5)=decide (False∨n=5)):=by
 refine ⟨fun _=>by simp,fun h=>?_⟩
 by_cases g:n=5
 ·subst g;rfl
 ·simp [g]
theorem tO_goal {o m a b i n:Int} {K:Bool} (hK:decide (tO (o,m,a,b) i n)=K):(o=0→(m=0→(a=0→(b==0)=K)∧(¬a=0→false=K))∧(¬m=0→false=K)) ∧
  (¬o=0 →
   (o=1 →
     (0≤m∧m≤n - 1→(a=0→(b==0)=K)∧(¬a=0→false=K))∧(¬(0≤m∧m≤n - 1)→false=K)) ∧
    (¬o=1 →
     (¬(2≤o∧o≤7)→false=K) ∧
      (2≤o∧o≤7 →
       (¬m=0→false=K) ∧
        (m=0 →
         (¬(0≤a∧a≤i - 1)→false=K) ∧
          (0≤a∧a≤i - 1 →
           (¬(0≤b∧b≤i - 1)→false=K) ∧
            (0≤b∧b≤i - 1→(¬(o=2∨o=5)→true=K)∧(o=2∨o=5→(b==a)=K))))))):=by
 have e:∀{x y:Int},(x==y)=decide (x=y):=fun {x y}=>by rw [beq_dB,dB_eq]
 simp only [e]
 unfold tO at hK
 simp only at hK
 cases K with
 | true =>
  have hp:=of_decide_eq_true hK
  simp only [decide_eq_true_eq,Bool.false_eq_true]
  repeat' first | apply And.intro | intro _
  all_goals first
   | trivial
   | omega
 | false =>
  have hp:=of_decide_eq_false hK
  simp only [decide_eq_false_iff_not,Bool.true_eq_false]
  repeat' first | apply And.intro | intro _
  all_goals first
   | trivial
   | omega
theorem tO_goal2 {o m a b i n:Int} {q:Bool} (hK:decide (tO (o,m,a,b) i n)=q):(o=0→((0:Int)==0&&(m==0&&(a==0&&b==0)))=q) ∧
  (¬o=0 →
   (o=1 →
     (0≤m∧m≤n - 1→(a=0→(b==0)=q)∧(¬a=0→false=q)) ∧
      (¬(0≤m∧m≤n - 1)→false=q)) ∧
    (¬o=1 →
     (0≤o∧o≤7 →
       (m=0 →
         (0≤a∧a≤i - 1 →
           (0≤b∧b≤i - 1 →
             (a=b→true=q) ∧
              (¬a=b →
               (¬o=2→(o != 5)=q) ∧
                (o=2→false=q))) ∧
            (¬(0≤b∧b≤i - 1) →
             false=q)) ∧
          (¬(0≤a∧a≤i - 1) →
           false=q)) ∧
        (¬m=0→false=q)) ∧
      (¬(0≤o∧o≤7)→false=q))):=by
 have e:∀{x y:Int},(x==y)=decide (x=y):=fun {x y}=>by rw [beq_dB,dB_eq]
 have e2:∀{x y:Int},(x != y)=!decide (x=y):=fun {x y}=>by rw [←e];rfl
 simp only [e,e2]
 unfold tO at hK
 simp only at hK
 cases q with
 | true =>
  have hp:=of_decide_eq_true hK
  repeat' first | apply And.intro | intro _
  all_goals first
   | rfl
   | omega
   | (simp only [decide_true,Bool.true_and,Bool.and_eq_true,decide_eq_true_eq,Bool.not_eq_true',decide_eq_false_iff_not];omega)
 | false =>
  have hp:=of_decide_eq_false hK
  repeat' first | apply And.intro | intro _
  all_goals first
   | rfl
   | omega
   | (simp only [decide_true,Bool.true_and,Bool.and_eq_false_iff,decide_eq_false_iff_not,Bool.not_eq_false',decide_eq_true_eq];omega)
theorem C_spec_l20One (n:Int) (Q:List AV→Prop):mc.C f_spec_l20One [⟨I,n⟩] Q=Q [⟨B,decide (n=2∨n=5)⟩]:=by
 refine Mc.Ends.c (mc.ends F_spec_l20One ?_)
 simp+contextual(maxSteps:=1000000)(disch:=omega)only[↓Sd,↓So,↓Sk,↓den,↓denA,Sa,Sb,Sc,Se,O1.d,O2.d,O3.d,cmI,arI,envOf,putN,↓reduceIte,Nat.reduceLT,Nat.reduceSub,Nat.reduceAdd,Int.reduceAdd,Int.reduceEq,Int.reduceLT,Int.reduceLE,arr_pos,arr_neg,tr_spec_l20One]
 exact one_eq5
theorem C_spec_l20Step (t:Tm) (i n:Int) (hi:0≤i∧i≤100) (hn:0≤n∧n≤4) (Q:List AV→Prop):mc.C f_spec_l20Step [⟨I,t.1⟩,⟨I,t.2.1⟩,⟨I,t.2.2.1⟩,⟨I,t.2.2.2⟩,⟨I,i⟩,⟨I,n⟩] Q=Q [⟨B,decide (tO t i n)⟩]:=by
 refine Mc.Ends.c (mc.ends F_spec_l20Step ?_)
 generalize hK:decide (tO t i n)=K
 obtain ⟨o,m,a,b⟩:=t
 simp+contextual(maxSteps:=1000000)(disch:=omega)only[↓Sd,↓So,↓Sk,↓den,↓denA,Sa,Sb,Sc,Se,O1.d,O2.d,O3.d,cmI,arI,envOf,putN,↓reduceIte,Nat.reduceLT,Nat.reduceSub,Nat.reduceAdd,Int.reduceAdd,Int.reduceEq,Int.reduceLT,Int.reduceLE,arr_pos,arr_neg,tr_spec_l20Step,C_spec_l1In,C_spec_l20One]
 exact tO_goal hK
theorem C_spec_TimesValid (l:List Tm) (n:Int) (hl:Few l) (Q:List AV→Prop):mc.C f_spec_TimesValid [⟨L T4,l⟩,⟨I,n⟩] Q=Q [⟨B,decide (tV l n)⟩]:=by
 refine Mc.Ends.c (mc.ends F_spec_TimesValid ?_)
 generalize hK:decide (tV l n)=K
 simp+contextual(maxSteps:=1000000)(disch:=omega)only[↓Sd,↓So,↓Sk,↓den,↓denA,Sa,Sb,Sc,Se,O1.d,O2.d,O3.d,cmI,arI,envOf,putN,↓reduceIte,Nat.reduceLT,Nat.reduceSub,Nat.reduceAdd,Int.reduceAdd,Int.reduceEq,Int.reduceLT,Int.reduceLE,arr_pos,arr_neg,tr_spec_TimesValid,C_spec_l1In]
 refine ⟨fun g=>?_,fun g=>⟨fun g2=>?_,fun g2=>?_⟩⟩
 ·rw [←hK,decide_eq_false fun h=>g h.1]
 ·rw [←hK,decide_eq_false fun h=>g2 (by have:=h.2.1;omega)]
 ·refine lp_all (fun i=>[⟨L T4,l⟩,⟨I,n⟩,⟨I,(i:Int)⟩]) (fun i=>tO (l.getD i zT) i n) l.length _ rfl ?_ ?_
  ·intro i hi
   simp+contextual(maxSteps:=1000000)(disch:=omega)only[↓Sd,↓So,↓Sk,↓den,↓denA,Sa,Sb,Sc,Se,O1.d,O2.d,O3.d,cmI,arI,envOf,putN,↓reduceIte,Nat.reduceLT,Nat.reduceSub,Nat.reduceAdd,Int.reduceAdd,Int.reduceEq,Int.reduceLT,Int.reduceLE,arr_pos,arr_neg,C_spec_l20Step (l.getD i (0,0,0,0)) (i:Int) n (by omega) g]
   exact fun h=>by rw [←hK,decide_eq_false fun g=>h (g.2.2 i hi)]
  ·intro h
   simp+contextual(maxSteps:=1000000)(disch:=omega)only[↓Sd,↓So,↓Sk,↓den,↓denA,Sa,Sb,Sc,Se,O1.d,O2.d,O3.d,cmI,arI,envOf,putN,↓reduceIte,Nat.reduceLT,Nat.reduceSub,Nat.reduceAdd,Int.reduceAdd,Int.reduceEq,Int.reduceLT,Int.reduceLE,arr_pos,arr_neg,]
   rw [←hK,decide_eq_true (p:=tV l n) ⟨g,by omega,h⟩]
theorem C_impl_TimesValid (l:List Tm) (n:Int) (hl:Few l) (Q:List AV→Prop):mc.C f_impl_TimesValid [⟨L T4,l⟩,⟨I,n⟩] Q=Q [⟨B,decide (tV l n)⟩]:=by
 refine Mc.Ends.c (mc.ends F_impl_TimesValid ?_)
 generalize hK:decide (tV l n)=K
 simp+contextual(maxSteps:=1000000)(disch:=omega)only[↓Sd,↓So,↓Sk,↓den,↓denA,Sa,Sb,Sc,Se,O1.d,O2.d,O3.d,cmI,arI,envOf,putN,↓reduceIte,Nat.reduceLT,Nat.reduceSub,Nat.reduceAdd,Int.reduceAdd,Int.reduceEq,Int.reduceLT,Int.reduceLE,arr_pos,arr_neg,tr_impl_TimesValid,C_impl_in]
 refine ⟨fun g=>?_,fun g=>⟨fun g2=>?_,fun g2=>?_⟩⟩
 ·rw [←hK,decide_eq_false fun h=>g h.1]
 ·rw [←hK,decide_eq_false fun h=>g2 (by have:=h.2.1;omega)]
 ·refine lp_all (fun i=>[⟨I,n⟩,⟨L T4,l⟩,⟨I,(l.length:Int)⟩,⟨I,(i:Int)⟩]) (fun i=>tO (l.getD i zT) i n) l.length _ rfl ?_ ?_
  ·intro i hi
   have hno:¬tO (l.getD i zT) i n→false=K:=fun h=>by rw [←hK,decide_eq_false fun g=>h (g.2.2 i hi)]
   simp+contextual(maxSteps:=1000000)(disch:=omega)only[↓Sd,↓So,↓Sk,↓den,↓denA,Sa,Sb,Sc,Se,O1.d,O2.d,O3.d,cmI,arI,envOf,putN,↓reduceIte,Nat.reduceLT,Nat.reduceSub,Nat.reduceAdd,Int.reduceAdd,Int.reduceEq,Int.reduceLT,Int.reduceLE,arr_pos,arr_neg,C_impl_in]
   refine mc.wp_join (fun us=>us=[⟨I,n⟩,⟨B,decide (tO (l.getD i zT) i n)⟩,⟨L T4,l⟩,⟨I,(l.length:Int)⟩,⟨I,(i:Int)⟩]) ?_ ?_
   ·generalize hq:decide (tO (l.getD i zT) i n)=q
    simp+contextual(maxSteps:=1000000)(disch:=omega)only[↓Sd,↓So,↓Sk,↓den,↓denA,Sa,Sb,Sc,Se,O1.d,O2.d,O3.d,cmI,arI,envOf,putN,↓reduceIte,Nat.reduceLT,Nat.reduceSub,Nat.reduceAdd,Int.reduceAdd,Int.reduceEq,Int.reduceLT,Int.reduceLE,arr_pos,arr_neg,C_impl_in]
    exact tO_goal2 hq
   ·rintro us rfl
    simp+contextual(maxSteps:=1000000)(disch:=omega)only[↓Sd,↓So,↓Sk,↓den,↓denA,Sa,Sb,Sc,Se,O1.d,O2.d,O3.d,cmI,arI,envOf,putN,↓reduceIte,Nat.reduceLT,Nat.reduceSub,Nat.reduceAdd,Int.reduceAdd,Int.reduceEq,Int.reduceLT,Int.reduceLE,arr_pos,arr_neg,]
    exact hno
  ·intro h
   simp+contextual(maxSteps:=1000000)(disch:=omega)only[↓Sd,↓So,↓Sk,↓den,↓denA,Sa,Sb,Sc,Se,O1.d,O2.d,O3.d,cmI,arI,envOf,putN,↓reduceIte,Nat.reduceLT,Nat.reduceSub,Nat.reduceAdd,Int.reduceAdd,Int.reduceEq,Int.reduceLT,Int.reduceLE,arr_pos,arr_neg,]
   rw [←hK,decide_eq_true (p:=tV l n) ⟨g,by omega,h⟩]
theorem D_l20Asked (b:List Int) (p:Int) (s:Sy) (hb:Rdy b) (hp:0≤p∧p≤600000000) (hs:SmSy s) {Q:List AV→Prop} (h:∀(F:List (List Tm)) (p':Int),p≤p'∧p'≤p+5000→F.length≤4→(∀x∈F,x.length≤16)→Q [⟨L (L T4),F⟩,⟨RD,(b,p')⟩]):mc.C f_spec_l20Asked [⟨RD,(b,p)⟩,⟨L V3,s.1⟩,⟨L TR,s.2⟩] Q:=by
 refine mc.c_of F_spec_l20Asked ?_
 simp+contextual(maxSteps:=1000000)(disch:=omega)only[↓Sd,↓So,↓Sk,↓den,↓denA,Sa,Sb,Sc,Se,O1.d,O2.d,O3.d,cmI,arI,envOf,putN,↓reduceIte,Nat.reduceLT,Nat.reduceSub,Nat.reduceAdd,Int.reduceAdd,Int.reduceEq,Int.reduceLT,Int.reduceLE,arr_pos,arr_neg,tr_spec_l20Asked]
 have h3:=hs.1
 refine mc.wp_join (fun us=>∃(p1:Int) (F:List (List Tm)),us=[⟨L U,b⟩,⟨I,p1⟩,⟨L (L T4),F⟩]∧p≤p1∧p1≤p+5000∧F.length≤4∧∀x∈F,x.length≤16) ?_ ?_
 ·simp+contextual(maxSteps:=1000000)(disch:=omega)only[↓Sd,↓So,↓Sk,↓den,↓denA,Sa,Sb,Sc,Se,O1.d,O2.d,O3.d,cmI,arI,envOf,putN,↓reduceIte,Nat.reduceLT,Nat.reduceSub,Nat.reduceAdd,Int.reduceAdd,Int.reduceEq,Int.reduceLT,Int.reduceLE,arr_pos,arr_neg,]
  refine D_num _ _ _ hb (by omega) (by simp) (by simp) fun n n0=>?_;simp+contextual(maxSteps:=1000000)(disch:=omega)only[↓Sd,↓So,↓Sk,↓den,↓denA,Sa,Sb,Sc,Se,O1.d,O2.d,O3.d,cmI,arI,envOf,putN,↓reduceIte,Nat.reduceLT,Nat.reduceSub,Nat.reduceAdd,Int.reduceAdd,Int.reduceEq,Int.reduceLT,Int.reduceLE,arr_pos,arr_neg,]
  have hn:0≤n∧n≤2:=by simp only [List.mem_append,List.mem_singleton] at n0;omega
  obtain ⟨N,hN⟩:∃N:Nat,n=N:=⟨n.toNat,by omega⟩
  subst hN
  refine mc.lp_inv (fun k us=>∃(p1:Int) (F:List (List Tm)),us=[⟨I,(k:Int)⟩,⟨L U,b⟩,⟨I,p1⟩,⟨L V3,s.1⟩,⟨L TR,s.2⟩,⟨L (L T4),F⟩]∧F.length+k≤2∧p≤p1∧p1+2000 * k≤p+1+4000∧∀x∈F,x.length≤16) N _ ⟨p+1,[],rfl,by simp;omega,by omega,by omega,by simp⟩ ?_
  rintro k us ⟨p1,F,rfl,i1,i2,i3,i4⟩
  have app:∀(x:List Tm),x.length≤16→∀y∈F++[x],y.length≤16:=fun x hx y hy=>(List.mem_append.1 hy).elim (i4 y) fun hy=>by rw [List.mem_singleton.1 hy];exact hx
  cases k with
  | zero =>
   simp+contextual(maxSteps:=1000000)(disch:=omega)only[↓Sd,↓So,↓Sk,↓den,↓denA,Sa,Sb,Sc,Se,O1.d,O2.d,O3.d,cmI,arI,envOf,putN,↓reduceIte,Nat.reduceLT,Nat.reduceSub,Nat.reduceAdd,Int.reduceAdd,Int.reduceEq,Int.reduceLT,Int.reduceLE,arr_pos,arr_neg,]
   exact ⟨_,_,⟨rfl,rfl⟩,by omega,by omega,by omega,i4⟩
  | succ k =>
   simp+contextual(maxSteps:=1000000)(disch:=omega)only[↓Sd,↓So,↓Sk,↓den,↓denA,Sa,Sb,Sc,Se,O1.d,O2.d,O3.d,cmI,arI,envOf,putN,↓reduceIte,Nat.reduceLT,Nat.reduceSub,Nat.reduceAdd,Int.reduceAdd,Int.reduceEq,Int.reduceLT,Int.reduceLE,arr_pos,arr_neg,]
   refine ⟨fun g=>?_,fun g=>⟨_,_,⟨rfl,rfl⟩,by omega,by omega,by omega,i4⟩⟩
   refine mc.wp_join (fun us=>∃(p1:Int) (F:List (List Tm)),us=[⟨I,(k:Int)+1⟩,⟨L U,b⟩,⟨I,p1⟩,⟨L V3,s.1⟩,⟨L TR,s.2⟩,⟨L (L T4),F⟩]∧F.length+k≤2∧p≤p1∧p1+2000 * k≤p+1+4000∧∀x∈F,x.length≤16) ?_ ?_
   ·simp+contextual(maxSteps:=1000000)(disch:=omega)only[↓Sd,↓So,↓Sk,↓den,↓denA,Sa,Sb,Sc,Se,O1.d,O2.d,O3.d,cmI,arI,envOf,putN,↓reduceIte,Nat.reduceLT,Nat.reduceSub,Nat.reduceAdd,Int.reduceAdd,Int.reduceEq,Int.reduceLT,Int.reduceLE,arr_pos,arr_neg,C_spec_l2Var (s.1.getD 0 (0,0,0))]
    refine ⟨fun g1=>?_,fun g1=>?_⟩
    ·refine D_pick1 _ _ _ hb (by omega) (by omega) fun a a0 a1=>?_;simp+contextual(maxSteps:=1000000)(disch:=omega)only[↓Sd,↓So,↓Sk,↓den,↓denA,Sa,Sb,Sc,Se,O1.d,O2.d,O3.d,cmI,arI,envOf,putN,↓reduceIte,Nat.reduceLT,Nat.reduceSub,Nat.reduceAdd,Int.reduceAdd,Int.reduceEq,Int.reduceLT,Int.reduceLE,arr_pos,arr_neg,]
     refine ⟨fun g2=>?_,fun g2=>?_⟩
     ·refine D_l2Cond _ _ (s.1.getD 0 (0,0,0)) _ hb (by omega) fun m p2 hp2 hm=>?_
      simp+contextual(maxSteps:=1000000)(disch:=omega)only[↓Sd,↓So,↓Sk,↓den,↓denA,Sa,Sb,Sc,Se,O1.d,O2.d,O3.d,cmI,arI,envOf,putN,↓reduceIte,Nat.reduceLT,Nat.reduceSub,Nat.reduceAdd,Int.reduceAdd,Int.reduceEq,Int.reduceLT,Int.reduceLE,arr_pos,arr_neg,↓wpJoin,]
      exact ⟨_,_,⟨rfl,rfl⟩,by simp only [List.length_append,List.length_singleton];omega,by omega,by omega,app m (by omega)⟩
     ·refine D_l1Any _ _ _ hb (by omega) (by omega) fun l p2 h1 h2 h4=>?_
      simp+contextual(maxSteps:=1000000)(disch:=omega)only[↓Sd,↓So,↓Sk,↓den,↓denA,Sa,Sb,Sc,Se,O1.d,O2.d,O3.d,cmI,arI,envOf,putN,↓reduceIte,Nat.reduceLT,Nat.reduceSub,Nat.reduceAdd,Int.reduceAdd,Int.reduceEq,Int.reduceLT,Int.reduceLE,arr_pos,arr_neg,↓wpJoin,]
      exact ⟨_,_,⟨rfl,rfl⟩,by simp only [List.length_append,List.length_singleton];omega,by omega,by omega,app l (by omega)⟩
    ·refine D_l1Any _ _ _ hb (by omega) (by omega) fun l p2 h1 h2 h4=>?_
     simp+contextual(maxSteps:=1000000)(disch:=omega)only[↓Sd,↓So,↓Sk,↓den,↓denA,Sa,Sb,Sc,Se,O1.d,O2.d,O3.d,cmI,arI,envOf,putN,↓reduceIte,Nat.reduceLT,Nat.reduceSub,Nat.reduceAdd,Int.reduceAdd,Int.reduceEq,Int.reduceLT,Int.reduceLE,arr_pos,arr_neg,↓wpJoin,]
     exact ⟨_,_,⟨rfl,rfl⟩,by simp only [List.length_append,List.length_singleton];omega,by omega,by omega,app l (by omega)⟩
   ·rintro us ⟨p2,F,rfl,a1,a2,a3,a4⟩
    simp+contextual(maxSteps:=1000000)(disch:=omega)only[↓Sd,↓So,↓Sk,↓den,↓denA,Sa,Sb,Sc,Se,O1.d,O2.d,O3.d,cmI,arI,envOf,putN,↓reduceIte,Nat.reduceLT,Nat.reduceSub,Nat.reduceAdd,Int.reduceAdd,Int.reduceEq,Int.reduceLT,Int.reduceLE,arr_pos,arr_neg,]
    exact ⟨k,by omega,p2,F,⟨rfl,rfl,rfl⟩,a1,a2,a3,a4⟩
 ·rintro us ⟨p1,F,rfl,a1,a2,a3,a4⟩
  simp+contextual(maxSteps:=1000000)(disch:=omega)only[↓Sd,↓So,↓Sk,↓den,↓denA,Sa,Sb,Sc,Se,O1.d,O2.d,O3.d,cmI,arI,envOf,putN,↓reduceIte,Nat.reduceLT,Nat.reduceSub,Nat.reduceAdd,Int.reduceAdd,Int.reduceEq,Int.reduceLT,Int.reduceLE,arr_pos,arr_neg,]
  exact h _ _ (by omega) a3 a4
theorem D_l20Draw (b:List Int) (p facts later:Int) (hb:Rdy b) (hp:0≤p∧p≤600000000) {Q:List AV→Prop} (h:∀(l:List Tm) (p':Int),p≤p'∧p'≤p+1000→2≤l.length→l.length≤8→Q [⟨L T4,l⟩,⟨RD,(b,p')⟩]):mc.C f_spec_l20Draw [⟨RD,(b,p)⟩,⟨I,facts⟩,⟨I,later⟩] Q:=by
 refine mc.c_of F_spec_l20Draw ?_
 simp+contextual(maxSteps:=1000000)(disch:=omega)only[↓Sd,↓So,↓Sk,↓den,↓denA,Sa,Sb,Sc,Se,O1.d,O2.d,O3.d,cmI,arI,envOf,putN,↓reduceIte,Nat.reduceLT,Nat.reduceSub,Nat.reduceAdd,Int.reduceAdd,Int.reduceEq,Int.reduceLT,Int.reduceLE,arr_pos,arr_neg,tr_spec_l20Draw]
 refine D_pick1 _ _ _ hb (by omega) (by omega) fun n n0 n1=>?_;simp+contextual(maxSteps:=1000000)(disch:=omega)only[↓Sd,↓So,↓Sk,↓den,↓denA,Sa,Sb,Sc,Se,O1.d,O2.d,O3.d,cmI,arI,envOf,putN,↓reduceIte,Nat.reduceLT,Nat.reduceSub,Nat.reduceAdd,Int.reduceAdd,Int.reduceEq,Int.reduceLT,Int.reduceLE,arr_pos,arr_neg,]
 obtain ⟨N,hN⟩:∃N:Nat,n=N:=⟨n.toNat,by omega⟩
 subst hN
 refine mc.lp_inv (fun k us=>∃(p1 later:Int) (l:List Tm),us=[⟨I,facts⟩,⟨I,later⟩,⟨I,(k:Int)⟩,⟨L U,b⟩,⟨I,p1⟩,⟨L T4,l⟩]∧l.length+k=2+N∧p≤p1∧p1+20 * k≤p+1+20 * (2+N)) (2+N) _ ⟨p+1,later,[],by simp,by simp,by omega,by omega⟩ ?_
 rintro k us ⟨p1,lt,l,rfl,i1,i2,i3⟩
 cases k with
 | zero =>
  simp+contextual(maxSteps:=1000000)(disch:=omega)only[↓Sd,↓So,↓Sk,↓den,↓denA,Sa,Sb,Sc,Se,O1.d,O2.d,O3.d,cmI,arI,envOf,putN,↓reduceIte,Nat.reduceLT,Nat.reduceSub,Nat.reduceAdd,Int.reduceAdd,Int.reduceEq,Int.reduceLT,Int.reduceLE,arr_pos,arr_neg,]
  exact h _ _ (by omega) (by omega) (by omega)
 | succ k =>
  simp+contextual(maxSteps:=1000000)(disch:=omega)only[↓Sd,↓So,↓Sk,↓den,↓denA,Sa,Sb,Sc,Se,O1.d,O2.d,O3.d,cmI,arI,envOf,putN,↓reduceIte,Nat.reduceLT,Nat.reduceSub,Nat.reduceAdd,Int.reduceAdd,Int.reduceEq,Int.reduceLT,Int.reduceLE,arr_pos,arr_neg,]
  refine D_num _ _ _ hb (by omega) (by simp) (by simp) fun o o0=>?_;simp+contextual(maxSteps:=1000000)(disch:=omega)only[↓Sd,↓So,↓Sk,↓den,↓denA,Sa,Sb,Sc,Se,O1.d,O2.d,O3.d,cmI,arI,envOf,putN,↓reduceIte,Nat.reduceLT,Nat.reduceSub,Nat.reduceAdd,Int.reduceAdd,Int.reduceEq,Int.reduceLT,Int.reduceLE,arr_pos,arr_neg,]
  refine mc.wp_join (fun us=>∃(o:Int),us=[⟨I,facts⟩,⟨I,lt⟩,⟨I,(k:Int)+1⟩,⟨I,o⟩,⟨L U,b⟩,⟨I,p1+1⟩,⟨L T4,l⟩]) ?_ ?_
  ·simp+contextual(maxSteps:=1000000)(disch:=omega)only[↓Sd,↓So,↓Sk,↓den,↓denA,Sa,Sb,Sc,Se,O1.d,O2.d,O3.d,cmI,arI,envOf,putN,↓reduceIte,Nat.reduceLT,Nat.reduceSub,Nat.reduceAdd,Int.reduceAdd,Int.reduceEq,Int.reduceLT,Int.reduceLE,arr_pos,arr_neg,]
   exact ⟨fun _=>⟨fun _=>⟨_,rfl⟩,fun _=>⟨_,rfl⟩⟩,fun _=>⟨_,rfl⟩⟩
  ·rintro us ⟨o,rfl⟩
   refine mc.wp_join (fun us=>∃(lt p2:Int) (t:Tm),us=[⟨I,facts⟩,⟨I,lt⟩,⟨I,(k:Int)+1⟩,⟨L U,b⟩,⟨I,p2⟩,⟨L T4,l⟩,⟨I,t.1⟩,⟨I,t.2.1⟩,⟨I,t.2.2.1⟩,⟨I,t.2.2.2⟩]∧p1≤p2∧p2≤p1+20) ?_ ?_
   ·simp+contextual(maxSteps:=1000000)(disch:=omega)only[↓Sd,↓So,↓Sk,↓den,↓denA,Sa,Sb,Sc,Se,O1.d,O2.d,O3.d,cmI,arI,envOf,putN,↓reduceIte,Nat.reduceLT,Nat.reduceSub,Nat.reduceAdd,Int.reduceAdd,Int.reduceEq,Int.reduceLT,Int.reduceLE,arr_pos,arr_neg,]
    refine ⟨fun g=>?_,fun g=>⟨fun g1=>?_,fun g1=>?_⟩⟩
    ·refine D_pick _ _ _ hb (by omega) fun v1 _ _=>?_
     simp+contextual(maxSteps:=1000000)(disch:=omega)only[↓Sd,↓So,↓Sk,↓den,↓denA,Sa,Sb,Sc,Se,O1.d,O2.d,O3.d,cmI,arI,envOf,putN,↓reduceIte,Nat.reduceLT,Nat.reduceSub,Nat.reduceAdd,Int.reduceAdd,Int.reduceEq,Int.reduceLT,Int.reduceLE,arr_pos,arr_neg,]
     exact ⟨fun _=>⟨_,_,(_,_,_,_),⟨rfl,rfl,rfl,rfl,rfl,rfl⟩,by omega,by omega⟩,fun _=>⟨fun _=>⟨_,_,(_,_,_,_),⟨rfl,rfl,rfl,rfl,rfl,rfl⟩,by omega,by omega⟩,fun _=>⟨_,_,(_,_,_,_),⟨rfl,rfl,rfl,rfl,rfl,rfl⟩,by omega,by omega⟩⟩⟩
    ·refine D_pick _ _ _ hb (by omega) fun v1 _ _=>?_
     simp+contextual(maxSteps:=1000000)(disch:=omega)only[↓Sd,↓So,↓Sk,↓den,↓denA,Sa,Sb,Sc,Se,O1.d,O2.d,O3.d,cmI,arI,envOf,putN,↓reduceIte,Nat.reduceLT,Nat.reduceSub,Nat.reduceAdd,Int.reduceAdd,Int.reduceEq,Int.reduceLT,Int.reduceLE,arr_pos,arr_neg,]
     exact ⟨fun _=>⟨_,_,(_,_,_,_),⟨rfl,rfl,rfl,rfl,rfl,rfl⟩,by omega,by omega⟩,fun _=>⟨fun _=>⟨_,_,(_,_,_,_),⟨rfl,rfl,rfl,rfl,rfl,rfl⟩,by omega,by omega⟩,fun _=>⟨_,_,(_,_,_,_),⟨rfl,rfl,rfl,rfl,rfl,rfl⟩,by omega,by omega⟩⟩⟩
    ·refine D_pick1 _ _ _ hb (by omega) (by omega) fun x x0 x1=>?_;simp+contextual(maxSteps:=1000000)(disch:=omega)only[↓Sd,↓So,↓Sk,↓den,↓denA,Sa,Sb,Sc,Se,O1.d,O2.d,O3.d,cmI,arI,envOf,putN,↓reduceIte,Nat.reduceLT,Nat.reduceSub,Nat.reduceAdd,Int.reduceAdd,Int.reduceEq,Int.reduceLT,Int.reduceLE,arr_pos,arr_neg,]
     refine D_pick1 _ _ _ hb (by omega) (by omega) fun y y0 y1=>?_;simp+contextual(maxSteps:=1000000)(disch:=omega)only[↓Sd,↓So,↓Sk,↓den,↓denA,Sa,Sb,Sc,Se,O1.d,O2.d,O3.d,cmI,arI,envOf,putN,↓reduceIte,Nat.reduceLT,Nat.reduceSub,Nat.reduceAdd,Int.reduceAdd,Int.reduceEq,Int.reduceLT,Int.reduceLE,arr_pos,arr_neg,]
     refine D_pick1 _ _ _ hb (by omega) (by omega) fun z z0 z1=>?_;simp+contextual(maxSteps:=1000000)(disch:=omega)only[↓Sd,↓So,↓Sk,↓den,↓denA,Sa,Sb,Sc,Se,O1.d,O2.d,O3.d,cmI,arI,envOf,putN,↓reduceIte,Nat.reduceLT,Nat.reduceSub,Nat.reduceAdd,Int.reduceAdd,Int.reduceEq,Int.reduceLT,Int.reduceLE,arr_pos,arr_neg,]
     refine mc.wp_join (fun us=>∃(a c:Int),us=[⟨I,facts⟩,⟨I,lt⟩,⟨I,(k:Int)+1⟩,⟨I,o⟩,⟨L U,b⟩,⟨I,p1+1+1+1+1⟩,⟨L T4,l⟩,⟨I,o⟩,⟨I,(0:Int)⟩,⟨I,a⟩,⟨I,c⟩]) ?_ ?_
     ·simp+contextual(maxSteps:=1000000)(disch:=omega)only[↓Sd,↓So,↓Sk,↓den,↓denA,Sa,Sb,Sc,Se,O1.d,O2.d,O3.d,cmI,arI,envOf,putN,↓reduceIte,Nat.reduceLT,Nat.reduceSub,Nat.reduceAdd,Int.reduceAdd,Int.reduceEq,Int.reduceLT,Int.reduceLE,arr_pos,arr_neg,C_spec_l20One]
      exact ⟨fun _=>⟨_,_,rfl,rfl⟩,fun _=>⟨_,_,rfl,rfl⟩⟩
     ·rintro us ⟨a,c,rfl⟩
      simp+contextual(maxSteps:=1000000)(disch:=omega)only[↓Sd,↓So,↓Sk,↓den,↓denA,Sa,Sb,Sc,Se,O1.d,O2.d,O3.d,cmI,arI,envOf,putN,↓reduceIte,Nat.reduceLT,Nat.reduceSub,Nat.reduceAdd,Int.reduceAdd,Int.reduceEq,Int.reduceLT,Int.reduceLE,arr_pos,arr_neg,]
      exact ⟨fun _=>⟨_,_,(_,_,_,_),⟨rfl,rfl,rfl,rfl,rfl,rfl⟩,by omega,by omega⟩,fun _=>⟨_,_,(_,_,_,_),⟨rfl,rfl,rfl,rfl,rfl,rfl⟩,by omega,by omega⟩⟩
   ·rintro us ⟨lt,p2,t,rfl,c1,c2⟩
    simp+contextual(maxSteps:=1000000)(disch:=omega)only[↓Sd,↓So,↓Sk,↓den,↓denA,Sa,Sb,Sc,Se,O1.d,O2.d,O3.d,cmI,arI,envOf,putN,↓reduceIte,Nat.reduceLT,Nat.reduceSub,Nat.reduceAdd,Int.reduceAdd,Int.reduceEq,Int.reduceLT,Int.reduceLE,arr_pos,arr_neg,]
    exact ⟨k,by omega,p2,lt,l++[t],⟨rfl,rfl,rfl,rfl⟩,by simp only [List.length_append,List.length_singleton];omega,by omega,by omega⟩
theorem D_l20Any (b:List Int) (p facts later:Int) (hb:Rdy b) (hp:0≤p∧p≤500000000) {Q:List AV→Prop} (h:∀(l:List Tm) (p':Int),p≤p'∧p'≤p+2000→2≤l.length→l.length≤8→Q [⟨L T4,l⟩,⟨RD,(b,p')⟩]):mc.C f_spec_l20Any [⟨RD,(b,p)⟩,⟨I,facts⟩,⟨I,later⟩] Q:=by
 refine mc.c_of F_spec_l20Any ?_
 simp+contextual(maxSteps:=1000000)(disch:=omega)only[↓Sd,↓So,↓Sk,↓den,↓denA,Sa,Sb,Sc,Se,O1.d,O2.d,O3.d,cmI,arI,envOf,putN,↓reduceIte,Nat.reduceLT,Nat.reduceSub,Nat.reduceAdd,Int.reduceAdd,Int.reduceEq,Int.reduceLT,Int.reduceLE,arr_pos,arr_neg,tr_spec_l20Any]
 refine D_l20Draw _ _ _ _ hb (by omega) fun l p1 hp1 h2 h8=>?_
 simp+contextual(maxSteps:=1000000)(disch:=omega)only[↓Sd,↓So,↓Sk,↓den,↓denA,Sa,Sb,Sc,Se,O1.d,O2.d,O3.d,cmI,arI,envOf,putN,↓reduceIte,Nat.reduceLT,Nat.reduceSub,Nat.reduceAdd,Int.reduceAdd,Int.reduceEq,Int.reduceLT,Int.reduceLE,arr_pos,arr_neg,]
 refine mc.wp_join (fun us=>∃(p1:Int) (l:List Tm),us=[⟨L U,b⟩,⟨I,p1⟩,⟨L T4,l⟩]∧p≤p1∧p1≤p+2000∧2≤l.length∧l.length≤8) ?_ ?_
 ·simp+contextual(maxSteps:=1000000)(disch:=omega)only[↓Sd,↓So,↓Sk,↓den,↓denA,Sa,Sb,Sc,Se,O1.d,O2.d,O3.d,cmI,arI,envOf,putN,↓reduceIte,Nat.reduceLT,Nat.reduceSub,Nat.reduceAdd,Int.reduceAdd,Int.reduceEq,Int.reduceLT,Int.reduceLE,arr_pos,arr_neg,]
  refine D_pick1 _ _ _ hb (by omega) (by omega) fun a a0 a1=>?_;simp+contextual(maxSteps:=1000000)(disch:=omega)only[↓Sd,↓So,↓Sk,↓den,↓denA,Sa,Sb,Sc,Se,O1.d,O2.d,O3.d,cmI,arI,envOf,putN,↓reduceIte,Nat.reduceLT,Nat.reduceSub,Nat.reduceAdd,Int.reduceAdd,Int.reduceEq,Int.reduceLT,Int.reduceLE,arr_pos,arr_neg,]
  refine ⟨fun _=>?_,fun _=>⟨_,_,⟨rfl,rfl⟩,by omega,by omega,by omega,by omega⟩⟩
  refine D_pick1 _ _ _ hb (by omega) (by omega) fun i i0 i1=>?_;simp+contextual(maxSteps:=1000000)(disch:=omega)only[↓Sd,↓So,↓Sk,↓den,↓denA,Sa,Sb,Sc,Se,O1.d,O2.d,O3.d,cmI,arI,envOf,putN,↓reduceIte,Nat.reduceLT,Nat.reduceSub,Nat.reduceAdd,Int.reduceAdd,Int.reduceEq,Int.reduceLT,Int.reduceLE,arr_pos,arr_neg,]
  refine D_pick1 _ _ _ hb (by omega) (by omega) fun c c0 c1=>?_;simp+contextual(maxSteps:=1000000)(disch:=omega)only[↓Sd,↓So,↓Sk,↓den,↓denA,Sa,Sb,Sc,Se,O1.d,O2.d,O3.d,cmI,arI,envOf,putN,↓reduceIte,Nat.reduceLT,Nat.reduceSub,Nat.reduceAdd,Int.reduceAdd,Int.reduceEq,Int.reduceLT,Int.reduceLE,arr_pos,arr_neg,]
  refine mc.wp_join (fun us=>∃(p2:Int) (t:Tm),us=[⟨I,i⟩,⟨L U,b⟩,⟨I,p2⟩,⟨L T4,l⟩,⟨I,t.1⟩,⟨I,t.2.1⟩,⟨I,t.2.2.1⟩,⟨I,t.2.2.2⟩]∧p1≤p2∧p2≤p1+20) ?_ ?_
  ·simp+contextual(maxSteps:=1000000)(disch:=omega)only[↓Sd,↓So,↓Sk,↓den,↓denA,Sa,Sb,Sc,Se,O1.d,O2.d,O3.d,cmI,arI,envOf,putN,↓reduceIte,Nat.reduceLT,Nat.reduceSub,Nat.reduceAdd,Int.reduceAdd,Int.reduceEq,Int.reduceLT,Int.reduceLE,arr_pos,arr_neg,]
   refine ⟨fun _=>?_,fun _=>⟨fun _=>?_,fun _=>⟨fun _=>?_,fun _=>?_⟩⟩⟩
   ·refine D_num _ _ _ hb (by omega) (by simp) (by simp) fun x x0=>?_;simp+contextual(maxSteps:=1000000)(disch:=omega)only[↓Sd,↓So,↓Sk,↓den,↓denA,Sa,Sb,Sc,Se,O1.d,O2.d,O3.d,cmI,arI,envOf,putN,↓reduceIte,Nat.reduceLT,Nat.reduceSub,Nat.reduceAdd,Int.reduceAdd,Int.reduceEq,Int.reduceLT,Int.reduceLE,arr_pos,arr_neg,]
    generalize l.getD i.toNat (0,0,0,0)=t0
    exact ⟨_,(x,t0.2.1,t0.2.2.1,t0.2.2.2),⟨rfl,rfl,rfl,rfl,rfl⟩,by omega,by omega⟩
   ·refine D_num _ _ _ hb (by omega) (by simp) (by simp) fun x x0=>?_;simp+contextual(maxSteps:=1000000)(disch:=omega)only[↓Sd,↓So,↓Sk,↓den,↓denA,Sa,Sb,Sc,Se,O1.d,O2.d,O3.d,cmI,arI,envOf,putN,↓reduceIte,Nat.reduceLT,Nat.reduceSub,Nat.reduceAdd,Int.reduceAdd,Int.reduceEq,Int.reduceLT,Int.reduceLE,arr_pos,arr_neg,]
    generalize l.getD i.toNat (0,0,0,0)=t0
    exact ⟨_,(t0.1,x,t0.2.2.1,t0.2.2.2),⟨rfl,rfl,rfl,rfl,rfl⟩,by omega,by omega⟩
   ·refine D_num _ _ _ hb (by omega) (by simp) (by simp) fun x x0=>?_;simp+contextual(maxSteps:=1000000)(disch:=omega)only[↓Sd,↓So,↓Sk,↓den,↓denA,Sa,Sb,Sc,Se,O1.d,O2.d,O3.d,cmI,arI,envOf,putN,↓reduceIte,Nat.reduceLT,Nat.reduceSub,Nat.reduceAdd,Int.reduceAdd,Int.reduceEq,Int.reduceLT,Int.reduceLE,arr_pos,arr_neg,]
    generalize l.getD i.toNat (0,0,0,0)=t0
    exact ⟨_,(t0.1,t0.2.1,x,t0.2.2.2),⟨rfl,rfl,rfl,rfl,rfl⟩,by omega,by omega⟩
   ·refine D_num _ _ _ hb (by omega) (by simp) (by simp) fun x x0=>?_;simp+contextual(maxSteps:=1000000)(disch:=omega)only[↓Sd,↓So,↓Sk,↓den,↓denA,Sa,Sb,Sc,Se,O1.d,O2.d,O3.d,cmI,arI,envOf,putN,↓reduceIte,Nat.reduceLT,Nat.reduceSub,Nat.reduceAdd,Int.reduceAdd,Int.reduceEq,Int.reduceLT,Int.reduceLE,arr_pos,arr_neg,]
    generalize l.getD i.toNat (0,0,0,0)=t0
    exact ⟨_,(t0.1,t0.2.1,t0.2.2.1,x),⟨rfl,rfl,rfl,rfl,rfl⟩,by omega,by omega⟩
  ·rintro us ⟨p2,t,rfl,c1,c2⟩
   simp+contextual(maxSteps:=1000000)(disch:=omega)only[↓Sd,↓So,↓Sk,↓den,↓denA,Sa,Sb,Sc,Se,O1.d,O2.d,O3.d,cmI,arI,envOf,putN,↓reduceIte,Nat.reduceLT,Nat.reduceSub,Nat.reduceAdd,Int.reduceAdd,Int.reduceEq,Int.reduceLT,Int.reduceLE,arr_pos,arr_neg,]
   exact ⟨_,_,⟨rfl,rfl⟩,by omega,by omega,by rw [List.length_set];omega,by rw [List.length_set];omega⟩
 ·rintro us ⟨p2,l,rfl,a1,a2,a3,a4⟩
  simp+contextual(maxSteps:=1000000)(disch:=omega)only[↓Sd,↓So,↓Sk,↓den,↓denA,Sa,Sb,Sc,Se,O1.d,O2.d,O3.d,cmI,arI,envOf,putN,↓reduceIte,Nat.reduceLT,Nat.reduceSub,Nat.reduceAdd,Int.reduceAdd,Int.reduceEq,Int.reduceLT,Int.reduceLE,arr_pos,arr_neg,]
  exact h _ _ (by omega) (by omega) (by omega)
theorem putM_ne {x:List Int}:∀{l:List (List Int)},putM x l≠[]
 | []=>by simp [putM]
 | y::l=>by
  simp only [putM]
  split
  ·simp
  ·split<;>simp
end Go.Proofs.YtdgpohclhppodaaGreat
