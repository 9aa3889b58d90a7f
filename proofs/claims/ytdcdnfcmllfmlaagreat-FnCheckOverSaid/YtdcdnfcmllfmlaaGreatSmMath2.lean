/- What the trees come to: plain mathematics; no condition. -/
import Derived.Test.YtdcdnfcmllfmlaaGreatSmMath1
namespace Go.Proofs.YtdcdnfcmllfmlaaGreat
open Go Go.Sm Go.Sm.Q
set_option linter.unusedSimpArgs false
set_option linter.unusedVariables false
theorem Rnd.visit {T:List (List Int)} {p:Nat→Bool} {n d a0 C y:Nat} {ag:Bool} {f:Nat→Int} (h:Rnd T p n d a0 C ag f) (ha:a0<n) (hfa:f a0=d) (hy:y<n) (hfy:f y<0) (hT:(y:Int)∈T.getD a0 []) :
  Rnd T p n d a0 C true (fun k=>if k=y then (d:Int)+1 else f k):=by
 have hay:¬a0=y:=by rintro rfl;omega
 have hc:cntF (fun k=>decide (0≤(if k=y then (d:Int)+1 else f k))) n+1=cntF (fun k=>decide (0≤f k)) n:=by
  have:=cntF_set (p:=fun k=>decide (0≤f k)) (j:=y) (by simp;omega) (n:=n) hy
  rw [←this]
  congr 1
  refine cntF_congr fun k _=>?_
  by_cases g:k=y
  ·simp [g];omega
  ·simp [g]
 have hcn:=h.cnt
 refine ⟨fun k hk=>?_,fun k hk=>?_,fun k hk h1=>?_,fun k hk=>?_,fun a h1 h2 h3 k hk=>?_,fun g=>(by cases g),by omega,fun _=>by omega⟩
 ·have:=h.ge k hk;split<;>omega
 ·have:=h.zero k hk
  split
  ·rename_i g;subst g
   constructor
   ·intro h1;omega
   ·intro h1;have:=this.2 h1;omega
  ·exact this
 ·by_cases g:k=y
  ·subst g
   exact ⟨a0,ha,by simp [hay,hfa],hT⟩
  ·simp only [g,if_false] at h1 ⊢
   obtain ⟨a,b1,b2,b3⟩:=h.pre k hk h1
   have:¬a=y:=by rintro rfl;omega
   exact ⟨a,b1,by simp [this,b2],b3⟩
 ·have:=h.le k hk;split<;>omega
 ·by_cases e1:a=y
  ·simp only [e1,if_true] at h3;omega
  ·simp only [e1,if_false] at h2 h3 ⊢
   have:=h.closed a h1 h2 h3 k hk
   have e2:¬k=y:=by rintro rfl;omega
   simp only [e2,if_false];exact this
theorem Rnd.skip {T:List (List Int)} {p:Nat→Bool} {n d a0 C:Nat} {ag:Bool} {f:Nat→Int} (h:Rnd T p n d a0 C ag f) (ht:Tbl T n) (hx:f a0=d→∀k:Nat,(k:Int)∈T.getD a0 []→0≤f k):Rnd T p n d (a0+1) C ag f:=by
 refine ⟨h.ge,h.zero,h.pre,h.le,fun a h1 h2 h3 k hk=>?_,h.none,h.cnt,h.less⟩
 by_cases e:a=a0
 ·subst e
  rcases h3 with h3 | h3
  ·exact h.closed a h1 h2 (.inl h3) k hk
  ·have h4:=ht.row _ hk
   have h5:=h.le k (by omega)
   exact ⟨hx h3.1 k hk,by omega⟩
 ·refine h.closed a h1 h2 (h3.imp_right fun h4=>⟨h4.1,?_⟩) k hk
  omega
theorem C_spec_l5Steps (T:List (List Int)) (p:Nat→Bool) (F:List Int) (n:Nat) (hn:n≤1000) (ht:Tbl T n) (hF:∀x∈F,0≤x∧x<n) (hp:∀k,k<n→(p k=true↔(k:Int)∈F)) (Q:List AV→Prop) :
  mc.C f_spec_l5Steps [⟨L (L I),T⟩,⟨L B,tab p n⟩] Q=Q [⟨L I,tab (dst T F) n⟩]:=by
 have hl:=ht.1
 refine Mc.Ends.c (mc.ends F_spec_l5Steps ?_)
 simp+contextual(maxSteps:=1000000)(disch:=omega)only[↓Sd,↓So,↓Sk,↓den,↓denA,Sa,Sb,Sc,Se,O1.d,O2.d,O3.d,cmI,arI,envOf,putN,↓reduceIte,Nat.reduceLT,Nat.reduceSub,Nat.reduceAdd,Int.reduceAdd,Int.reduceEq,Int.reduceLT,Int.reduceLE,arr_pos,arr_neg,tr_spec_l5Steps]
 refine mc.lp_for (List Int) (fun i o=>[⟨L (L I),T⟩,⟨L B,tab p n⟩,⟨I,(i:Int)⟩,⟨L I,o⟩]) (fun i o=>o=tab (fun k=>if p k=true then 0 else -1) i) n 0 [] _ rfl (Nat.zero_le _) rfl ?_ ?_
 ·rintro i o hi rfl
  simp+contextual(maxSteps:=1000000)(disch:=omega)only[↓Sd,↓So,↓Sk,↓den,↓denA,Sa,Sb,Sc,Se,O1.d,O2.d,O3.d,cmI,arI,envOf,putN,↓reduceIte,Nat.reduceLT,Nat.reduceSub,Nat.reduceAdd,Int.reduceAdd,Int.reduceEq,Int.reduceLT,Int.reduceLE,arr_pos,arr_neg,↓wpJoin,hl,tab_len,tab_get hi]
  refine ⟨fun g=>?_,fun g=>?_⟩
  ·rw [←tab_next];simp [g]
  ·rw [←tab_next];simp [g]
 rintro o rfl
 obtain ⟨f0,hf0⟩:∃f0:Nat→Int,(fun k=>if p k=true then (0:Int) else -1)=f0:=⟨_,rfl⟩
 have h0:∀k,(p k=true→f0 k=0)∧(¬p k=true→f0 k = -1):=fun k=>by rw [←hf0];exact ⟨fun g=>by simp [g],fun g=>by simp [g]⟩
 rw [hf0]
 clear hf0
 simp+contextual(maxSteps:=1000000)(disch:=omega)only[↓Sd,↓So,↓Sk,↓den,↓denA,Sa,Sb,Sc,Se,O1.d,O2.d,O3.d,cmI,arI,envOf,putN,↓reduceIte,Nat.reduceLT,Nat.reduceSub,Nat.reduceAdd,Int.reduceAdd,Int.reduceEq,Int.reduceLT,Int.reduceLE,arr_pos,arr_neg,hl]
 refine mc.lp_inv (fun j us=>∃(f:Nat→Int) (ag:Bool) (d:Nat),us=[⟨L (L I),T⟩,⟨B,ag⟩,⟨I,(d:Int)⟩,⟨L I,tab f n⟩]∧(∀k,k<n → -1≤f k)∧(∀k,k<n→(f k=0↔p k=true))∧(∀k,k<n→0<f k→∃a,a<n∧f a+1=f k∧(k:Int)∈T.getD a []) ∧
  (∀a,a<n→0≤f a→f a<d→∀k:Nat,(k:Int)∈T.getD a []→0≤f k∧f k≤f a+1)∧(∀k,k<n→f k≤d)∧(ag=false→∀k,k<n→f k<d)∧(ag=true→d+cntF (fun k=>decide (0≤f k)) n≤n) ∧
  j=if ag=true then cntF (fun k=>decide (0≤f k)) n+1 else 0) _ _ ⟨f0,true,0,rfl,fun k _=>?_,fun k _=>?_,fun k _ h=>?_,fun a _ h1 h2=>(by omega),fun k _=>?_,fun g=>(by cases g),fun _=>?_,rfl⟩ ?_
 ·have:=h0 k
  by_cases g:p k=true
  ·have:=this.1 g;omega
  ·have:=this.2 g;omega
 ·have:=h0 k
  by_cases g:p k=true
  ·simp [g,this.1 g]
  ·simp [g,this.2 g]
 ·have:=h0 k
  by_cases g:p k=true
  ·have:=this.1 g;omega
  ·have:=this.2 g;omega
 ·have:=h0 k
  by_cases g:p k=true
  ·have:=this.1 g;omega
  ·have:=this.2 g;omega
 ·have:cntF (fun k=>decide (0≤f0 k)) n≤n:=cntF_le
  omega
 rintro j us ⟨f,ag,d,rfl,i1,i2,i3,i4,i5,i6,i7,rfl⟩
 cases ag with
 | false =>
  simp+contextual(maxSteps:=1000000)(disch:=omega)only[↓Sd,↓So,↓Sk,↓den,↓denA,Sa,Sb,Sc,Se,O1.d,O2.d,O3.d,cmI,arI,envOf,putN,↓reduceIte,Nat.reduceLT,Nat.reduceSub,Nat.reduceAdd,Int.reduceAdd,Int.reduceEq,Int.reduceLT,Int.reduceLE,arr_pos,arr_neg,]
  exact tab_congr (IsDst.eq ht hF ⟨i1,fun k hk=>by rw [i2 k hk,hp k hk],i3,fun a ha h1 k hk=>i4 a ha h1 (i6 rfl a ha) k hk⟩)
 | true =>
  have i7:=i7 rfl
  simp+contextual(maxSteps:=1000000)(disch:=omega)only[↓Sd,↓So,↓Sk,↓den,↓denA,Sa,Sb,Sc,Se,O1.d,O2.d,O3.d,cmI,arI,envOf,putN,↓reduceIte,Nat.reduceLT,Nat.reduceSub,Nat.reduceAdd,Int.reduceAdd,Int.reduceEq,Int.reduceLT,Int.reduceLE,arr_pos,arr_neg,]
  generalize hC:cntF (fun k=>decide (0≤f k)) n=C at *
  refine mc.lp_for ((Nat→Int)×Bool) (fun a s=>[⟨L (L I),T⟩,⟨B,s.2⟩,⟨I,(d:Int)⟩,⟨I,(a:Int)⟩,⟨L I,tab s.1 n⟩]) (fun a s=>Rnd T p n d a C s.2 s.1) n 0 (f,false) _ rfl (Nat.zero_le _)
   ⟨i1,i2,i3,fun k hk=>Int.le_trans (i5 k hk) (by omega),fun a ha h1 h2 k hk=>i4 a ha h1 (h2.elim id fun h=>by omega) k hk,fun _=>i5,by rw [hC];exact Nat.le_refl _,fun g=>(by cases g)⟩ ?_ ?_
  ·rintro a0 ⟨f1,ag1⟩ ha0 hR
   simp only at hR
   obtain ⟨row,hr⟩:∃row,T.getD a0 []=row:=⟨_,rfl⟩
   have hrow:=ht.row (i:=a0)
   have hrl:(T.getD a0 []).length≤1048576:=(ht.2 _ (getD_mem (by omega))).1
   rw [hr] at hrow hrl
   simp+contextual(maxSteps:=1000000)(disch:=omega)only[↓Sd,↓So,↓Sk,↓den,↓denA,Sa,Sb,Sc,Se,O1.d,O2.d,O3.d,cmI,arI,envOf,putN,↓reduceIte,Nat.reduceLT,Nat.reduceSub,Nat.reduceAdd,Int.reduceAdd,Int.reduceEq,Int.reduceLT,Int.reduceLE,arr_pos,arr_neg,hl]
   refine mc.lp_for ((Nat→Int)×Bool) (fun i s=>[⟨L (L I),T⟩,⟨B,s.2⟩,⟨I,(d:Int)⟩,⟨I,(a0:Int)⟩,⟨I,(i:Int)⟩,⟨L I,tab s.1 n⟩]) (fun i s=>Rnd T p n d a0 C s.2 s.1∧∀k:Nat,(k:Int)∈row.take i→s.1 a0=d→0≤s.1 k) row.length 0 (f1,ag1) _ rfl (Nat.zero_le _) ⟨hR,by simp⟩ ?_ ?_
   ·rintro i ⟨f2,ag2⟩ hi ⟨b1,b2⟩
    simp only at b1 b2
    have hy:=hrow _ (getD_mem (d:=0) hi)
    obtain ⟨y,hy2⟩:∃y:Nat,row.getD i 0=y:=⟨(row.getD i 0).toNat,by omega⟩
    have hyn:y<n:=by omega
    have hwr:IntKind.i64.wrap ((d:Int)+1)=(d:Int)+1:=wrap_id (by omega) (by omega)
    simp+contextual(maxSteps:=1000000)(disch:=omega)only[↓Sd,↓So,↓Sk,↓den,↓denA,Sa,Sb,Sc,Se,O1.d,O2.d,O3.d,cmI,arI,envOf,putN,↓reduceIte,Nat.reduceLT,Nat.reduceSub,Nat.reduceAdd,Int.reduceAdd,Int.reduceEq,Int.reduceLT,Int.reduceLE,arr_pos,arr_neg,↓wpJoin,hl,hr,hy2,tab_len,tab_get hyn,tab_get ha0,Int.toNat_natCast,tab_set',hwr]
    refine ⟨fun g=>⟨fun g2=>?_,fun g2=>?_⟩,fun g=>?_⟩
    ·have hv:=b1.visit ha0 g hyn g2 (by rw [hr,←hy2];exact getD_mem hi)
     refine ⟨(fun k=>if k=y then (d:Int)+1 else f2 k,true),⟨rfl,rfl⟩,hv,fun k hk h3=>?_⟩
     simp only []
     split
     ·omega
     ·rename_i hky
      rcases (mem_take_next hi).1 hk with h | h
      ·exact b2 k h g
      ·exact absurd (by omega) hky
    ·refine ⟨(f2,ag2),⟨rfl,rfl⟩,b1,fun k hk h3=>?_⟩
     rcases (mem_take_next hi).1 hk with h | h
     ·exact b2 k h h3
     ·rw [show k=y by omega];simp only [];omega
    ·exact ⟨(f2,ag2),⟨rfl,rfl⟩,b1.skip ht fun h=>absurd h g⟩
   ·rintro ⟨f2,ag2⟩ ⟨b1,b2⟩
    rw [List.take_length] at b2
    simp only at b1 b2
    simp+contextual(maxSteps:=1000000)(disch:=omega)only[↓Sd,↓So,↓Sk,↓den,↓denA,Sa,Sb,Sc,Se,O1.d,O2.d,O3.d,cmI,arI,envOf,putN,↓reduceIte,Nat.reduceLT,Nat.reduceSub,Nat.reduceAdd,Int.reduceAdd,Int.reduceEq,Int.reduceLT,Int.reduceLE,arr_pos,arr_neg,hl,hr]
    exact ⟨(f2,ag2),⟨rfl,rfl⟩,b1.skip ht fun h k hk=>b2 k (by rw [←hr];exact hk) h⟩
  ·rintro ⟨f1,ag1⟩ hR
   simp only at hR
   have hwr:IntKind.i64.wrap ((d:Int)+1)=(d:Int)+1:=wrap_id (by omega) (by omega)
   simp+contextual(maxSteps:=1000000)(disch:=omega)only[↓Sd,↓So,↓Sk,↓den,↓denA,Sa,Sb,Sc,Se,O1.d,O2.d,O3.d,cmI,arI,envOf,putN,↓reduceIte,Nat.reduceLT,Nat.reduceSub,Nat.reduceAdd,Int.reduceAdd,Int.reduceEq,Int.reduceLT,Int.reduceLE,arr_pos,arr_neg,hl,hwr]
   have hcnt:=hR.cnt
   refine ⟨_,?_,f1,ag1,d+1,⟨rfl,by rw [Int.natCast_add];rfl,rfl⟩,hR.ge,hR.zero,hR.pre,fun a ha h1 h2 k hk=>hR.closed a ha h1 ?_ k hk,fun k hk=>?_,fun g k hk=>?_,fun g=>?_,rfl⟩
   ·cases ag1 with
    | true=>have:=hR.less rfl;simp only [if_true];omega
    | false=>simp
   ·by_cases g:f1 a<d
    ·exact .inl g
    ·exact .inr ⟨by omega,ha⟩
   ·have:=hR.le k hk;omega
   ·have:=hR.none g k hk;omega
   ·have:=hR.less g;omega
theorem Rch.trans {T:List (List Int)} {a b c:Nat} (h:Rch T [(a:Int)] b) (h2:Rch T [(b:Int)] c):Rch T [(a:Int)] c:=by
 induction h2 with
 | base h3=>simp only [List.mem_singleton] at h3;have h3:=Int.ofNat_inj.1 h3;subst h3;exact h
 | step _ h3 ih=>exact .step ih h3
theorem dst_le {T:List (List Int)} {F:List Int} {d k:Nat}:Lay T F d k↔0≤dst T F k∧dst T F k≤d:=by
 unfold dst
 constructor
 ·intro h
  have hh:∃d,Lay T F d k:=⟨d,h⟩
  rw [dif_pos hh]
  obtain ⟨b1,b2⟩:=Classical.choose_spec (least hh)
  generalize Classical.choose (least hh)=e at b1 b2
  have:¬d<e:=fun g=>b2 d g h
  omega
 ·rintro ⟨h1,h2⟩
  by_cases g:∃d,Lay T F d k
  ·rw [dif_pos g] at h1 h2
   obtain ⟨b1,-⟩:=Classical.choose_spec (least g)
   generalize Classical.choose (least g)=e at b1 h1 h2
   exact b1.up (by omega)
  ·rw [dif_neg g] at h1;omega
abbrev RD:Ty:=P (L U) I
def Byt (b:List Int):Prop:=∀x∈b,0≤x∧x≤255
def Rdy (b:List Int):Prop:=Byt b∧b.length≤2000
theorem Byt.get {b:List Int} (h:Byt b) (i:Nat):0≤b.getD i 0∧b.getD i 0≤255:=by
 by_cases hi:i<b.length
 ·exact h _ (getD_mem hi)
 ·rw [List.getD_eq_getElem?_getD,List.getElem?_eq_none (by omega)];simp
theorem xor_bd {x y:Int} (hx:0≤x∧x<1099511627776) (hy:0≤y∧y<1099511627776):0≤IntKind.i64.wrap ((BitVec.ofInt IntKind.i64.bits x ^^^ BitVec.ofInt IntKind.i64.bits y).toNat:Int):=by
 have e:∀z:Int,0≤z∧z<1099511627776→(BitVec.ofInt IntKind.i64.bits z).toNat<2 ^ 40:=by
  intro z hz
  rw [BitVec.toNat_ofInt]
  show Int.toNat (z % (2:Int) ^ 64)<2 ^ 40
  omega
 have h:(BitVec.ofInt IntKind.i64.bits x ^^^ BitVec.ofInt IntKind.i64.bits y).toNat<2 ^ 40:=by
  rw [BitVec.toNat_xor]
  exact Nat.xor_lt_two_pow (e x hx) (e y hy)
 rw [wrap_id (by omega) (by omega)]
 omega
theorem D_pick (b:List Int) (p n:Int) (hb:Rdy b) (hp:0≤p∧p≤1000000000) {Q:List AV→Prop} (h:∀v:Int,0≤v→(1≤n→v<n)→Q [⟨I,v⟩,⟨RD,(b,p+1)⟩]):mc.C f_spec_l40Rd_pick [⟨RD,(b,p)⟩,⟨I,n⟩] Q:=by
 refine mc.c_of F_spec_l40Rd_pick ?_
 have hl:=hb.2
 simp+contextual(maxSteps:=1000000)(disch:=omega)only[↓Sd,↓So,↓Sk,↓den,↓denA,Sa,Sb,Sc,Se,O1.d,O2.d,O3.d,cmI,arI,envOf,putN,↓reduceIte,Nat.reduceLT,Nat.reduceSub,Nat.reduceAdd,Int.reduceAdd,Int.reduceEq,Int.reduceLT,Int.reduceLE,arr_pos,arr_neg,tr_spec_l40Rd_pick]
 refine ⟨fun g=>h 0 (by omega) (by omega),fun g=>⟨fun g2=>h 0 (by omega) (by omega),fun g2=>?_⟩⟩
 have hn:1≤n:=by omega
 have hlb:0<(b.length:Int):=by omega
 refine ⟨fun g3=>?_,fun g3=>?_⟩
 ·have h1:=hb.1.get p.toNat
  rw [wrap_id (by omega) (by omega),Int.tmod_eq_emod_of_nonneg h1.1]
  exact h _ (Int.emod_nonneg _ (by omega)) fun _=>Int.emod_lt_of_pos _ (by omega)
 ·have a1:=Int.emod_nonneg p (show (b.length:Int)≠0 by omega)
  have a2:=Int.emod_lt_of_pos p hlb
  have a3:=Int.emod_nonneg (p * 7+3) (show (b.length:Int)≠0 by omega)
  have a4:=Int.emod_lt_of_pos (p * 7+3) hlb
  have a5:=Int.ediv_nonneg hp.1 (Int.le_of_lt hlb)
  have a6:=Int.ediv_le_self (b.length:Int) hp.1
  have h1:=hb.1.get (p % (b.length:Int)).toNat
  have h2:=hb.1.get ((p * 7+3) % (b.length:Int)).toNat
  refine ⟨a1,a2,a3,a4,?_⟩
  generalize b.getD (p % (b.length:Int)).toNat 0=x1 at *
  generalize b.getD ((p * 7+3) % (b.length:Int)).toNat 0=x2 at *
  generalize p / (b.length:Int)=x3 at *
  rw [wrap_id (x:=x1) (by omega) (by omega),wrap_id (x:=x2) (by omega) (by omega),wrap_id (x:=x3) (by omega) (by omega),wrap_id (x:=x1 * 131) (by omega) (by omega),wrap_id (x:=x2 * 1117) (by omega) (by omega),wrap_id (x:=x1 * 131+x2 * 1117) (by omega) (by omega),wrap_id (x:=x1 * 131+x2 * 1117+p * 29) (by omega) (by omega),wrap_id (x:=x3 * 53) (by omega) (by omega),wrap_id (x:=x1 * 131+x2 * 1117+p * 29+x3 * 53) (by omega) (by omega)]
  obtain ⟨y,hy⟩:∃y,x1 * 131+x2 * 1117+p * 29+x3 * 53=y:=⟨_,rfl⟩
  have hyb:0≤y∧y<1099511627776:=by omega
  rw [hy,Int.tdiv_eq_ediv_of_nonneg hyb.1,wrap_id (x:=y / 64) (by omega) (by omega)]
  have h4:=xor_bd hyb (y:=y / 64) (by omega)
  rw [Int.tmod_eq_emod_of_nonneg h4]
  exact h _ (Int.emod_nonneg _ (by omega)) fun _=>Int.emod_lt_of_pos _ (by omega)
theorem D_pick1 (b:List Int) (p n:Int) (hb:Rdy b) (hp:0≤p∧p≤1000000000) (hn:1≤n) {Q:List AV→Prop} (h:∀v:Int,0≤v→v<n→Q [⟨I,v⟩,⟨RD,(b,p+1)⟩]):mc.C f_spec_l40Rd_pick [⟨RD,(b,p)⟩,⟨I,n⟩] Q:=D_pick b p n hb hp fun v h0 h1=>h v h0 (h1 hn)
theorem D_num (b:List Int) (p:Int) (l:List Int) (hb:Rdy b) (hp:0≤p∧p≤1000000000) (hl:l≠[]) (hl2:l.length≤1048576) {Q:List AV→Prop} (h:∀v:Int,v∈l→Q [⟨I,v⟩,⟨RD,(b,p+1)⟩]):mc.C f_spec_l40Rd_num [⟨RD,(b,p)⟩,⟨L I,l⟩] Q:=by
 have hl1:0<l.length:=List.length_pos_iff.2 hl
 refine mc.c_of F_spec_l40Rd_num ?_
 simp+contextual(maxSteps:=1000000)(disch:=omega)only[↓Sd,↓So,↓Sk,↓den,↓denA,Sa,Sb,Sc,Se,O1.d,O2.d,O3.d,cmI,arI,envOf,putN,↓reduceIte,Nat.reduceLT,Nat.reduceSub,Nat.reduceAdd,Int.reduceAdd,Int.reduceEq,Int.reduceLT,Int.reduceLE,arr_pos,arr_neg,tr_spec_l40Rd_num]
 refine D_pick1 b p _ hb hp (by omega) fun v h0 h1=>?_
 simp+contextual(maxSteps:=1000000)(disch:=omega)only[↓Sd,↓So,↓Sk,↓den,↓denA,Sa,Sb,Sc,Se,O1.d,O2.d,O3.d,cmI,arI,envOf,putN,↓reduceIte,Nat.reduceLT,Nat.reduceSub,Nat.reduceAdd,Int.reduceAdd,Int.reduceEq,Int.reduceLT,Int.reduceLE,arr_pos,arr_neg,]
 exact h _ (getD_mem (by omega))
theorem D_open (b:List Int) (hb:Byt b) (hl:Lt63 b) {Q:List AV→Prop} (h:∀b',Rdy b'→Q [⟨RD,(b',0)⟩]):mc.C f_spec_l40Open [⟨L U,b⟩] Q:=by
 unfold Lt63 at hl
 refine mc.c_of F_spec_l40Open ?_
 simp+contextual(maxSteps:=1000000)(disch:=omega)only[↓Sd,↓So,↓Sk,↓den,↓denA,Sa,Sb,Sc,Se,O1.d,O2.d,O3.d,cmI,arI,envOf,putN,↓reduceIte,Nat.reduceLT,Nat.reduceSub,Nat.reduceAdd,Int.reduceAdd,Int.reduceEq,Int.reduceLT,Int.reduceLE,arr_pos,arr_neg,↓wpJoin,tr_spec_l40Open]
 refine ⟨fun g=>?_,fun g=>h b ⟨hb,by omega⟩⟩
 refine h _ ⟨fun x hx=>hb x ?_,?_⟩
 ·exact List.mem_of_mem_take hx
 ·rw [List.length_take];omega
theorem D_l1Number (b:List Int) (p:Int) (hb:Rdy b) (hp:0≤p∧p≤900000000) {Q:List AV→Prop} (h:∀v p':Int,p≤p'∧p'≤p+6→Q [⟨I,v⟩,⟨RD,(b,p')⟩]):mc.C f_spec_l1Number [⟨RD,(b,p)⟩] Q:=by
 refine mc.c_of F_spec_l1Number ?_
 simp+contextual(maxSteps:=1000000)(disch:=omega)only[↓Sd,↓So,↓Sk,↓den,↓denA,Sa,Sb,Sc,Se,O1.d,O2.d,O3.d,cmI,arI,envOf,putN,↓reduceIte,Nat.reduceLT,Nat.reduceSub,Nat.reduceAdd,Int.reduceAdd,Int.reduceEq,Int.reduceLT,Int.reduceLE,arr_pos,arr_neg,tr_spec_l1Number]
 refine D_pick1 _ _ _ hb (by omega) (by omega) fun v1 v10 v11=>?_;simp+contextual(maxSteps:=1000000)(disch:=omega)only[↓Sd,↓So,↓Sk,↓den,↓denA,Sa,Sb,Sc,Se,O1.d,O2.d,O3.d,cmI,arI,envOf,putN,↓reduceIte,Nat.reduceLT,Nat.reduceSub,Nat.reduceAdd,Int.reduceAdd,Int.reduceEq,Int.reduceLT,Int.reduceLE,arr_pos,arr_neg,]
 refine D_pick1 _ _ _ hb (by omega) (by omega) fun v2 v20 v21=>?_;simp+contextual(maxSteps:=1000000)(disch:=omega)only[↓Sd,↓So,↓Sk,↓den,↓denA,Sa,Sb,Sc,Se,O1.d,O2.d,O3.d,cmI,arI,envOf,putN,↓reduceIte,Nat.reduceLT,Nat.reduceSub,Nat.reduceAdd,Int.reduceAdd,Int.reduceEq,Int.reduceLT,Int.reduceLE,arr_pos,arr_neg,]
 refine D_pick1 _ _ _ hb (by omega) (by omega) fun v3 v30 v31=>?_;simp+contextual(maxSteps:=1000000)(disch:=omega)only[↓Sd,↓So,↓Sk,↓den,↓denA,Sa,Sb,Sc,Se,O1.d,O2.d,O3.d,cmI,arI,envOf,putN,↓reduceIte,Nat.reduceLT,Nat.reduceSub,Nat.reduceAdd,Int.reduceAdd,Int.reduceEq,Int.reduceLT,Int.reduceLE,arr_pos,arr_neg,]
 refine D_pick1 _ _ _ hb (by omega) (by omega) fun v4 v40 v41=>?_;simp+contextual(maxSteps:=1000000)(disch:=omega)only[↓Sd,↓So,↓Sk,↓den,↓denA,Sa,Sb,Sc,Se,O1.d,O2.d,O3.d,cmI,arI,envOf,putN,↓reduceIte,Nat.reduceLT,Nat.reduceSub,Nat.reduceAdd,Int.reduceAdd,Int.reduceEq,Int.reduceLT,Int.reduceLE,arr_pos,arr_neg,]
 refine D_pick1 _ _ _ hb (by omega) (by omega) fun v5 v50 v51=>?_;simp+contextual(maxSteps:=1000000)(disch:=omega)only[↓Sd,↓So,↓Sk,↓den,↓denA,Sa,Sb,Sc,Se,O1.d,O2.d,O3.d,cmI,arI,envOf,putN,↓reduceIte,Nat.reduceLT,Nat.reduceSub,Nat.reduceAdd,Int.reduceAdd,Int.reduceEq,Int.reduceLT,Int.reduceLE,arr_pos,arr_neg,]
 refine D_num _ _ _ hb (by omega) (by simp) (by simp) fun v v0=>?_;simp+contextual(maxSteps:=1000000)(disch:=omega)only[↓Sd,↓So,↓Sk,↓den,↓denA,Sa,Sb,Sc,Se,O1.d,O2.d,O3.d,cmI,arI,envOf,putN,↓reduceIte,Nat.reduceLT,Nat.reduceSub,Nat.reduceAdd,Int.reduceAdd,Int.reduceEq,Int.reduceLT,Int.reduceLE,arr_pos,arr_neg,]
 exact h v _ (by omega)
theorem D_l1Pick (b:List Int) (p:Int) (ks:List Int) (kind:Int) (hb:Rdy b) (hp:0≤p∧p≤900000000) (hk:0<ks.length) (hk2:ks.length≤1000) {Q:List AV→Prop} (h:∀v:Int,-1≤v∧v<ks.length→Q [⟨I,v⟩,⟨RD,(b,p+1)⟩]):mc.C f_spec_l1Pick [⟨RD,(b,p)⟩,⟨L I,ks⟩,⟨I,kind⟩] Q:=by
 refine mc.c_of F_spec_l1Pick ?_
 simp+contextual(maxSteps:=1000000)(disch:=omega)only[↓Sd,↓So,↓Sk,↓den,↓denA,Sa,Sb,Sc,Se,O1.d,O2.d,O3.d,cmI,arI,envOf,putN,↓reduceIte,Nat.reduceLT,Nat.reduceSub,Nat.reduceAdd,Int.reduceAdd,Int.reduceEq,Int.reduceLT,Int.reduceLE,arr_pos,arr_neg,tr_spec_l1Pick]
 refine D_pick1 _ _ _ hb (by omega) (by omega) fun a a0 a1=>?_;simp+contextual(maxSteps:=1000000)(disch:=omega)only[↓Sd,↓So,↓Sk,↓den,↓denA,Sa,Sb,Sc,Se,O1.d,O2.d,O3.d,cmI,arI,envOf,putN,↓reduceIte,Nat.reduceLT,Nat.reduceSub,Nat.reduceAdd,Int.reduceAdd,Int.reduceEq,Int.reduceLT,Int.reduceLE,arr_pos,arr_neg,]
 refine mc.lp_for Unit (fun i _=>[⟨L I,ks⟩,⟨I,kind⟩,⟨I,a⟩,⟨I,(i:Int)⟩,⟨L U,b⟩,⟨I,p+1⟩]) (fun _ _=>True) ks.length 0 () _ rfl (Nat.zero_le _) trivial ?_ ?_
 ·rintro i - hi -
  have a1:=Int.emod_nonneg (a+(i:Int)) (show (ks.length:Int)≠0 by omega)
  have a2:=Int.emod_lt_of_pos (a+(i:Int)) (show 0<(ks.length:Int) by omega)
  simp+contextual(maxSteps:=1000000)(disch:=omega)only[↓Sd,↓So,↓Sk,↓den,↓denA,Sa,Sb,Sc,Se,O1.d,O2.d,O3.d,cmI,arI,envOf,putN,↓reduceIte,Nat.reduceLT,Nat.reduceSub,Nat.reduceAdd,Int.reduceAdd,Int.reduceEq,Int.reduceLT,Int.reduceLE,arr_pos,arr_neg,]
  exact fun _=>h _ (by omega)
 ·rintro - -
  simp+contextual(maxSteps:=1000000)(disch:=omega)only[↓Sd,↓So,↓Sk,↓den,↓denA,Sa,Sb,Sc,Se,O1.d,O2.d,O3.d,cmI,arI,envOf,putN,↓reduceIte,Nat.reduceLT,Nat.reduceSub,Nat.reduceAdd,Int.reduceAdd,Int.reduceEq,Int.reduceLT,Int.reduceLE,arr_pos,arr_neg,]
  exact h _ (by omega)
theorem C_spec_l2VarOf (n:Int) (Q:List AV→Prop):mc.C f_spec_l2VarOf [⟨I,n⟩] Q=Q [⟨I,1⟩,⟨I,n⟩,⟨I,0⟩,⟨I,0⟩]:=Mc.Ends.c (mc.ends F_spec_l2VarOf (by simp+contextual(maxSteps:=1000000)(disch:=omega)only[↓Sd,↓So,↓Sk,↓den,↓denA,Sa,Sb,Sc,Se,O1.d,O2.d,O3.d,cmI,arI,envOf,putN,↓reduceIte,Nat.reduceLT,Nat.reduceSub,Nat.reduceAdd,Int.reduceAdd,Int.reduceEq,Int.reduceLT,Int.reduceLE,arr_pos,arr_neg,tr_spec_l2VarOf]))
theorem C_spec_l2Const (n:Int) (Q:List AV→Prop):mc.C f_spec_l2Const [⟨I,n⟩] Q=Q [⟨I,0⟩,⟨I,n⟩,⟨I,0⟩,⟨I,0⟩]:=Mc.Ends.c (mc.ends F_spec_l2Const (by simp+contextual(maxSteps:=1000000)(disch:=omega)only[↓Sd,↓So,↓Sk,↓den,↓denA,Sa,Sb,Sc,Se,O1.d,O2.d,O3.d,cmI,arI,envOf,putN,↓reduceIte,Nat.reduceLT,Nat.reduceSub,Nat.reduceAdd,Int.reduceAdd,Int.reduceEq,Int.reduceLT,Int.reduceLE,arr_pos,arr_neg,tr_spec_l2Const]))
theorem D_l2Cond (b:List Int) (p:Int) (v:Vr) (at_:Int) (hb:Rdy b) (hp:0≤p∧p≤900000000) {Q:List AV→Prop} (h:∀(l:List Tm) (p':Int),p≤p'∧p'≤p+3→l.length≤4→Q [⟨L T4,l⟩,⟨RD,(b,p')⟩]):mc.C f_spec_l2Cond [⟨RD,(b,p)⟩,⟨I,v.1⟩,⟨I,v.2.1⟩,⟨I,v.2.2⟩,⟨I,at_⟩] Q:=by
 refine mc.c_of F_spec_l2Cond ?_
 simp+contextual(maxSteps:=1000000)(disch:=omega)only[↓Sd,↓So,↓Sk,↓den,↓denA,Sa,Sb,Sc,Se,O1.d,O2.d,O3.d,cmI,arI,envOf,putN,↓reduceIte,Nat.reduceLT,Nat.reduceSub,Nat.reduceAdd,Int.reduceAdd,Int.reduceEq,Int.reduceLT,Int.reduceLE,arr_pos,arr_neg,tr_spec_l2Cond]
 refine D_pick _ _ _ hb (by omega) fun n _ _=>?_
 simp+contextual(maxSteps:=1000000)(disch:=omega)only[↓Sd,↓So,↓Sk,↓den,↓denA,Sa,Sb,Sc,Se,O1.d,O2.d,O3.d,cmI,arI,envOf,putN,↓reduceIte,Nat.reduceLT,Nat.reduceSub,Nat.reduceAdd,Int.reduceAdd,Int.reduceEq,Int.reduceLT,Int.reduceLE,arr_pos,arr_neg,↓wpJoin,]
 refine D_num _ _ _ hb (by omega) (by simp) (by simp) fun o o0=>?_;simp+contextual(maxSteps:=1000000)(disch:=omega)only[↓Sd,↓So,↓Sk,↓den,↓denA,Sa,Sb,Sc,Se,O1.d,O2.d,O3.d,cmI,arI,envOf,putN,↓reduceIte,Nat.reduceLT,Nat.reduceSub,Nat.reduceAdd,Int.reduceAdd,Int.reduceEq,Int.reduceLT,Int.reduceLE,arr_pos,arr_neg,]
 simp+contextual(maxSteps:=1000000)(disch:=omega)only[↓Sd,↓So,↓Sk,↓den,↓denA,Sa,Sb,Sc,Se,O1.d,O2.d,O3.d,cmI,arI,envOf,putN,↓reduceIte,Nat.reduceLT,Nat.reduceSub,Nat.reduceAdd,Int.reduceAdd,Int.reduceEq,Int.reduceLT,Int.reduceLE,arr_pos,arr_neg,↓wpJoin,C_spec_l2VarOf,C_spec_l2Const]
 refine D_pick1 _ _ _ hb (by omega) (by omega) fun k k0 k1=>?_;simp+contextual(maxSteps:=1000000)(disch:=omega)only[↓Sd,↓So,↓Sk,↓den,↓denA,Sa,Sb,Sc,Se,O1.d,O2.d,O3.d,cmI,arI,envOf,putN,↓reduceIte,Nat.reduceLT,Nat.reduceSub,Nat.reduceAdd,Int.reduceAdd,Int.reduceEq,Int.reduceLT,Int.reduceLE,arr_pos,arr_neg,]
 exact ⟨fun _=>h _ _ (by omega) (by simp),fun _=>h _ _ (by omega) (by simp)⟩
def mvT (t:Tm) (n:Int):Tm:=if 2≤t.1 then (t.1,0,IntKind.i64.wrap (t.2.2.1+n),IntKind.i64.wrap (t.2.2.2+n)) else t
theorem C_spec_l1Moved (t:Tm) (n:Int) (Q:List AV→Prop):mc.C f_spec_l1Moved [⟨I,t.1⟩,⟨I,t.2.1⟩,⟨I,t.2.2.1⟩,⟨I,t.2.2.2⟩,⟨I,n⟩] Q=Q [⟨I,(mvT t n).1⟩,⟨I,(mvT t n).2.1⟩,⟨I,(mvT t n).2.2.1⟩,⟨I,(mvT t n).2.2.2⟩]:=by
 refine Mc.Ends.c (mc.ends F_spec_l1Moved ?_)
 unfold mvT
 by_cases g:2≤t.1
 ·rw [if_pos g]
  simp+contextual(maxSteps:=1000000)(disch:=omega)only[↓Sd,↓So,↓Sk,↓den,↓denA,Sa,Sb,Sc,Se,O1.d,O2.d,O3.d,cmI,arI,envOf,putN,↓reduceIte,Nat.reduceLT,Nat.reduceSub,Nat.reduceAdd,Int.reduceAdd,Int.reduceEq,Int.reduceLT,Int.reduceLE,arr_pos,arr_neg,tr_spec_l1Moved]
 ·rw [if_neg g]
  simp+contextual(maxSteps:=1000000)(disch:=omega)only[↓Sd,↓So,↓Sk,↓den,↓denA,Sa,Sb,Sc,Se,O1.d,O2.d,O3.d,cmI,arI,envOf,putN,↓reduceIte,Nat.reduceLT,Nat.reduceSub,Nat.reduceAdd,Int.reduceAdd,Int.reduceEq,Int.reduceLT,Int.reduceLE,arr_pos,arr_neg,tr_spec_l1Moved]
theorem C_spec_TermsValid (l:List Tm) (vars:Int) (hl:Few l) (Q:List AV→Prop):mc.C f_spec_TermsValid [⟨L T4,l⟩,⟨I,vars⟩] Q=Q [⟨B,decide (((kdsOf l vars).length:Int) > 0)⟩]:=by
 refine Mc.Ends.c (mc.ends F_spec_TermsValid ?_)
 simp+contextual(maxSteps:=1000000)(disch:=omega)only[↓Sd,↓So,↓Sk,↓den,↓denA,Sa,Sb,Sc,Se,O1.d,O2.d,O3.d,cmI,arI,envOf,putN,↓reduceIte,Nat.reduceLT,Nat.reduceSub,Nat.reduceAdd,Int.reduceAdd,Int.reduceEq,Int.reduceLT,Int.reduceLE,arr_pos,arr_neg,tr_spec_TermsValid,C_spec_KindsOf l vars hl]
theorem D_Joined (o:Int) (l m:List Tm) (vars:Int) (hl:l.length≤1000) (hm:m.length≤1000) {Q:List AV→Prop} (h:∀(r:List Tm),r.length≤l.length+m.length+1→Q [⟨L T4,r⟩]):mc.C f_spec_Joined [⟨I,o⟩,⟨L T4,l⟩,⟨L T4,m⟩,⟨I,vars⟩] Q:=by
 have h1:Few l:=by unfold Few;omega
 have h2:Few m:=by unfold Few;omega
 refine mc.c_of F_spec_Joined ?_
 simp+contextual(maxSteps:=1000000)(disch:=omega)only[↓Sd,↓So,↓Sk,↓den,↓denA,Sa,Sb,Sc,Se,O1.d,O2.d,O3.d,cmI,arI,envOf,putN,↓reduceIte,Nat.reduceLT,Nat.reduceSub,Nat.reduceAdd,Int.reduceAdd,Int.reduceEq,Int.reduceLT,Int.reduceLE,arr_pos,arr_neg,tr_spec_Joined,C_spec_TermsValid l vars h1,C_spec_TermsValid m vars h2]
 refine ⟨fun _=>h _ (by simp),fun _=>⟨fun _=>h _ (by simp),fun _=>?_⟩⟩
 refine mc.lp_for (List Tm) (fun i s=>[⟨I,o⟩,⟨L T4,l⟩,⟨L T4,m⟩,⟨I,vars⟩,⟨I,(i:Int)⟩,⟨L T4,s⟩]) (fun i s=>s.length=i) l.length 0 [] _ rfl (Nat.zero_le _) rfl ?_ ?_
 ·rintro i s hi hs
  simp+contextual(maxSteps:=1000000)(disch:=omega)only[↓Sd,↓So,↓Sk,↓den,↓denA,Sa,Sb,Sc,Se,O1.d,O2.d,O3.d,cmI,arI,envOf,putN,↓reduceIte,Nat.reduceLT,Nat.reduceSub,Nat.reduceAdd,Int.reduceAdd,Int.reduceEq,Int.reduceLT,Int.reduceLE,arr_pos,arr_neg,]
  omega
 rintro s hs
 simp+contextual(maxSteps:=1000000)(disch:=omega)only[↓Sd,↓So,↓Sk,↓den,↓denA,Sa,Sb,Sc,Se,O1.d,O2.d,O3.d,cmI,arI,envOf,putN,↓reduceIte,Nat.reduceLT,Nat.reduceSub,Nat.reduceAdd,Int.reduceAdd,Int.reduceEq,Int.reduceLT,Int.reduceLE,arr_pos,arr_neg,↓wpJoin,]
 refine mc.lp_for (List Tm) (fun i s=>[⟨I,o⟩,⟨L T4,l⟩,⟨L T4,m⟩,⟨I,vars⟩,⟨I,(i:Int)⟩,⟨L T4,s⟩]) (fun i s=>s.length≤l.length+i) m.length 0 s _ rfl (Nat.zero_le _) (by omega) ?_ ?_
 ·rintro i s hi hs
  simp+contextual(maxSteps:=1000000)(disch:=omega)only[↓Sd,↓So,↓Sk,↓den,↓denA,Sa,Sb,Sc,Se,O1.d,O2.d,O3.d,cmI,arI,envOf,putN,↓reduceIte,Nat.reduceLT,Nat.reduceSub,Nat.reduceAdd,Int.reduceAdd,Int.reduceEq,Int.reduceLT,Int.reduceLE,arr_pos,arr_neg,C_spec_l1One,C_spec_l1Moved]
  refine ⟨fun _=>by omega,fun g=>?_⟩
  have hf:Few (s++[((7:Int),(0:Int),(l.length:Int) - 1,(s.length:Int) - 1)]):=by unfold Few;simp only [List.length_append,List.length_singleton];omega
  simp+contextual(maxSteps:=1000000)(disch:=omega)only[↓Sd,↓So,↓Sk,↓den,↓denA,Sa,Sb,Sc,Se,O1.d,O2.d,O3.d,cmI,arI,envOf,putN,↓reduceIte,Nat.reduceLT,Nat.reduceSub,Nat.reduceAdd,Int.reduceAdd,Int.reduceEq,Int.reduceLT,Int.reduceLE,arr_pos,arr_neg,C_spec_TermsValid _ vars hf]
  exact ⟨fun _=>h _ (by simp),fun _=>h _ (by simp only [List.length_append,List.length_singleton];omega)⟩
 ·rintro s hs
  simp+contextual(maxSteps:=1000000)(disch:=omega)only[↓Sd,↓So,↓Sk,↓den,↓denA,Sa,Sb,Sc,Se,O1.d,O2.d,O3.d,cmI,arI,envOf,putN,↓reduceIte,Nat.reduceLT,Nat.reduceSub,Nat.reduceAdd,Int.reduceAdd,Int.reduceEq,Int.reduceLT,Int.reduceLE,arr_pos,arr_neg,]
  refine ⟨fun _=>h _ (by simp),fun _=>?_⟩
  have hf:Few (s++[(o,(0:Int),(l.length:Int) - 1,(s.length:Int) - 1)]):=by unfold Few;simp only [List.length_append,List.length_singleton];omega
  simp+contextual(maxSteps:=1000000)(disch:=omega)only[↓Sd,↓So,↓Sk,↓den,↓denA,Sa,Sb,Sc,Se,O1.d,O2.d,O3.d,cmI,arI,envOf,putN,↓reduceIte,Nat.reduceLT,Nat.reduceSub,Nat.reduceAdd,Int.reduceAdd,Int.reduceEq,Int.reduceLT,Int.reduceLE,arr_pos,arr_neg,C_spec_TermsValid _ vars hf]
  exact ⟨fun _=>h _ (by simp),fun _=>h _ (by simp only [List.length_append,List.length_singleton];omega)⟩
theorem D_l2When (b:List Int) (p:Int) (vs:List Vr) (hb:Rdy b) (hp:0≤p∧p≤800000000) (hv:1≤vs.length) (hv2:vs.length≤1000) {Q:List AV→Prop} (h:∀(l:List Tm) (p':Int),p≤p'∧p'≤p+10→l.length≤9→Q [⟨L T4,l⟩,⟨RD,(b,p')⟩]):mc.C f_spec_l2When [⟨RD,(b,p)⟩,⟨L V3,vs⟩] Q:=by
 refine mc.c_of F_spec_l2When ?_
 simp+contextual(maxSteps:=1000000)(disch:=omega)only[↓Sd,↓So,↓Sk,↓den,↓denA,Sa,Sb,Sc,Se,O1.d,O2.d,O3.d,cmI,arI,envOf,putN,↓reduceIte,Nat.reduceLT,Nat.reduceSub,Nat.reduceAdd,Int.reduceAdd,Int.reduceEq,Int.reduceLT,Int.reduceLE,arr_pos,arr_neg,tr_spec_l2When]
 refine D_pick1 _ _ _ hb (by omega) (by omega) fun i i0 i1=>?_;simp+contextual(maxSteps:=1000000)(disch:=omega)only[↓Sd,↓So,↓Sk,↓den,↓denA,Sa,Sb,Sc,Se,O1.d,O2.d,O3.d,cmI,arI,envOf,putN,↓reduceIte,Nat.reduceLT,Nat.reduceSub,Nat.reduceAdd,Int.reduceAdd,Int.reduceEq,Int.reduceLT,Int.reduceLE,arr_pos,arr_neg,]
 refine D_l2Cond _ _ (vs.getD i.toNat (0,0,0)) _ hb (by omega) fun l p1 hp1 hl=>?_
 simp+contextual(maxSteps:=1000000)(disch:=omega)only[↓Sd,↓So,↓Sk,↓den,↓denA,Sa,Sb,Sc,Se,O1.d,O2.d,O3.d,cmI,arI,envOf,putN,↓reduceIte,Nat.reduceLT,Nat.reduceSub,Nat.reduceAdd,Int.reduceAdd,Int.reduceEq,Int.reduceLT,Int.reduceLE,arr_pos,arr_neg,↓wpJoin,]
 refine D_pick1 _ _ _ hb (by omega) (by omega) fun k k0 k1=>?_;simp+contextual(maxSteps:=1000000)(disch:=omega)only[↓Sd,↓So,↓Sk,↓den,↓denA,Sa,Sb,Sc,Se,O1.d,O2.d,O3.d,cmI,arI,envOf,putN,↓reduceIte,Nat.reduceLT,Nat.reduceSub,Nat.reduceAdd,Int.reduceAdd,Int.reduceEq,Int.reduceLT,Int.reduceLE,arr_pos,arr_neg,]
 refine ⟨fun _=>?_,fun _=>h _ _ (by omega) (by omega)⟩
 refine D_pick1 _ _ _ hb (by omega) (by omega) fun j j0 j1=>?_;simp+contextual(maxSteps:=1000000)(disch:=omega)only[↓Sd,↓So,↓Sk,↓den,↓denA,Sa,Sb,Sc,Se,O1.d,O2.d,O3.d,cmI,arI,envOf,putN,↓reduceIte,Nat.reduceLT,Nat.reduceSub,Nat.reduceAdd,Int.reduceAdd,Int.reduceEq,Int.reduceLT,Int.reduceLE,arr_pos,arr_neg,]
 refine D_num _ _ _ hb (by omega) (by simp) (by simp) fun o o0=>?_;simp+contextual(maxSteps:=1000000)(disch:=omega)only[↓Sd,↓So,↓Sk,↓den,↓denA,Sa,Sb,Sc,Se,O1.d,O2.d,O3.d,cmI,arI,envOf,putN,↓reduceIte,Nat.reduceLT,Nat.reduceSub,Nat.reduceAdd,Int.reduceAdd,Int.reduceEq,Int.reduceLT,Int.reduceLE,arr_pos,arr_neg,]
 refine D_l2Cond _ _ (vs.getD j.toNat (0,0,0)) _ hb (by omega) fun m p2 hp2 hm=>?_
 simp+contextual(maxSteps:=1000000)(disch:=omega)only[↓Sd,↓So,↓Sk,↓den,↓denA,Sa,Sb,Sc,Se,O1.d,O2.d,O3.d,cmI,arI,envOf,putN,↓reduceIte,Nat.reduceLT,Nat.reduceSub,Nat.reduceAdd,Int.reduceAdd,Int.reduceEq,Int.reduceLT,Int.reduceLE,arr_pos,arr_neg,]
 refine D_Joined _ _ _ _ (by omega) (by omega) fun r hr=>?_
 simp+contextual(maxSteps:=1000000)(disch:=omega)only[↓Sd,↓So,↓Sk,↓den,↓denA,Sa,Sb,Sc,Se,O1.d,O2.d,O3.d,cmI,arI,envOf,putN,↓reduceIte,Nat.reduceLT,Nat.reduceSub,Nat.reduceAdd,Int.reduceAdd,Int.reduceEq,Int.reduceLT,Int.reduceLE,arr_pos,arr_neg,↓wpJoin,]
 exact h _ _ (by omega) (by omega)
theorem D_l1Terms (b:List Int) (p vars kind most:Int) (hb:Rdy b) (hp:0≤p∧p≤800000000) (hv:0≤vars∧vars≤5) (hm:1≤most∧most≤12) {Q:List AV→Prop} (h:∀(l:List Tm) (p':Int),p≤p'∧p'≤p+400→1≤l.length→l.length≤16→Q [⟨L T4,l⟩,⟨RD,(b,p')⟩]):mc.C f_spec_l1Terms [⟨RD,(b,p)⟩,⟨I,vars⟩,⟨I,kind⟩,⟨I,most⟩] Q:=by
 refine mc.c_of F_spec_l1Terms ?_
 simp+contextual(maxSteps:=1000000)(disch:=omega)only[↓Sd,↓So,↓Sk,↓den,↓denA,Sa,Sb,Sc,Se,O1.d,O2.d,O3.d,cmI,arI,envOf,putN,↓reduceIte,Nat.reduceLT,Nat.reduceSub,Nat.reduceAdd,Int.reduceAdd,Int.reduceEq,Int.reduceLT,Int.reduceLE,arr_pos,arr_neg,tr_spec_l1Terms]
 refine D_pick1 _ _ _ hb (by omega) (by omega) fun n n0 n1=>?_;simp+contextual(maxSteps:=1000000)(disch:=omega)only[↓Sd,↓So,↓Sk,↓den,↓denA,Sa,Sb,Sc,Se,O1.d,O2.d,O3.d,cmI,arI,envOf,putN,↓reduceIte,Nat.reduceLT,Nat.reduceSub,Nat.reduceAdd,Int.reduceAdd,Int.reduceEq,Int.reduceLT,Int.reduceLE,arr_pos,arr_neg,]
 obtain ⟨N,hN⟩:∃N:Nat,n=N:=⟨n.toNat,by omega⟩
 subst hN
 refine mc.lp_inv (fun k us=>∃(p1:Int) (l:List Tm) (ks:List Int),us=[⟨I,vars⟩,⟨I,kind⟩,⟨I,(k:Int)⟩,⟨L U,b⟩,⟨I,p1⟩,⟨L T4,l⟩,⟨L I,ks⟩]∧l.length=ks.length∧l.length+k≤2+N∧p≤p1∧p1+20 * k≤p+1+20 * (2+N)) (2+N) _ ⟨p+1,[],[],by simp,rfl,by simp,by omega,by omega⟩ ?_
 rintro k us ⟨p1,l,ks,rfl,i1,i2,i3,i4⟩
 cases k with
 | zero =>
  simp+contextual(maxSteps:=1000000)(disch:=omega)only[↓Sd,↓So,↓Sk,↓den,↓denA,Sa,Sb,Sc,Se,O1.d,O2.d,O3.d,cmI,arI,envOf,putN,↓reduceIte,Nat.reduceLT,Nat.reduceSub,Nat.reduceAdd,Int.reduceAdd,Int.reduceEq,Int.reduceLT,Int.reduceLE,arr_pos,arr_neg,]
  refine mc.wp_join (fun us=>∃(l:List Tm) (ks:List Int),us=[⟨I,kind⟩,⟨L U,b⟩,⟨I,p1⟩,⟨L T4,l⟩,⟨L I,ks⟩]∧l.length=ks.length∧1≤l.length∧l.length≤14) ?_ ?_
  ·simp+contextual(maxSteps:=1000000)(disch:=omega)only[↓Sd,↓So,↓Sk,↓den,↓denA,Sa,Sb,Sc,Se,O1.d,O2.d,O3.d,cmI,arI,envOf,putN,↓reduceIte,Nat.reduceLT,Nat.reduceSub,Nat.reduceAdd,Int.reduceAdd,Int.reduceEq,Int.reduceLT,Int.reduceLE,arr_pos,arr_neg,]
   refine ⟨fun g=>⟨_,_,⟨rfl,rfl⟩,by simp [i1],by simp,?_⟩,fun g=>⟨l,ks,⟨rfl,rfl⟩,i1,by omega,by omega⟩⟩
   simp only [List.length_append,List.length_singleton];omega
  ·rintro us ⟨l,ks,rfl,a1,a2,a3⟩
   refine mc.wp_join (fun us=>∃(p2:Int) (l:List Tm),us=[⟨L U,b⟩,⟨I,p2⟩,⟨L T4,l⟩]∧p≤p2∧p2≤p+390∧1≤l.length∧l.length≤16) ?_ ?_
   ·have ln1:∀x:Tm,1≤(l++[x]).length∧(l++[x]).length≤16:=fun x=>by simp only [List.length_append,List.length_singleton];omega
    simp+contextual(maxSteps:=1000000)(disch:=omega)only[↓Sd,↓So,↓Sk,↓den,↓denA,Sa,Sb,Sc,Se,O1.d,O2.d,O3.d,cmI,arI,envOf,putN,↓reduceIte,Nat.reduceLT,Nat.reduceSub,Nat.reduceAdd,Int.reduceAdd,Int.reduceEq,Int.reduceLT,Int.reduceLE,arr_pos,arr_neg,]
    refine ⟨fun _=>⟨fun _=>?_,fun _=>⟨_,_,⟨rfl,rfl⟩,by omega,by omega,by omega,by omega⟩⟩,fun _=>⟨fun _=>⟨fun _=>?_,fun _=>⟨_,_,⟨rfl,rfl⟩,by omega,by omega,by omega,by omega⟩⟩,fun _=>⟨_,_,⟨rfl,rfl⟩,by omega,by omega,by omega,by omega⟩⟩⟩
    ·refine D_num _ _ _ hb (by omega) (by simp) (by simp) fun o o0=>?_;simp+contextual(maxSteps:=1000000)(disch:=omega)only[↓Sd,↓So,↓Sk,↓den,↓denA,Sa,Sb,Sc,Se,O1.d,O2.d,O3.d,cmI,arI,envOf,putN,↓reduceIte,Nat.reduceLT,Nat.reduceSub,Nat.reduceAdd,Int.reduceAdd,Int.reduceEq,Int.reduceLT,Int.reduceLE,arr_pos,arr_neg,]
     refine D_l1Pick _ _ _ _ hb (by omega) (by omega) (by omega) fun x hx=>?_
     simp+contextual(maxSteps:=1000000)(disch:=omega)only[↓Sd,↓So,↓Sk,↓den,↓denA,Sa,Sb,Sc,Se,O1.d,O2.d,O3.d,cmI,arI,envOf,putN,↓reduceIte,Nat.reduceLT,Nat.reduceSub,Nat.reduceAdd,Int.reduceAdd,Int.reduceEq,Int.reduceLT,Int.reduceLE,arr_pos,arr_neg,]
     exact ⟨_,_,⟨rfl,rfl⟩,by omega,by omega,(ln1 _).1,(ln1 _).2⟩
    ·refine D_l1Pick _ _ _ _ hb (by omega) (by omega) (by omega) fun x hx=>?_
     simp+contextual(maxSteps:=1000000)(disch:=omega)only[↓Sd,↓So,↓Sk,↓den,↓denA,Sa,Sb,Sc,Se,O1.d,O2.d,O3.d,cmI,arI,envOf,putN,↓reduceIte,Nat.reduceLT,Nat.reduceSub,Nat.reduceAdd,Int.reduceAdd,Int.reduceEq,Int.reduceLT,Int.reduceLE,arr_pos,arr_neg,]
     refine D_num _ _ _ hb (by omega) (by simp) (by simp) fun o o0=>?_;simp+contextual(maxSteps:=1000000)(disch:=omega)only[↓Sd,↓So,↓Sk,↓den,↓denA,Sa,Sb,Sc,Se,O1.d,O2.d,O3.d,cmI,arI,envOf,putN,↓reduceIte,Nat.reduceLT,Nat.reduceSub,Nat.reduceAdd,Int.reduceAdd,Int.reduceEq,Int.reduceLT,Int.reduceLE,arr_pos,arr_neg,]
     refine D_l1Pick _ _ _ _ hb (by omega) (by omega) (by omega) fun y hy=>?_
     simp+contextual(maxSteps:=1000000)(disch:=omega)only[↓Sd,↓So,↓Sk,↓den,↓denA,Sa,Sb,Sc,Se,O1.d,O2.d,O3.d,cmI,arI,envOf,putN,↓reduceIte,Nat.reduceLT,Nat.reduceSub,Nat.reduceAdd,Int.reduceAdd,Int.reduceEq,Int.reduceLT,Int.reduceLE,arr_pos,arr_neg,]
     exact ⟨_,_,⟨rfl,rfl⟩,by omega,by omega,(ln1 _).1,(ln1 _).2⟩
   ·rintro us ⟨p2,l,rfl,c1,c2,c3,c4⟩
    simp+contextual(maxSteps:=1000000)(disch:=omega)only[↓Sd,↓So,↓Sk,↓den,↓denA,Sa,Sb,Sc,Se,O1.d,O2.d,O3.d,cmI,arI,envOf,putN,↓reduceIte,Nat.reduceLT,Nat.reduceSub,Nat.reduceAdd,Int.reduceAdd,Int.reduceEq,Int.reduceLT,Int.reduceLE,arr_pos,arr_neg,]
    exact h _ _ (by omega) (by omega) (by omega)
 | succ k =>
  simp+contextual(maxSteps:=1000000)(disch:=omega)only[↓Sd,↓So,↓Sk,↓den,↓denA,Sa,Sb,Sc,Se,O1.d,O2.d,O3.d,cmI,arI,envOf,putN,↓reduceIte,Nat.reduceLT,Nat.reduceSub,Nat.reduceAdd,Int.reduceAdd,Int.reduceEq,Int.reduceLT,Int.reduceLE,arr_pos,arr_neg,]
  refine mc.wp_join (fun us=>∃(p2:Int) (l:List Tm) (ks:List Int),us=[⟨I,vars⟩,⟨I,kind⟩,⟨I,(k:Int)+1⟩,⟨L U,b⟩,⟨I,p2⟩,⟨L T4,l⟩,⟨L I,ks⟩]∧l.length=ks.length∧l.length+k≤2+N∧p≤p2∧p2+20 * k≤p+1+20 * (2+N)) ?_ ?_
  ·simp+contextual(maxSteps:=1000000)(disch:=omega)only[↓Sd,↓So,↓Sk,↓den,↓denA,Sa,Sb,Sc,Se,O1.d,O2.d,O3.d,cmI,arI,envOf,putN,↓reduceIte,Nat.reduceLT,Nat.reduceSub,Nat.reduceAdd,Int.reduceAdd,Int.reduceEq,Int.reduceLT,Int.reduceLE,arr_pos,arr_neg,]
   refine D_num _ _ _ hb (by omega) (by simp) (by simp) fun o o0=>?_;simp+contextual(maxSteps:=1000000)(disch:=omega)only[↓Sd,↓So,↓Sk,↓den,↓denA,Sa,Sb,Sc,Se,O1.d,O2.d,O3.d,cmI,arI,envOf,putN,↓reduceIte,Nat.reduceLT,Nat.reduceSub,Nat.reduceAdd,Int.reduceAdd,Int.reduceEq,Int.reduceLT,Int.reduceLE,arr_pos,arr_neg,]
   refine mc.wp_join (fun us=>∃(p2:Int) (t:Tm),us=[⟨I,vars⟩,⟨I,kind⟩,⟨I,(k:Int)+1⟩,⟨L U,b⟩,⟨I,p2⟩,⟨L T4,l⟩,⟨L I,ks⟩,⟨I,t.1⟩,⟨I,t.2.1⟩,⟨I,t.2.2.1⟩,⟨I,t.2.2.2⟩]∧p≤p2∧p2≤p1+10) ?_ ?_
   ·simp+contextual(maxSteps:=1000000)(disch:=omega)only[↓Sd,↓So,↓Sk,↓den,↓denA,Sa,Sb,Sc,Se,O1.d,O2.d,O3.d,cmI,arI,envOf,putN,↓reduceIte,Nat.reduceLT,Nat.reduceSub,Nat.reduceAdd,Int.reduceAdd,Int.reduceEq,Int.reduceLT,Int.reduceLE,arr_pos,arr_neg,]
    refine ⟨fun g=>?_,fun g=>⟨fun g2=>?_,fun g2=>?_⟩⟩
    ·refine D_l1Number _ _ hb (by omega) fun x p2 hp2=>?_
     simp+contextual(maxSteps:=1000000)(disch:=omega)only[↓Sd,↓So,↓Sk,↓den,↓denA,Sa,Sb,Sc,Se,O1.d,O2.d,O3.d,cmI,arI,envOf,putN,↓reduceIte,Nat.reduceLT,Nat.reduceSub,Nat.reduceAdd,Int.reduceAdd,Int.reduceEq,Int.reduceLT,Int.reduceLE,arr_pos,arr_neg,]
     refine ⟨fun _=>⟨fun _=>?_,fun _=>⟨_,((0:Int),x,(0:Int),(0:Int)),⟨rfl,rfl,rfl,rfl,rfl⟩,by omega,by omega⟩⟩,fun _=>⟨_,((0:Int),x,(0:Int),(0:Int)),⟨rfl,rfl,rfl,rfl,rfl⟩,by omega,by omega⟩⟩
     refine D_pick1 _ _ _ hb (by omega) (by omega) fun y y0 y1=>?_;simp+contextual(maxSteps:=1000000)(disch:=omega)only[↓Sd,↓So,↓Sk,↓den,↓denA,Sa,Sb,Sc,Se,O1.d,O2.d,O3.d,cmI,arI,envOf,putN,↓reduceIte,Nat.reduceLT,Nat.reduceSub,Nat.reduceAdd,Int.reduceAdd,Int.reduceEq,Int.reduceLT,Int.reduceLE,arr_pos,arr_neg,]
     exact ⟨_,((1:Int),y,(0:Int),(0:Int)),⟨rfl,rfl,rfl,rfl,rfl⟩,by omega,by omega⟩
    ·refine D_l1Number _ _ hb (by omega) fun x p2 hp2=>?_
     simp+contextual(maxSteps:=1000000)(disch:=omega)only[↓Sd,↓So,↓Sk,↓den,↓denA,Sa,Sb,Sc,Se,O1.d,O2.d,O3.d,cmI,arI,envOf,putN,↓reduceIte,Nat.reduceLT,Nat.reduceSub,Nat.reduceAdd,Int.reduceAdd,Int.reduceEq,Int.reduceLT,Int.reduceLE,arr_pos,arr_neg,]
     refine ⟨fun _=>⟨fun _=>?_,fun _=>⟨_,((0:Int),x,(0:Int),(0:Int)),⟨rfl,rfl,rfl,rfl,rfl⟩,by omega,by omega⟩⟩,fun _=>⟨_,((0:Int),x,(0:Int),(0:Int)),⟨rfl,rfl,rfl,rfl,rfl⟩,by omega,by omega⟩⟩
     refine D_pick1 _ _ _ hb (by omega) (by omega) fun y y0 y1=>?_;simp+contextual(maxSteps:=1000000)(disch:=omega)only[↓Sd,↓So,↓Sk,↓den,↓denA,Sa,Sb,Sc,Se,O1.d,O2.d,O3.d,cmI,arI,envOf,putN,↓reduceIte,Nat.reduceLT,Nat.reduceSub,Nat.reduceAdd,Int.reduceAdd,Int.reduceEq,Int.reduceLT,Int.reduceLE,arr_pos,arr_neg,]
     exact ⟨_,((1:Int),y,(0:Int),(0:Int)),⟨rfl,rfl,rfl,rfl,rfl⟩,by omega,by omega⟩
    ·refine mc.wp_join (fun us=>∃w:Int,us=[⟨I,vars⟩,⟨I,kind⟩,⟨I,(k:Int)+1⟩,⟨I,o⟩,⟨I,w⟩,⟨L U,b⟩,⟨I,p1+1⟩,⟨L T4,l⟩,⟨L I,ks⟩,⟨I,o⟩,⟨I,(0:Int)⟩,⟨I,(0:Int)⟩,⟨I,(0:Int)⟩]) ?_ ?_
     ·simp+contextual(maxSteps:=1000000)(disch:=omega)only[↓Sd,↓So,↓Sk,↓den,↓denA,Sa,Sb,Sc,Se,O1.d,O2.d,O3.d,cmI,arI,envOf,putN,↓reduceIte,Nat.reduceLT,Nat.reduceSub,Nat.reduceAdd,Int.reduceAdd,Int.reduceEq,Int.reduceLT,Int.reduceLE,arr_pos,arr_neg,]
      exact ⟨fun _=>⟨2,rfl⟩,fun _=>⟨1,rfl⟩⟩
     ·rintro us ⟨w,rfl⟩
      simp+contextual(maxSteps:=1000000)(disch:=omega)only[↓Sd,↓So,↓Sk,↓den,↓denA,Sa,Sb,Sc,Se,O1.d,O2.d,O3.d,cmI,arI,envOf,putN,↓reduceIte,Nat.reduceLT,Nat.reduceSub,Nat.reduceAdd,Int.reduceAdd,Int.reduceEq,Int.reduceLT,Int.reduceLE,arr_pos,arr_neg,]
      refine D_l1Pick _ _ _ _ hb (by omega) (by omega) (by omega) fun x hx=>?_
      simp+contextual(maxSteps:=1000000)(disch:=omega)only[↓Sd,↓So,↓Sk,↓den,↓denA,Sa,Sb,Sc,Se,O1.d,O2.d,O3.d,cmI,arI,envOf,putN,↓reduceIte,Nat.reduceLT,Nat.reduceSub,Nat.reduceAdd,Int.reduceAdd,Int.reduceEq,Int.reduceLT,Int.reduceLE,arr_pos,arr_neg,]
      refine D_l1Pick _ _ _ _ hb (by omega) (by omega) (by omega) fun y hy=>?_
      simp+contextual(maxSteps:=1000000)(disch:=omega)only[↓Sd,↓So,↓Sk,↓den,↓denA,Sa,Sb,Sc,Se,O1.d,O2.d,O3.d,cmI,arI,envOf,putN,↓reduceIte,Nat.reduceLT,Nat.reduceSub,Nat.reduceAdd,Int.reduceAdd,Int.reduceEq,Int.reduceLT,Int.reduceLE,arr_pos,arr_neg,C_spec_l1One]
      exact ⟨fun _=>⟨_,((7:Int),(0:Int),x,x),⟨rfl,rfl,rfl,rfl,rfl⟩,by omega,by omega⟩,fun _=>⟨_,(o,(0:Int),x,y),⟨rfl,rfl,rfl,rfl,rfl⟩,by omega,by omega⟩⟩
   ·rintro us ⟨p2,t,rfl,c1,c2⟩
    simp+contextual(maxSteps:=1000000)(disch:=omega)only[↓Sd,↓So,↓Sk,↓den,↓denA,Sa,Sb,Sc,Se,O1.d,O2.d,O3.d,cmI,arI,envOf,putN,↓reduceIte,Nat.reduceLT,Nat.reduceSub,Nat.reduceAdd,Int.reduceAdd,Int.reduceEq,Int.reduceLT,Int.reduceLE,arr_pos,arr_neg,C_spec_l1Kind t ks vars hv (by omega)]
    refine ⟨fun _=>⟨_,_,_,⟨rfl,rfl,rfl⟩,?_,?_,by omega,by omega⟩,fun _=>⟨_,_,_,⟨rfl,rfl,rfl⟩,i1,by omega,by omega,by omega⟩⟩
    ·simp only [List.length_append,List.length_singleton];omega
    ·simp only [List.length_append,List.length_singleton];omega
  ·rintro us ⟨p2,l,ks,rfl,a1,a2,a3,a4⟩
   simp+contextual(maxSteps:=1000000)(disch:=omega)only[↓Sd,↓So,↓Sk,↓den,↓denA,Sa,Sb,Sc,Se,O1.d,O2.d,O3.d,cmI,arI,envOf,putN,↓reduceIte,Nat.reduceLT,Nat.reduceSub,Nat.reduceAdd,Int.reduceAdd,Int.reduceEq,Int.reduceLT,Int.reduceLE,arr_pos,arr_neg,]
   exact ⟨k,by omega,p2,l,ks,⟨rfl,rfl,rfl,rfl⟩,a1,a2,a3,a4⟩
theorem D_l2Value (b:List Int) (p:Int) (vs:List Vr) (k:Int) (i:Nat) (hk:k=i) (hb:Rdy b) (hp:0≤p∧p≤700000000) (hv:vs.length≤5) (hi:i<vs.length) {Q:List AV→Prop} (h:∀(l:List Tm) (p':Int),p≤p'∧p'≤p+500→l.length≤16→Q [⟨L T4,l⟩,⟨RD,(b,p')⟩]):mc.C f_spec_l2Value [⟨RD,(b,p)⟩,⟨L V3,vs⟩,⟨I,k⟩] Q:=by
 subst hk
 refine mc.c_of F_spec_l2Value ?_
 simp+contextual(maxSteps:=1000000)(disch:=omega)only[↓Sd,↓So,↓Sk,↓den,↓denA,Sa,Sb,Sc,Se,O1.d,O2.d,O3.d,cmI,arI,envOf,putN,↓reduceIte,Nat.reduceLT,Nat.reduceSub,Nat.reduceAdd,Int.reduceAdd,Int.reduceEq,Int.reduceLT,Int.reduceLE,arr_pos,arr_neg,tr_spec_l2Value]
 refine D_pick1 _ _ _ hb (by omega) (by omega) fun k k0 k1=>?_;simp+contextual(maxSteps:=1000000)(disch:=omega)only[↓Sd,↓So,↓Sk,↓den,↓denA,Sa,Sb,Sc,Se,O1.d,O2.d,O3.d,cmI,arI,envOf,putN,↓reduceIte,Nat.reduceLT,Nat.reduceSub,Nat.reduceAdd,Int.reduceAdd,Int.reduceEq,Int.reduceLT,Int.reduceLE,arr_pos,arr_neg,]
 refine ⟨fun _=>?_,fun _=>⟨fun _=>?_,fun _=>⟨fun _=>?_,fun _=>?_⟩⟩⟩
 ·simp+contextual(maxSteps:=1000000)(disch:=omega)only[↓Sd,↓So,↓Sk,↓den,↓denA,Sa,Sb,Sc,Se,O1.d,O2.d,O3.d,cmI,arI,envOf,putN,↓reduceIte,Nat.reduceLT,Nat.reduceSub,Nat.reduceAdd,Int.reduceAdd,Int.reduceEq,Int.reduceLT,Int.reduceLE,arr_pos,arr_neg,C_spec_l2VarOf,C_spec_l2Const]
  refine D_num _ _ _ hb (by omega) (by simp) (by simp) fun o o0=>?_;simp+contextual(maxSteps:=1000000)(disch:=omega)only[↓Sd,↓So,↓Sk,↓den,↓denA,Sa,Sb,Sc,Se,O1.d,O2.d,O3.d,cmI,arI,envOf,putN,↓reduceIte,Nat.reduceLT,Nat.reduceSub,Nat.reduceAdd,Int.reduceAdd,Int.reduceEq,Int.reduceLT,Int.reduceLE,arr_pos,arr_neg,]
  exact h _ _ (by omega) (by simp)
 ·refine D_pick _ _ _ hb (by omega) fun n _ _=>?_
  simp+contextual(maxSteps:=1000000)(disch:=omega)only[↓Sd,↓So,↓Sk,↓den,↓denA,Sa,Sb,Sc,Se,O1.d,O2.d,O3.d,cmI,arI,envOf,putN,↓reduceIte,Nat.reduceLT,Nat.reduceSub,Nat.reduceAdd,Int.reduceAdd,Int.reduceEq,Int.reduceLT,Int.reduceLE,arr_pos,arr_neg,↓wpJoin,C_spec_l2Const]
  exact h _ _ (by omega) (by simp)
 ·refine D_pick1 _ _ _ hb (by omega) (by omega) fun n n0 n1=>?_;simp+contextual(maxSteps:=1000000)(disch:=omega)only[↓Sd,↓So,↓Sk,↓den,↓denA,Sa,Sb,Sc,Se,O1.d,O2.d,O3.d,cmI,arI,envOf,putN,↓reduceIte,Nat.reduceLT,Nat.reduceSub,Nat.reduceAdd,Int.reduceAdd,Int.reduceEq,Int.reduceLT,Int.reduceLE,arr_pos,arr_neg,]
  simp+contextual(maxSteps:=1000000)(disch:=omega)only[↓Sd,↓So,↓Sk,↓den,↓denA,Sa,Sb,Sc,Se,O1.d,O2.d,O3.d,cmI,arI,envOf,putN,↓reduceIte,Nat.reduceLT,Nat.reduceSub,Nat.reduceAdd,Int.reduceAdd,Int.reduceEq,Int.reduceLT,Int.reduceLE,arr_pos,arr_neg,C_spec_l2VarOf]
  exact h _ _ (by omega) (by simp)
 ·refine D_l1Terms _ _ _ _ _ hb (by omega) (by omega) (by omega) fun l p2 h1 h2 h3=>?_
  simp+contextual(maxSteps:=1000000)(disch:=omega)only[↓Sd,↓So,↓Sk,↓den,↓denA,Sa,Sb,Sc,Se,O1.d,O2.d,O3.d,cmI,arI,envOf,putN,↓reduceIte,Nat.reduceLT,Nat.reduceSub,Nat.reduceAdd,Int.reduceAdd,Int.reduceEq,Int.reduceLT,Int.reduceLE,arr_pos,arr_neg,]
  exact h _ _ (by omega) (by omega)
def SmRu (r:Ru):Prop:=r.1.length≤100∧r.2.1.length≤100∧r.2.2.length≤100∧∀x∈r.2.2,x.length≤100
def SmR5 (r:Ru):Prop:=r.1.length≤50∧r.2.1.length≤50∧r.2.2.length≤50∧∀x∈r.2.2,x.length≤50
theorem SmR5.sm {r:Ru} (h:SmR5 r):SmRu r:=⟨by have:=h.1;omega,by have:=h.2.1;omega,by have:=h.2.2.1;omega,fun x hx=>by have:=h.2.2.2 x hx;omega⟩
def SmSy (s:Sy):Prop:=s.1.length≤3∧s.2.length≤9∧∀r∈s.2,SmRu r
theorem SmSy.few {s:Sy} (h:SmSy s):FewSy s:=by
 refine ⟨by have:=h.1;unfold Few;omega,by have:=h.2.1;unfold Few;omega,fun r hr=>?_⟩
 have h1:=h.2.2 r hr
 exact ⟨by have:=h1.1;unfold Few;omega,by have:=h1.2.1;unfold Few;omega,by have:=h1.2.2.1;unfold Few;omega,fun x hx=>by have:=h1.2.2.2 x hx;unfold Few;omega⟩
theorem D_l2Rules (b:List Int) (p:Int) (vs:List Vr) (many:Nat) (hb:Rdy b) (hp:0≤p∧p≤600000000) (hv1:1≤vs.length) (hv:vs.length≤3) (hm:many≤9) {Q:List AV→Prop} (h:∀(l:List Ru) (p':Int),p≤p'∧p'≤p+20000→l.length≤many→(∀r∈l,SmR5 r)→Q [⟨L TR,l⟩,⟨RD,(b,p')⟩]):mc.C f_spec_l2Rules [⟨RD,(b,p)⟩,⟨L V3,vs⟩,⟨I,(many:Int)⟩] Q:=by
 refine mc.c_of F_spec_l2Rules ?_
 simp+contextual(maxSteps:=1000000)(disch:=omega)only[↓Sd,↓So,↓Sk,↓den,↓denA,Sa,Sb,Sc,Se,O1.d,O2.d,O3.d,cmI,arI,envOf,putN,↓reduceIte,Nat.reduceLT,Nat.reduceSub,Nat.reduceAdd,Int.reduceAdd,Int.reduceEq,Int.reduceLT,Int.reduceLE,arr_pos,arr_neg,tr_spec_l2Rules]
 refine mc.lp_for (Int×List Ru) (fun i s=>[⟨L V3,vs⟩,⟨I,(many:Int)⟩,⟨I,(i:Int)⟩,⟨L U,b⟩,⟨I,s.1⟩,⟨L TR,s.2⟩]) (fun i s=>p≤s.1∧s.1≤p+2000 * i∧s.2.length=i∧∀r∈s.2,SmR5 r) many 0 (p,[]) _ rfl (Nat.zero_le _) ⟨by simp,by simp,rfl,by simp⟩ ?_ ?_
 ·rintro i ⟨p1,l⟩ hi ⟨a1,a2,a3,a4⟩
  simp only at a1 a2 a3 a4
  simp+contextual(maxSteps:=1000000)(disch:=omega)only[↓Sd,↓So,↓Sk,↓den,↓denA,Sa,Sb,Sc,Se,O1.d,O2.d,O3.d,cmI,arI,envOf,putN,↓reduceIte,Nat.reduceLT,Nat.reduceSub,Nat.reduceAdd,Int.reduceAdd,Int.reduceEq,Int.reduceLT,Int.reduceLE,arr_pos,arr_neg,]
  refine D_l2When _ _ _ hb (by omega) hv1 (by omega) fun w p2 hp2 hw=>?_
  simp+contextual(maxSteps:=1000000)(disch:=omega)only[↓Sd,↓So,↓Sk,↓den,↓denA,Sa,Sb,Sc,Se,O1.d,O2.d,O3.d,cmI,arI,envOf,putN,↓reduceIte,Nat.reduceLT,Nat.reduceSub,Nat.reduceAdd,Int.reduceAdd,Int.reduceEq,Int.reduceLT,Int.reduceLE,arr_pos,arr_neg,]
  refine mc.lp_for (Int×List Int×List (List Tm)) (fun j s=>[⟨L V3,vs⟩,⟨I,(many:Int)⟩,⟨I,(i:Int)⟩,⟨I,(j:Int)⟩,⟨L U,b⟩,⟨I,s.1⟩,⟨L TR,l⟩,⟨L T4,w⟩,⟨L I,s.2.1⟩,⟨L (L T4),s.2.2⟩]) (fun j s=>p2≤s.1∧s.1≤p2+510 * j∧s.2.1.length≤j∧s.2.2.length≤j∧∀x∈s.2.2,x.length≤16) vs.length 0 (p2,[],[]) _ rfl (Nat.zero_le _) ⟨by simp,by simp,by simp,by simp,by simp⟩ ?_ ?_
  ·rintro j ⟨p3,ss,ts⟩ hj ⟨c1,c2,c3,c4,c5⟩
   simp only at c1 c2 c3 c4 c5
   have app:∀(x:List Tm),x.length≤16→∀y∈ts++[x],y.length≤16:=fun x hx y hy=>(List.mem_append.1 hy).elim (c5 y) fun hy=>by rw [List.mem_singleton.1 hy];exact hx
   have l1:∀x,(ss++[x]).length=ss.length+1:=fun x=>by simp
   have l2:∀x,(ts++[x]).length=ts.length+1:=fun x=>by simp
   simp+contextual(maxSteps:=1000000)(disch:=omega)only[↓Sd,↓So,↓Sk,↓den,↓denA,Sa,Sb,Sc,Se,O1.d,O2.d,O3.d,cmI,arI,envOf,putN,↓reduceIte,Nat.reduceLT,Nat.reduceSub,Nat.reduceAdd,Int.reduceAdd,Int.reduceEq,Int.reduceLT,Int.reduceLE,arr_pos,arr_neg,↓wpJoin,]
   refine D_pick1 _ _ _ hb (by omega) (by omega) fun a a0 a1=>?_;simp+contextual(maxSteps:=1000000)(disch:=omega)only[↓Sd,↓So,↓Sk,↓den,↓denA,Sa,Sb,Sc,Se,O1.d,O2.d,O3.d,cmI,arI,envOf,putN,↓reduceIte,Nat.reduceLT,Nat.reduceSub,Nat.reduceAdd,Int.reduceAdd,Int.reduceEq,Int.reduceLT,Int.reduceLE,arr_pos,arr_neg,]
   refine ⟨fun _=>?_,fun _=>⟨fun _=>⟨fun _=>?_,fun _=>?_⟩,fun _=>?_⟩⟩
   ·refine D_l2Value _ _ _ _ j (by omega) hb (by omega) (by omega) hj fun x p4 hp4 hx=>?_
    simp+contextual(maxSteps:=1000000)(disch:=omega)only[↓Sd,↓So,↓Sk,↓den,↓denA,Sa,Sb,Sc,Se,O1.d,O2.d,O3.d,cmI,arI,envOf,putN,↓reduceIte,Nat.reduceLT,Nat.reduceSub,Nat.reduceAdd,Int.reduceAdd,Int.reduceEq,Int.reduceLT,Int.reduceLE,arr_pos,arr_neg,↓wpJoin,]
    exact ⟨(_,_,_),⟨rfl,rfl,rfl⟩,by dsimp only;omega,by dsimp only;omega,by dsimp only;rw [l1];omega,by dsimp only;rw [l2];omega,app x hx⟩
   ·refine D_pick1 _ _ _ hb (by omega) (by omega) fun c c0 c1=>?_;simp+contextual(maxSteps:=1000000)(disch:=omega)only[↓Sd,↓So,↓Sk,↓den,↓denA,Sa,Sb,Sc,Se,O1.d,O2.d,O3.d,cmI,arI,envOf,putN,↓reduceIte,Nat.reduceLT,Nat.reduceSub,Nat.reduceAdd,Int.reduceAdd,Int.reduceEq,Int.reduceLT,Int.reduceLE,arr_pos,arr_neg,]
    refine ⟨fun _=>?_,fun _=>?_⟩
    ·refine D_l2Value _ _ _ _ j (by omega) hb (by omega) (by omega) hj fun x p4 hp4 hx=>?_
     simp+contextual(maxSteps:=1000000)(disch:=omega)only[↓Sd,↓So,↓Sk,↓den,↓denA,Sa,Sb,Sc,Se,O1.d,O2.d,O3.d,cmI,arI,envOf,putN,↓reduceIte,Nat.reduceLT,Nat.reduceSub,Nat.reduceAdd,Int.reduceAdd,Int.reduceEq,Int.reduceLT,Int.reduceLE,arr_pos,arr_neg,↓wpJoin,]
     exact ⟨(_,_,_),⟨rfl,rfl,rfl⟩,by dsimp only;omega,by dsimp only;omega,by dsimp only;rw [l1];omega,by dsimp only;rw [l2];omega,app x hx⟩
    ·exact ⟨(_,_,_),⟨rfl,rfl,rfl⟩,by dsimp only;omega,by dsimp only;omega,by dsimp only;omega,by dsimp only;omega,c5⟩
   ·exact ⟨(_,_,_),⟨rfl,rfl,rfl⟩,by dsimp only;omega,by dsimp only;omega,by dsimp only;omega,by dsimp only;omega,c5⟩
   ·exact ⟨(_,_,_),⟨rfl,rfl,rfl⟩,by dsimp only;omega,by dsimp only;omega,by dsimp only;omega,by dsimp only;omega,c5⟩
  ·rintro ⟨p3,ss,ts⟩ ⟨c1,c2,c3,c4,c5⟩
   simp only at c1 c2 c3 c4 c5
   simp+contextual(maxSteps:=1000000)(disch:=omega)only[↓Sd,↓So,↓Sk,↓den,↓denA,Sa,Sb,Sc,Se,O1.d,O2.d,O3.d,cmI,arI,envOf,putN,↓reduceIte,Nat.reduceLT,Nat.reduceSub,Nat.reduceAdd,Int.reduceAdd,Int.reduceEq,Int.reduceLT,Int.reduceLE,arr_pos,arr_neg,]
   refine ⟨(_,_),⟨rfl,rfl⟩,by dsimp only;omega,by dsimp only;omega,by dsimp only;simp [a3],fun r hr=>?_⟩
   rcases List.mem_append.1 hr with hr | hr
   ·exact a4 r hr
   ·rw [List.mem_singleton.1 hr]
    exact ⟨by dsimp only;omega,by dsimp only;omega,by dsimp only;omega,fun x hx=>by have:=c5 x hx;omega⟩
 ·rintro ⟨p1,l⟩ ⟨a1,a2,a3,a4⟩
  simp only at a1 a2 a3 a4
  simp+contextual(maxSteps:=1000000)(disch:=omega)only[↓Sd,↓So,↓Sk,↓den,↓denA,Sa,Sb,Sc,Se,O1.d,O2.d,O3.d,cmI,arI,envOf,putN,↓reduceIte,Nat.reduceLT,Nat.reduceSub,Nat.reduceAdd,Int.reduceAdd,Int.reduceEq,Int.reduceLT,Int.reduceLE,arr_pos,arr_neg,]
  exact h _ _ (by omega) (by omega) a4
theorem D_l2System (b:List Int) (p most:Int) (hb:Rdy b) (hp:0≤p∧p≤500000000) {Q:List AV→Prop} (h:∀(s:Sy) (p':Int),p≤p'∧p'≤p+30000→SmSy s→1≤s.1.length→s.2.length≤4→(∀r∈s.2,SmR5 r)→Q [⟨L V3,s.1⟩,⟨L TR,s.2⟩,⟨RD,(b,p')⟩]):mc.C f_spec_l2System [⟨RD,(b,p)⟩,⟨I,most⟩] Q:=by
 refine mc.c_of F_spec_l2System ?_
 simp+contextual(maxSteps:=1000000)(disch:=omega)only[↓Sd,↓So,↓Sk,↓den,↓denA,Sa,Sb,Sc,Se,O1.d,O2.d,O3.d,cmI,arI,envOf,putN,↓reduceIte,Nat.reduceLT,Nat.reduceSub,Nat.reduceAdd,Int.reduceAdd,Int.reduceEq,Int.reduceLT,Int.reduceLE,arr_pos,arr_neg,tr_spec_l2System]
 refine D_pick1 _ _ _ hb (by omega) (by omega) fun n n0 n1=>?_;simp+contextual(maxSteps:=1000000)(disch:=omega)only[↓Sd,↓So,↓Sk,↓den,↓denA,Sa,Sb,Sc,Se,O1.d,O2.d,O3.d,cmI,arI,envOf,putN,↓reduceIte,Nat.reduceLT,Nat.reduceSub,Nat.reduceAdd,Int.reduceAdd,Int.reduceEq,Int.reduceLT,Int.reduceLE,arr_pos,arr_neg,]
 obtain ⟨N,hN⟩:∃N:Nat,n=N:=⟨n.toNat,by omega⟩
 subst hN
 refine mc.lp_inv (fun k us=>∃(p1 m:Int) (l:List Vr),us=[⟨I,most⟩,⟨I,m⟩,⟨I,(k:Int)⟩,⟨L U,b⟩,⟨I,p1⟩,⟨L V3,l⟩]∧l.length+k≤1+N∧p≤p1∧p1+3 * k≤p+1+3 * (1+N)) (1+N) _ ⟨p+1,1,[],by simp,by simp,by omega,by omega⟩ ?_
 rintro k us ⟨p1,m,l,rfl,i1,i2,i3⟩
 cases k with
 | zero =>
  simp+contextual(maxSteps:=1000000)(disch:=omega)only[↓Sd,↓So,↓Sk,↓den,↓denA,Sa,Sb,Sc,Se,O1.d,O2.d,O3.d,cmI,arI,envOf,putN,↓reduceIte,Nat.reduceLT,Nat.reduceSub,Nat.reduceAdd,Int.reduceAdd,Int.reduceEq,Int.reduceLT,Int.reduceLE,arr_pos,arr_neg,]
  refine mc.wp_join (fun us=>∃(l:List Vr),us=[⟨L U,b⟩,⟨I,p1⟩,⟨L V3,l⟩]∧1≤l.length∧l.length≤3) ?_ ?_
  ·simp+contextual(maxSteps:=1000000)(disch:=omega)only[↓Sd,↓So,↓Sk,↓den,↓denA,Sa,Sb,Sc,Se,O1.d,O2.d,O3.d,cmI,arI,envOf,putN,↓reduceIte,Nat.reduceLT,Nat.reduceSub,Nat.reduceAdd,Int.reduceAdd,Int.reduceEq,Int.reduceLT,Int.reduceLE,arr_pos,arr_neg,]
   exact ⟨fun _=>by omega,fun _=>by omega⟩
  ·rintro us ⟨l,rfl,a1,a2⟩
   simp+contextual(maxSteps:=1000000)(disch:=omega)only[↓Sd,↓So,↓Sk,↓den,↓denA,Sa,Sb,Sc,Se,O1.d,O2.d,O3.d,cmI,arI,envOf,putN,↓reduceIte,Nat.reduceLT,Nat.reduceSub,Nat.reduceAdd,Int.reduceAdd,Int.reduceEq,Int.reduceLT,Int.reduceLE,arr_pos,arr_neg,]
   refine D_num _ _ _ hb (by omega) (by simp) (by simp) fun x x0=>?_;simp+contextual(maxSteps:=1000000)(disch:=omega)only[↓Sd,↓So,↓Sk,↓den,↓denA,Sa,Sb,Sc,Se,O1.d,O2.d,O3.d,cmI,arI,envOf,putN,↓reduceIte,Nat.reduceLT,Nat.reduceSub,Nat.reduceAdd,Int.reduceAdd,Int.reduceEq,Int.reduceLT,Int.reduceLE,arr_pos,arr_neg,]
   have hx:0≤x∧x≤4:=by simp only [List.mem_append,List.mem_singleton] at x0;omega
   obtain ⟨y,hy⟩:∃y:Nat,x=y:=⟨x.toNat,by omega⟩
   subst hy
   refine D_l2Rules _ _ _ _ hb (by omega) a1 a2 (by omega) fun rs p2 hp2 h1 h2=>?_
   simp+contextual(maxSteps:=1000000)(disch:=omega)only[↓Sd,↓So,↓Sk,↓den,↓denA,Sa,Sb,Sc,Se,O1.d,O2.d,O3.d,cmI,arI,envOf,putN,↓reduceIte,Nat.reduceLT,Nat.reduceSub,Nat.reduceAdd,Int.reduceAdd,Int.reduceEq,Int.reduceLT,Int.reduceLE,arr_pos,arr_neg,↓wpJoin,]
   exact h (l,rs) _ (by omega) ⟨a2,by dsimp only;omega,fun r hr=>(h2 r hr).sm⟩ a1 (by dsimp only;omega) h2
 | succ k =>
  simp+contextual(maxSteps:=1000000)(disch:=omega)only[↓Sd,↓So,↓Sk,↓den,↓denA,Sa,Sb,Sc,Se,O1.d,O2.d,O3.d,cmI,arI,envOf,putN,↓reduceIte,Nat.reduceLT,Nat.reduceSub,Nat.reduceAdd,Int.reduceAdd,Int.reduceEq,Int.reduceLT,Int.reduceLE,arr_pos,arr_neg,]
  refine mc.wp_join (fun us=>∃(p2 m:Int) (l:List Vr),us=[⟨I,most⟩,⟨I,m⟩,⟨I,(k:Int)+1⟩,⟨L U,b⟩,⟨I,p2⟩,⟨L V3,l⟩]∧l.length+k≤1+N∧p≤p2∧p2+3 * k≤p+1+3 * (1+N)) ?_ ?_
  ·simp+contextual(maxSteps:=1000000)(disch:=omega)only[↓Sd,↓So,↓Sk,↓den,↓denA,Sa,Sb,Sc,Se,O1.d,O2.d,O3.d,cmI,arI,envOf,putN,↓reduceIte,Nat.reduceLT,Nat.reduceSub,Nat.reduceAdd,Int.reduceAdd,Int.reduceEq,Int.reduceLT,Int.reduceLE,arr_pos,arr_neg,]
   refine D_num _ _ _ hb (by omega) (by simp) (by simp) fun x x0=>?_;simp+contextual(maxSteps:=1000000)(disch:=omega)only[↓Sd,↓So,↓Sk,↓den,↓denA,Sa,Sb,Sc,Se,O1.d,O2.d,O3.d,cmI,arI,envOf,putN,↓reduceIte,Nat.reduceLT,Nat.reduceSub,Nat.reduceAdd,Int.reduceAdd,Int.reduceEq,Int.reduceLT,Int.reduceLE,arr_pos,arr_neg,]
   have hx:2≤x∧x≤5:=by simp only [List.mem_append,List.mem_singleton] at x0;omega
   refine ⟨fun _=>?_,fun _=>⟨_,_,_,⟨rfl,rfl,rfl⟩,by omega,by omega,by omega⟩⟩
   refine D_num _ _ _ hb (by omega) (by simp) (by simp) fun lo lo0=>?_;simp+contextual(maxSteps:=1000000)(disch:=omega)only[↓Sd,↓So,↓Sk,↓den,↓denA,Sa,Sb,Sc,Se,O1.d,O2.d,O3.d,cmI,arI,envOf,putN,↓reduceIte,Nat.reduceLT,Nat.reduceSub,Nat.reduceAdd,Int.reduceAdd,Int.reduceEq,Int.reduceLT,Int.reduceLE,arr_pos,arr_neg,]
   refine D_pick1 _ _ _ hb (by omega) (by omega) fun d d0 d1=>?_;simp+contextual(maxSteps:=1000000)(disch:=omega)only[↓Sd,↓So,↓Sk,↓den,↓denA,Sa,Sb,Sc,Se,O1.d,O2.d,O3.d,cmI,arI,envOf,putN,↓reduceIte,Nat.reduceLT,Nat.reduceSub,Nat.reduceAdd,Int.reduceAdd,Int.reduceEq,Int.reduceLT,Int.reduceLE,arr_pos,arr_neg,]
   simp+contextual(maxSteps:=1000000)(disch:=omega)only[↓Sd,↓So,↓Sk,↓den,↓denA,Sa,Sb,Sc,Se,O1.d,O2.d,O3.d,cmI,arI,envOf,putN,↓reduceIte,Nat.reduceLT,Nat.reduceSub,Nat.reduceAdd,Int.reduceAdd,Int.reduceEq,Int.reduceLT,Int.reduceLE,arr_pos,arr_neg,↓wpJoin,]
   exact ⟨_,_,_,⟨rfl,rfl,rfl⟩,by simp only [List.length_append,List.length_singleton];omega,by omega,by omega⟩
  ·rintro us ⟨p2,m,l,rfl,a1,a2,a3⟩
   simp+contextual(maxSteps:=1000000)(disch:=omega)only[↓Sd,↓So,↓Sk,↓den,↓denA,Sa,Sb,Sc,Se,O1.d,O2.d,O3.d,cmI,arI,envOf,putN,↓reduceIte,Nat.reduceLT,Nat.reduceSub,Nat.reduceAdd,Int.reduceAdd,Int.reduceEq,Int.reduceLT,Int.reduceLE,arr_pos,arr_neg,]
   exact ⟨k,by omega,p2,m,l,⟨rfl,rfl,rfl,rfl⟩,a1,a2,a3⟩
theorem D_l2Any (b:List Int) (p most:Int) (hb:Rdy b) (hp:0≤p∧p≤400000000) {Q:List AV→Prop} (h:∀(s:Sy) (p':Int),p≤p'∧p'≤p+31000→SmSy s→Q [⟨L V3,s.1⟩,⟨L TR,s.2⟩,⟨RD,(b,p')⟩]):mc.C f_spec_l2Any [⟨RD,(b,p)⟩,⟨I,most⟩] Q:=by
 refine mc.c_of F_spec_l2Any ?_
 simp+contextual(maxSteps:=1000000)(disch:=omega)only[↓Sd,↓So,↓Sk,↓den,↓denA,Sa,Sb,Sc,Se,O1.d,O2.d,O3.d,cmI,arI,envOf,putN,↓reduceIte,Nat.reduceLT,Nat.reduceSub,Nat.reduceAdd,Int.reduceAdd,Int.reduceEq,Int.reduceLT,Int.reduceLE,arr_pos,arr_neg,tr_spec_l2Any]
 refine D_l2System _ _ _ hb (by omega) fun s p1 hp1 hs h1 h2 h5=>?_
 simp+contextual(maxSteps:=1000000)(disch:=omega)only[↓Sd,↓So,↓Sk,↓den,↓denA,Sa,Sb,Sc,Se,O1.d,O2.d,O3.d,cmI,arI,envOf,putN,↓reduceIte,Nat.reduceLT,Nat.reduceSub,Nat.reduceAdd,Int.reduceAdd,Int.reduceEq,Int.reduceLT,Int.reduceLE,arr_pos,arr_neg,↓wpJoin,C_spec_l2Const]
 refine D_pick1 _ _ _ hb (by omega) (by omega) fun a a0 a1=>?_;simp+contextual(maxSteps:=1000000)(disch:=omega)only[↓Sd,↓So,↓Sk,↓den,↓denA,Sa,Sb,Sc,Se,O1.d,O2.d,O3.d,cmI,arI,envOf,putN,↓reduceIte,Nat.reduceLT,Nat.reduceSub,Nat.reduceAdd,Int.reduceAdd,Int.reduceEq,Int.reduceLT,Int.reduceLE,arr_pos,arr_neg,]
 refine ⟨fun _=>?_,fun _=>h _ _ (by omega) hs⟩
 have hV:∀(l:List Vr) (p':Int),l.length≤3→p≤p'∧p'≤p+31000→Q [⟨L V3,l⟩,⟨L TR,s.2⟩,⟨RD,(b,p')⟩]:=fun l p' hl hp'=>h (l,s.2) p' hp' ⟨hl,hs.2.1,hs.2.2⟩
 have hR:∀(r:Ru) (p':Int),SmRu r→p≤p'∧p'≤p+31000→Q [⟨L V3,s.1⟩,⟨L TR,s.2.set 0 r⟩,⟨RD,(b,p')⟩]:=fun r p' hr hp'=>h (s.1,s.2.set 0 r) p' hp' ⟨hs.1,by rw [List.length_set];exact hs.2.1,fun x hx=>(List.mem_or_eq_of_mem_set hx).elim (hs.2.2 x) fun e=>by rw [e];exact hr⟩
 have hS1:(s.1.set 0 (s.1.getD 0 (0,0,0))).length≤3:=by rw [List.length_set];exact hs.1
 have hsl:∀x:Vr,(s.1.set 0 x).length≤3:=fun x=>by rw [List.length_set];exact hs.1
 have hb0:SmR5 (s.2.getD 0 ([],[],[])):=by
  by_cases g:0<s.2.length
  ·exact h5 _ (getD_mem g)
  ·rw [List.getD_eq_getElem?_getD,List.getElem?_eq_none (by omega)];exact ⟨by simp,by simp,by simp,by simp⟩
 refine D_pick1 _ _ _ hb (by omega) (by omega) fun c c0 c1=>?_;simp+contextual(maxSteps:=1000000)(disch:=omega)only[↓Sd,↓So,↓Sk,↓den,↓denA,Sa,Sb,Sc,Se,O1.d,O2.d,O3.d,cmI,arI,envOf,putN,↓reduceIte,Nat.reduceLT,Nat.reduceSub,Nat.reduceAdd,Int.reduceAdd,Int.reduceEq,Int.reduceLT,Int.reduceLE,arr_pos,arr_neg,]
 have q1:=hb0.2.1
 have q2:=hb0.2.2.1
 simp+contextual(maxSteps:=1000000)(disch:=omega)only[↓Sd,↓So,↓Sk,↓den,↓denA,Sa,Sb,Sc,Se,O1.d,O2.d,O3.d,cmI,arI,envOf,putN,↓reduceIte,Nat.reduceLT,Nat.reduceSub,Nat.reduceAdd,Int.reduceAdd,Int.reduceEq,Int.reduceLT,Int.reduceLE,arr_pos,arr_neg,↓wpJoin,C_spec_l2Const]
 repeat' first | apply And.intro | intro _
 all_goals first
  | exact hV _ _ (hsl _) (by omega)
  | exact hV _ _ (by simp) (by omega)
  | exact hV _ _ hs.1 (by omega)
  | exact hR _ _ ⟨by simp,hb0.sm.2.1,hb0.sm.2.2.1,hb0.sm.2.2.2⟩ (by omega)
  | exact hR _ _ ⟨hb0.sm.1,by simp only [List.length_append,List.length_singleton];omega,hb0.sm.2.2.1,hb0.sm.2.2.2⟩ (by omega)
  | exact hR _ _ ⟨hb0.sm.1,hb0.sm.2.1,by simp only [List.length_append,List.length_singleton];omega,fun x hx=>(List.mem_append.1 hx).elim (hb0.sm.2.2.2 x) fun hx=>by rw [List.mem_singleton.1 hx];simp⟩ (by omega)
  | skip
 refine D_num _ _ _ hb (by omega) (by simp) (by simp) fun x x0=>?_;simp+contextual(maxSteps:=1000000)(disch:=omega)only[↓Sd,↓So,↓Sk,↓den,↓denA,Sa,Sb,Sc,Se,O1.d,O2.d,O3.d,cmI,arI,envOf,putN,↓reduceIte,Nat.reduceLT,Nat.reduceSub,Nat.reduceAdd,Int.reduceAdd,Int.reduceEq,Int.reduceLT,Int.reduceLE,arr_pos,arr_neg,]
 simp+contextual(maxSteps:=1000000)(disch:=omega)only[↓Sd,↓So,↓Sk,↓den,↓denA,Sa,Sb,Sc,Se,O1.d,O2.d,O3.d,cmI,arI,envOf,putN,↓reduceIte,Nat.reduceLT,Nat.reduceSub,Nat.reduceAdd,Int.reduceAdd,Int.reduceEq,Int.reduceLT,Int.reduceLE,arr_pos,arr_neg,↓wpJoin,]
 exact hV _ _ (hsl _) (by omega)
theorem C_laws_wcInts (a b:List Int) (ha:a.length≤1048576) (hb:b.length≤1048576) (Q:List AV→Prop):mc.C f_laws_wcInts [⟨L I,a⟩,⟨L I,b⟩] Q=Q [⟨B,decide (a=b)⟩]:=by
 refine Mc.Ends.c (mc.ends F_laws_wcInts ?_)
 generalize hK:decide (a=b)=K
 simp+contextual(maxSteps:=1000000)(disch:=omega)only[↓Sd,↓So,↓Sk,↓den,↓denA,Sa,Sb,Sc,Se,O1.d,O2.d,O3.d,cmI,arI,envOf,putN,↓reduceIte,Nat.reduceLT,Nat.reduceSub,Nat.reduceAdd,Int.reduceAdd,Int.reduceEq,Int.reduceLT,Int.reduceLE,arr_pos,arr_neg,tr_laws_wcInts]
 refine ⟨fun g=>?_,fun g=>?_⟩
 ·rw [←hK,decide_eq_false];intro h;rw [h] at g;exact absurd rfl g
 ·have hl:a.length=b.length:=by omega
  refine lp_all (fun i=>[⟨L I,b⟩,⟨L I,a⟩,⟨I,(a.length:Int)⟩,⟨I,(i:Int)⟩]) (fun i=>a.getD i 0=b.getD i 0) a.length _ ?_ ?_ ?_
  ·rw [hl];rfl
  ·intro i hi
   simp+contextual(maxSteps:=1000000)(disch:=omega)only[↓Sd,↓So,↓Sk,↓den,↓denA,Sa,Sb,Sc,Se,O1.d,O2.d,O3.d,cmI,arI,envOf,putN,↓reduceIte,Nat.reduceLT,Nat.reduceSub,Nat.reduceAdd,Int.reduceAdd,Int.reduceEq,Int.reduceLT,Int.reduceLE,arr_pos,arr_neg,]
   intro h
   rw [←hK,decide_eq_false]
   intro h2;rw [h2] at h;exact h rfl
  ·intro h
   simp+contextual(maxSteps:=1000000)(disch:=omega)only[↓Sd,↓So,↓Sk,↓den,↓denA,Sa,Sb,Sc,Se,O1.d,O2.d,O3.d,cmI,arI,envOf,putN,↓reduceIte,Nat.reduceLT,Nat.reduceSub,Nat.reduceAdd,Int.reduceAdd,Int.reduceEq,Int.reduceLT,Int.reduceLE,arr_pos,arr_neg,]
   rw [←hK,decide_eq_true]
   refine List.ext_getElem hl fun i h1 h2=>?_
   have:=h i h1
   rwa [getD_lt h1,getD_lt h2] at this
theorem D_l1Any (b:List Int) (p vars:Int) (hb:Rdy b) (hp:0≤p∧p≤700000000) (hv:0≤vars∧vars≤5) {Q:List AV→Prop} (h:∀(l:List Tm) (p':Int),p≤p'∧p'≤p+500→1≤l.length→l.length≤16→Q [⟨L T4,l⟩,⟨RD,(b,p')⟩]):mc.C f_spec_l1Any [⟨RD,(b,p)⟩,⟨I,vars⟩] Q:=by
 refine mc.c_of F_spec_l1Any ?_
 simp+contextual(maxSteps:=1000000)(disch:=omega)only[↓Sd,↓So,↓Sk,↓den,↓denA,Sa,Sb,Sc,Se,O1.d,O2.d,O3.d,cmI,arI,envOf,putN,↓reduceIte,Nat.reduceLT,Nat.reduceSub,Nat.reduceAdd,Int.reduceAdd,Int.reduceEq,Int.reduceLT,Int.reduceLE,arr_pos,arr_neg,tr_spec_l1Any]
 refine D_pick1 _ _ _ hb (by omega) (by omega) fun k k0 k1=>?_;simp+contextual(maxSteps:=1000000)(disch:=omega)only[↓Sd,↓So,↓Sk,↓den,↓denA,Sa,Sb,Sc,Se,O1.d,O2.d,O3.d,cmI,arI,envOf,putN,↓reduceIte,Nat.reduceLT,Nat.reduceSub,Nat.reduceAdd,Int.reduceAdd,Int.reduceEq,Int.reduceLT,Int.reduceLE,arr_pos,arr_neg,]
 refine D_l1Terms _ _ _ _ _ hb (by omega) hv (by omega) fun l p2 h1 h2 h3=>?_
 simp+contextual(maxSteps:=1000000)(disch:=omega)only[↓Sd,↓So,↓Sk,↓den,↓denA,Sa,Sb,Sc,Se,O1.d,O2.d,O3.d,cmI,arI,envOf,putN,↓reduceIte,Nat.reduceLT,Nat.reduceSub,Nat.reduceAdd,Int.reduceAdd,Int.reduceEq,Int.reduceLT,Int.reduceLE,arr_pos,arr_neg,↓wpJoin,]
 refine D_pick1 _ _ _ hb (by omega) (by omega) fun a a0 a1=>?_;simp+contextual(maxSteps:=1000000)(disch:=omega)only[↓Sd,↓So,↓Sk,↓den,↓denA,Sa,Sb,Sc,Se,O1.d,O2.d,O3.d,cmI,arI,envOf,putN,↓reduceIte,Nat.reduceLT,Nat.reduceSub,Nat.reduceAdd,Int.reduceAdd,Int.reduceEq,Int.reduceLT,Int.reduceLE,arr_pos,arr_neg,]
 refine ⟨fun _=>?_,fun _=>h _ _ (by omega) h2 h3⟩
 refine D_pick1 _ _ _ hb (by omega) (by omega) fun i i0 i1=>?_;simp+contextual(maxSteps:=1000000)(disch:=omega)only[↓Sd,↓So,↓Sk,↓den,↓denA,Sa,Sb,Sc,Se,O1.d,O2.d,O3.d,cmI,arI,envOf,putN,↓reduceIte,Nat.reduceLT,Nat.reduceSub,Nat.reduceAdd,Int.reduceAdd,Int.reduceEq,Int.reduceLT,Int.reduceLE,arr_pos,arr_neg,]
 refine D_pick1 _ _ _ hb (by omega) (by omega) fun f f0 f1=>?_;simp+contextual(maxSteps:=1000000)(disch:=omega)only[↓Sd,↓So,↓Sk,↓den,↓denA,Sa,Sb,Sc,Se,O1.d,O2.d,O3.d,cmI,arI,envOf,putN,↓reduceIte,Nat.reduceLT,Nat.reduceSub,Nat.reduceAdd,Int.reduceAdd,Int.reduceEq,Int.reduceLT,Int.reduceLE,arr_pos,arr_neg,↓wpJoin,]
 have hset:∀(x:Tm),1≤(l.set i.toNat x).length∧(l.set i.toNat x).length≤16:=fun x=>by rw [List.length_set];exact ⟨h2,h3⟩
 refine ⟨fun _=>?_,fun _=>⟨fun _=>?_,fun _=>⟨fun _=>?_,fun _=>?_⟩⟩⟩
 ·refine D_num _ _ _ hb (by omega) (by simp) (by simp) fun x x0=>?_;simp+contextual(maxSteps:=1000000)(disch:=omega)only[↓Sd,↓So,↓Sk,↓den,↓denA,Sa,Sb,Sc,Se,O1.d,O2.d,O3.d,cmI,arI,envOf,putN,↓reduceIte,Nat.reduceLT,Nat.reduceSub,Nat.reduceAdd,Int.reduceAdd,Int.reduceEq,Int.reduceLT,Int.reduceLE,arr_pos,arr_neg,]
  exact h _ _ (by omega) (hset _).1 (hset _).2
 ·refine D_num _ _ _ hb (by omega) (by simp) (by simp) fun x x0=>?_;simp+contextual(maxSteps:=1000000)(disch:=omega)only[↓Sd,↓So,↓Sk,↓den,↓denA,Sa,Sb,Sc,Se,O1.d,O2.d,O3.d,cmI,arI,envOf,putN,↓reduceIte,Nat.reduceLT,Nat.reduceSub,Nat.reduceAdd,Int.reduceAdd,Int.reduceEq,Int.reduceLT,Int.reduceLE,arr_pos,arr_neg,]
  exact h _ _ (by omega) (hset _).1 (hset _).2
 ·refine D_num _ _ _ hb (by omega) (by simp) (by simp) fun x x0=>?_;simp+contextual(maxSteps:=1000000)(disch:=omega)only[↓Sd,↓So,↓Sk,↓den,↓denA,Sa,Sb,Sc,Se,O1.d,O2.d,O3.d,cmI,arI,envOf,putN,↓reduceIte,Nat.reduceLT,Nat.reduceSub,Nat.reduceAdd,Int.reduceAdd,Int.reduceEq,Int.reduceLT,Int.reduceLE,arr_pos,arr_neg,]
  exact h _ _ (by omega) (hset _).1 (hset _).2
 ·refine D_num _ _ _ hb (by omega) (by simp) (by simp) fun x x0=>?_;simp+contextual(maxSteps:=1000000)(disch:=omega)only[↓Sd,↓So,↓Sk,↓den,↓denA,Sa,Sb,Sc,Se,O1.d,O2.d,O3.d,cmI,arI,envOf,putN,↓reduceIte,Nat.reduceLT,Nat.reduceSub,Nat.reduceAdd,Int.reduceAdd,Int.reduceEq,Int.reduceLT,Int.reduceLE,arr_pos,arr_neg,]
  exact h _ _ (by omega) (hset _).1 (hset _).2
theorem C_spec_l5First (s:Sy) (hs:FewSy s) (hv:valid s) (Q:List AV→Prop):mc.C f_spec_l5First [⟨L V3,s.1⟩,⟨L TR,s.2⟩] Q=Q [⟨L B,tab (fun k=>dB ((k:Int)∈[num s.1 (fst0 s.1)])) (szn s.1)⟩]:=by
 have hz:=szn_eq hv
 have hfi:=fst0_in hv.2.2.1
 have hn:=num_bd hv.2.2.1 hfi
 refine Mc.Ends.c (mc.ends F_spec_l5First ?_)
 simp+contextual(maxSteps:=1000000)(disch:=omega)only[↓Sd,↓So,↓Sk,↓den,↓denA,Sa,Sb,Sc,Se,O1.d,O2.d,O3.d,cmI,arI,envOf,putN,↓reduceIte,Nat.reduceLT,Nat.reduceSub,Nat.reduceAdd,Int.reduceAdd,Int.reduceEq,Int.reduceLT,Int.reduceLE,arr_pos,arr_neg,tr_spec_l5First,C_spec_FirstState s hs hv,C_spec_l4Number s _ hv.1.2 hv.2.2.1 hfi,C_spec_SizeOf s hs,if_pos hv]
 simp+contextual(maxSteps:=1000000)(disch:=omega)only[↓Sd,↓So,↓Sk,↓den,↓denA,Sa,Sb,Sc,Se,O1.d,O2.d,O3.d,cmI,arI,envOf,putN,↓reduceIte,Nat.reduceLT,Nat.reduceSub,Nat.reduceAdd,Int.reduceAdd,Int.reduceEq,Int.reduceLT,Int.reduceLE,arr_pos,arr_neg,↓wpJoin,C_spec_l4Marks_i [num s.1 (fst0 s.1)] (sz s.1) (szn s.1) hz.1.symm (by omega) (by simp) (by intro x hx;simp only [List.mem_singleton] at hx;omega)]
def clo (s:Sy) (l:List Int):Prop:=setV s l∧num s.1 (fst0 s.1)∈l∧∀x∈nextN s l,x∈l
theorem nextN_mem {s:Sy} {l:List Int} (h:setV s l) {x:Int}:x∈nextN s l↔∃k:Nat,k<szn s.1∧x=(k:Int)∧∃y∈l,(k:Int)∈(steps s).getD y.toNat []:=by
 rw [nextN,upTo_mem]
 constructor
 ·rintro ⟨k,h1,h2,h3⟩
  exact ⟨k,h1,h2,(behind_mem h.mem).1 (dB_iff.1 h3)⟩
 ·rintro ⟨k,h1,h2,h3⟩
  exact ⟨k,h1,h2,dB_t ((behind_mem h.mem).2 h3)⟩
theorem C_impl_closed (s:Sy) (l:List Int) (h:setV s l) (Q:List AV→Prop):mc.C f_impl_closed [⟨L V3,s.1⟩,⟨L TR,s.2⟩,⟨L I,l⟩] Q=Q [⟨B,dB (clo s l)⟩]:=by
 have hv:=h.1
 have hz:=szn_eq hv
 have hll:=h.len
 have hfi:=fst0_in hv.2.2.1
 have hn:=num_bd hv.2.2.1 hfi
 obtain ⟨m,hm,hmn⟩:=first_n hv
 refine Mc.Ends.c (mc.ends F_impl_closed ?_)
 generalize hK:dB (clo s l)=K
 simp+contextual(maxSteps:=1000000)(disch:=omega)only[↓Sd,↓So,↓Sk,↓den,↓denA,Sa,Sb,Sc,Se,O1.d,O2.d,O3.d,cmI,arI,envOf,putN,↓reduceIte,Nat.reduceLT,Nat.reduceSub,Nat.reduceAdd,Int.reduceAdd,Int.reduceEq,Int.reduceLT,Int.reduceLE,arr_pos,arr_neg,tr_impl_closed,C_impl_size s.1 hv.1.2 hv.2.2.1,C_impl_marks_i l (sz s.1) (szn s.1) hz.1.symm (by omega) (by omega) h.mem,C_impl_first s hv.1.2,C_impl_number s _ hv.1.2 hv.2.2.1 hfi,hm,tab_len,tab_get hmn]
 refine ⟨fun g=>?_,fun g=>?_⟩
 ·have e:upTo (ovr (steps s) l) (szn s.1)=nextN s l:=upTo_congr fun k _=>ovr_mem h.mem
  have hX:∀x∈nextN s l,0≤x∧x<(szn s.1:Int):=fun x hx=>by obtain ⟨k,h1,rfl,_⟩:=upTo_mem.1 hx;omega
  have hc:clo s l↔∀x∈nextN s l,x∈l:=⟨fun h=>h.2.2,fun h2=>⟨h,by rw [hm];exact dB_iff.1 g,h2⟩⟩
  have hXl:(nextN s l).length≤szn s.1:=upTo_len
  simp+contextual(maxSteps:=1000000)(disch:=omega)only[↓Sd,↓So,↓Sk,↓den,↓denA,Sa,Sb,Sc,Se,O1.d,O2.d,O3.d,cmI,arI,envOf,putN,↓reduceIte,Nat.reduceLT,Nat.reduceSub,Nat.reduceAdd,Int.reduceAdd,Int.reduceEq,Int.reduceLT,Int.reduceLE,arr_pos,arr_neg,C_impl_nexts s hv,C_impl_over (steps s) l (szn s.1) (by omega) (steps_tbl hv) (by omega) h.mem,e]
  refine lp_all (fun i=>[⟨I,((nextN s l).length:Int)⟩,⟨I,(i:Int)⟩,⟨L I,nextN s l⟩,⟨L B,tab (fun k=>dB ((k:Int)∈l)) (szn s.1)⟩]) (fun i=>(nextN s l).getD i 0∈l) (nextN s l).length _ rfl ?_ ?_
  ·intro i hi
   have h3:=hX _ (getD_mem (d:=0) hi)
   obtain ⟨x,hx⟩:∃x:Nat,(nextN s l).getD i 0=x:=⟨((nextN s l).getD i 0).toNat,by omega⟩
   have hxn:x<szn s.1:=by omega
   simp+contextual(maxSteps:=1000000)(disch:=omega)only[↓Sd,↓So,↓Sk,↓den,↓denA,Sa,Sb,Sc,Se,O1.d,O2.d,O3.d,cmI,arI,envOf,putN,↓reduceIte,Nat.reduceLT,Nat.reduceSub,Nat.reduceAdd,Int.reduceAdd,Int.reduceEq,Int.reduceLT,Int.reduceLE,arr_pos,arr_neg,hx,Int.toNat_natCast,tab_len,tab_get hxn]
   refine ⟨fun g2=>?_,fun g2=>dB_iff.1 (by simpa using g2)⟩
   have h6:¬clo s l:=by
    intro h4
    have h5:=hc.1 h4 _ (getD_mem (d:=0) hi)
    rw [hx] at h5
    rw [dB_t h5] at g2
    cases g2
   rw [←hK,dB_f h6]
   simp
  ·intro h4
   simp+contextual(maxSteps:=1000000)(disch:=omega)only[↓Sd,↓So,↓Sk,↓den,↓denA,Sa,Sb,Sc,Se,O1.d,O2.d,O3.d,cmI,arI,envOf,putN,↓reduceIte,Nat.reduceLT,Nat.reduceSub,Nat.reduceAdd,Int.reduceAdd,Int.reduceEq,Int.reduceLT,Int.reduceLE,arr_pos,arr_neg,]
   rw [←hK,dB_t (hc.2 (all_get (d:=0) h4))]
   rfl
 ·rw [←hK,dB_f]
  intro h2
  have:=h2.2.1
  rw [hm] at this
  exact g (dB_t this)
theorem C_impl_Closed (s:Sy) (l:List Int) (hs:FewSy s) (hl:l.length≤1048576) (Q:List AV→Prop):mc.C f_impl_Closed [⟨L V3,s.1⟩,⟨L TR,s.2⟩,⟨L I,l⟩] Q=Q [⟨B,dB (clo s l)⟩]:=by
 refine Mc.Ends.c (mc.ends F_impl_Closed ?_)
 simp+contextual(maxSteps:=1000000)(disch:=omega)only[↓Sd,↓So,↓Sk,↓den,↓denA,Sa,Sb,Sc,Se,O1.d,O2.d,O3.d,cmI,arI,envOf,putN,↓reduceIte,Nat.reduceLT,Nat.reduceSub,Nat.reduceAdd,Int.reduceAdd,Int.reduceEq,Int.reduceLT,Int.reduceLE,arr_pos,arr_neg,tr_impl_Closed,C_impl_SetValid s l hs hl]
 refine ⟨fun h=>?_,fun h=>?_⟩
 ·simp+contextual(maxSteps:=1000000)(disch:=omega)only[↓Sd,↓So,↓Sk,↓den,↓denA,Sa,Sb,Sc,Se,O1.d,O2.d,O3.d,cmI,arI,envOf,putN,↓reduceIte,Nat.reduceLT,Nat.reduceSub,Nat.reduceAdd,Int.reduceAdd,Int.reduceEq,Int.reduceLT,Int.reduceLE,arr_pos,arr_neg,C_impl_closed s l h]
 ·rw [dB_f fun g=>h g.1]
theorem C_impl_InRange (s:Sy) (st:List Int) (hs:FewSy s) (hv:valid s) (hl:st.length≤1048576) (Q:List AV→Prop):mc.C f_impl_InRange [⟨L V3,s.1⟩,⟨L TR,s.2⟩,⟨L I,st⟩] Q=Q [⟨B,decide (inR s.1 st)⟩]:=by
 refine Mc.Ends.c (mc.ends F_impl_InRange ?_)
 simp+contextual(maxSteps:=1000000)(disch:=omega)only[↓Sd,↓So,↓Sk,↓den,↓denA,Sa,Sb,Sc,Se,O1.d,O2.d,O3.d,cmI,arI,envOf,putN,↓reduceIte,Nat.reduceLT,Nat.reduceSub,Nat.reduceAdd,Int.reduceAdd,Int.reduceEq,Int.reduceLT,Int.reduceLE,arr_pos,arr_neg,tr_impl_InRange,C_impl_SystemValid s hs,hv,C_impl_inRange s st hv.1.2 hl]
def hw1 (s:Sy) (l:List Tm) (X:List Int) (x:Int):Prop:=holdsN s l x.toNat=true→∀y∈(steps s).getD x.toNat [],y∈X→holdsN s l y.toNat=true
def hw (s:Sy) (l:List Tm) (X:List Int):Prop:=∀x∈X,hw1 s l X x
theorem C_impl_goodIn (s:Sy) (l:List Tm) (hs:FewSy s) (hf:Few l) (h:valid s∧kf l s.1.length=2) (Q:List AV→Prop):mc.C f_impl_goodIn [⟨L V3,s.1⟩,⟨L TR,s.2⟩,⟨L T4,l⟩] Q=Q [⟨L B,tab (holdsN s l) (szn s.1)⟩,⟨B,true⟩]:=by
 refine Mc.Ends.c (mc.ends F_impl_goodIn ?_)
 simp+contextual(maxSteps:=1000000)(disch:=omega)only[↓Sd,↓So,↓Sk,↓den,↓denA,Sa,Sb,Sc,Se,O1.d,O2.d,O3.d,cmI,arI,envOf,putN,↓reduceIte,Nat.reduceLT,Nat.reduceSub,Nat.reduceAdd,Int.reduceAdd,Int.reduceEq,Int.reduceLT,Int.reduceLE,arr_pos,arr_neg,tr_impl_goodIn,C_impl_truthOf s l hs hf,h.1,h.2,C_impl_where s l h.1 (by omega:kf l s.1.length≠0)]
theorem C_impl_goodIn_no (s:Sy) (l:List Tm) (hs:FewSy s) (hf:Few l) (h:¬(valid s∧kf l s.1.length=2)) (Q:List AV→Prop):mc.C f_impl_goodIn [⟨L V3,s.1⟩,⟨L TR,s.2⟩,⟨L T4,l⟩] Q=Q [⟨L B,[]⟩,⟨B,false⟩]:=by
 refine Mc.Ends.c (mc.ends F_impl_goodIn ?_)
 simp+contextual(maxSteps:=1000000)(disch:=omega)only[↓Sd,↓So,↓Sk,↓den,↓denA,Sa,Sb,Sc,Se,O1.d,O2.d,O3.d,cmI,arI,envOf,putN,↓reduceIte,Nat.reduceLT,Nat.reduceSub,Nat.reduceAdd,Int.reduceAdd,Int.reduceEq,Int.reduceLT,Int.reduceLE,arr_pos,arr_neg,tr_impl_goodIn,C_impl_truthOf s l hs hf,h]
def prv (s:Sy) (l:List Tm) (X:List Int):Prop:=kf l s.1.length=2∧clo s X∧∀x∈X,holdsN s l x.toNat=true
theorem C_impl_Proves (s:Sy) (l:List Tm) (X:List Int) (hs:FewSy s) (hf:Few l) (hl:X.length≤1048576) (Q:List AV→Prop):mc.C f_impl_Proves [⟨L V3,s.1⟩,⟨L TR,s.2⟩,⟨L T4,l⟩,⟨L I,X⟩] Q=Q [⟨B,dB (prv s l X)⟩]:=by
 refine Mc.Ends.c (mc.ends F_impl_Proves ?_)
 generalize hK:dB (prv s l X)=K
 by_cases h:valid s∧kf l s.1.length=2
 ·simp+contextual(maxSteps:=1000000)(disch:=omega)only[↓Sd,↓So,↓Sk,↓den,↓denA,Sa,Sb,Sc,Se,O1.d,O2.d,O3.d,cmI,arI,envOf,putN,↓reduceIte,Nat.reduceLT,Nat.reduceSub,Nat.reduceAdd,Int.reduceAdd,Int.reduceEq,Int.reduceLT,Int.reduceLE,arr_pos,arr_neg,tr_impl_Proves,C_impl_truthOf s l hs hf,h.1,h.2,C_impl_Closed s X hs hl]
  refine ⟨fun g=>?_,fun g=>?_⟩
  ·have hc:=dB_iff.1 g
   have hz:=szn_eq h.1
   simp+contextual(maxSteps:=1000000)(disch:=omega)only[↓Sd,↓So,↓Sk,↓den,↓denA,Sa,Sb,Sc,Se,O1.d,O2.d,O3.d,cmI,arI,envOf,putN,↓reduceIte,Nat.reduceLT,Nat.reduceSub,Nat.reduceAdd,Int.reduceAdd,Int.reduceEq,Int.reduceLT,Int.reduceLE,arr_pos,arr_neg,C_impl_size s.1 h.1.1.2 h.1.2.2.1,C_impl_marks_i X (sz s.1) (szn s.1) hz.1.symm (by omega) hl hc.1.mem,C_impl_always s l _ h.1 (by omega:kf l s.1.length≠0)]
   rw [←hK]
   refine dB_congr ⟨fun g1=>⟨h.2,hc,fun x hx=>?_⟩,fun g1 k hk hk2=>?_⟩
   ·have hx2:=hc.1.mem x hx
    exact g1 x.toNat (by omega) (dB_t (by rw [show ((x.toNat:Nat):Int)=x by omega];exact hx))
   ·have:=g1.2.2 _ (dB_iff.1 hk2)
    rwa [Int.toNat_natCast] at this
  ·rw [←hK,dB_f fun h=>g (dB_t h.2.1)]
 ·simp+contextual(maxSteps:=1000000)(disch:=omega)only[↓Sd,↓So,↓Sk,↓den,↓denA,Sa,Sb,Sc,Se,O1.d,O2.d,O3.d,cmI,arI,envOf,putN,↓reduceIte,Nat.reduceLT,Nat.reduceSub,Nat.reduceAdd,Int.reduceAdd,Int.reduceEq,Int.reduceLT,Int.reduceLE,arr_pos,arr_neg,tr_impl_Proves,C_impl_truthOf s l hs hf,h]
  rw [←hK,dB_f fun g=>h ⟨g.2.1.1.1,g.1⟩]
theorem D_l15Ask (b:List Int) (hb:Byt b) (hl:Lt63 b) {Q:List AV→Prop} (h:∀(s:Sy) (l:List Tm) (k:Int),SmSy s→l.length≤16→0≤k∧k≤7→Q [⟨L V3,s.1⟩,⟨L TR,s.2⟩,⟨L T4,l⟩,⟨I,k⟩]):mc.C f_spec_l15Ask [⟨L U,b⟩] Q:=by
 refine mc.c_of F_spec_l15Ask ?_
 simp+contextual(maxSteps:=1000000)(disch:=omega)only[↓Sd,↓So,↓Sk,↓den,↓denA,Sa,Sb,Sc,Se,O1.d,O2.d,O3.d,cmI,arI,envOf,putN,↓reduceIte,Nat.reduceLT,Nat.reduceSub,Nat.reduceAdd,Int.reduceAdd,Int.reduceEq,Int.reduceLT,Int.reduceLE,arr_pos,arr_neg,tr_spec_l15Ask]
 refine D_open b hb hl fun b hb=>?_
 simp+contextual(maxSteps:=1000000)(disch:=omega)only[↓Sd,↓So,↓Sk,↓den,↓denA,Sa,Sb,Sc,Se,O1.d,O2.d,O3.d,cmI,arI,envOf,putN,↓reduceIte,Nat.reduceLT,Nat.reduceSub,Nat.reduceAdd,Int.reduceAdd,Int.reduceEq,Int.reduceLT,Int.reduceLE,arr_pos,arr_neg,]
 refine D_l2Any _ _ _ hb (by omega) fun s p' _ hs=>?_
 have h3:=hs.1
 simp+contextual(maxSteps:=1000000)(disch:=omega)only[↓Sd,↓So,↓Sk,↓den,↓denA,Sa,Sb,Sc,Se,O1.d,O2.d,O3.d,cmI,arI,envOf,putN,↓reduceIte,Nat.reduceLT,Nat.reduceSub,Nat.reduceAdd,Int.reduceAdd,Int.reduceEq,Int.reduceLT,Int.reduceLE,arr_pos,arr_neg,]
 refine D_num _ _ _ hb (by omega) (by simp) (by simp) fun k k0=>?_;simp+contextual(maxSteps:=1000000)(disch:=omega)only[↓Sd,↓So,↓Sk,↓den,↓denA,Sa,Sb,Sc,Se,O1.d,O2.d,O3.d,cmI,arI,envOf,putN,↓reduceIte,Nat.reduceLT,Nat.reduceSub,Nat.reduceAdd,Int.reduceAdd,Int.reduceEq,Int.reduceLT,Int.reduceLE,arr_pos,arr_neg,]
 have hk:0≤k∧k≤7:=by simp only [List.mem_append,List.mem_singleton] at k0;omega
 simp+contextual(maxSteps:=1000000)(disch:=omega)only[↓Sd,↓So,↓Sk,↓den,↓denA,Sa,Sb,Sc,Se,O1.d,O2.d,O3.d,cmI,arI,envOf,putN,↓reduceIte,Nat.reduceLT,Nat.reduceSub,Nat.reduceAdd,Int.reduceAdd,Int.reduceEq,Int.reduceLT,Int.reduceLE,arr_pos,arr_neg,C_spec_l2Var (s.1.getD 0 (0,0,0))]
 refine ⟨fun g=>?_,fun g=>⟨fun _=>?_,fun _=>?_⟩⟩
 ·refine D_l1Any _ _ _ hb (by omega) (by omega) fun l p2 h1 h2 h4=>?_
  simp+contextual(maxSteps:=1000000)(disch:=omega)only[↓Sd,↓So,↓Sk,↓den,↓denA,Sa,Sb,Sc,Se,O1.d,O2.d,O3.d,cmI,arI,envOf,putN,↓reduceIte,Nat.reduceLT,Nat.reduceSub,Nat.reduceAdd,Int.reduceAdd,Int.reduceEq,Int.reduceLT,Int.reduceLE,arr_pos,arr_neg,↓wpJoin,]
  exact h s l k hs h4 hk
 ·refine D_l1Any _ _ _ hb (by omega) (by omega) fun l p2 h1 h2 h4=>?_
  simp+contextual(maxSteps:=1000000)(disch:=omega)only[↓Sd,↓So,↓Sk,↓den,↓denA,Sa,Sb,Sc,Se,O1.d,O2.d,O3.d,cmI,arI,envOf,putN,↓reduceIte,Nat.reduceLT,Nat.reduceSub,Nat.reduceAdd,Int.reduceAdd,Int.reduceEq,Int.reduceLT,Int.reduceLE,arr_pos,arr_neg,↓wpJoin,]
  exact h s l k hs h4 hk
 ·refine D_pick1 _ _ _ hb (by omega) (by omega) fun a a0 a1=>?_;simp+contextual(maxSteps:=1000000)(disch:=omega)only[↓Sd,↓So,↓Sk,↓den,↓denA,Sa,Sb,Sc,Se,O1.d,O2.d,O3.d,cmI,arI,envOf,putN,↓reduceIte,Nat.reduceLT,Nat.reduceSub,Nat.reduceAdd,Int.reduceAdd,Int.reduceEq,Int.reduceLT,Int.reduceLE,arr_pos,arr_neg,]
  refine ⟨fun _=>?_,fun _=>?_⟩
  ·refine D_l1Any _ _ _ hb (by omega) (by omega) fun l p2 h1 h2 h4=>?_
   simp+contextual(maxSteps:=1000000)(disch:=omega)only[↓Sd,↓So,↓Sk,↓den,↓denA,Sa,Sb,Sc,Se,O1.d,O2.d,O3.d,cmI,arI,envOf,putN,↓reduceIte,Nat.reduceLT,Nat.reduceSub,Nat.reduceAdd,Int.reduceAdd,Int.reduceEq,Int.reduceLT,Int.reduceLE,arr_pos,arr_neg,↓wpJoin,]
   exact h s l k hs h4 hk
  ·refine D_l2When _ _ _ hb (by omega) (by rw [List.length_take];omega) (by rw [List.length_take];omega) fun l p2 h1 h2=>?_
   simp+contextual(maxSteps:=1000000)(disch:=omega)only[↓Sd,↓So,↓Sk,↓den,↓denA,Sa,Sb,Sc,Se,O1.d,O2.d,O3.d,cmI,arI,envOf,putN,↓reduceIte,Nat.reduceLT,Nat.reduceSub,Nat.reduceAdd,Int.reduceAdd,Int.reduceEq,Int.reduceLT,Int.reduceLE,arr_pos,arr_neg,↓wpJoin,]
   exact h s l k hs (by omega) hk
theorem dg_num {l:List Vr} {st:List Int} (hv:∀v∈l,vOk v) (hst:inR l st):∀{j:Nat},j≤l.length→dg (l.drop (l.length - j)) (num l st)=(numN l st (l.length - j),st.drop (l.length - j))
 | 0,_=>by
  have h1:l.drop (l.length - 0)=[]:=by simp
  have h2:st.drop (l.length - 0)=[]:=by rw [←hst.1];simp
  rw [h1,h2];rfl
 | j+1,hj=>by
  have ih:=dg_num hv hst (j:=j) (by omega)
  obtain ⟨k,hk⟩:∃k,l.length - (j+1)=k:=⟨_,rfl⟩
  have hk1:l.length - j=k+1:=by omega
  have hkl:k<l.length:=by omega
  rw [hk1] at ih
  rw [hk,dg_next hkl,ih]
  have h1:=hst.2 k hkl
  have h3:=wd_ok (hv _ (getD_mem (d:=(0,0,0)) hkl))
  have h6:wd (l.getD k (0,0,0))=(l.getD k (0,0,0)).2.1 - (l.getD k (0,0,0)).1+1:=rfl
  have hst1:=hst.1
  rw [drop_cons (l:=st) (d:=0) (show k<st.length by omega)]
  simp only [numN]
  generalize wd (l.getD k (0,0,0))=w at *
  generalize (l.getD k (0,0,0))=v at *
  generalize st.getD k 0=x at *
  generalize numN l st k=a at *
  have e:a * w+x - v.1=(x - v.1)+a * w:=by omega
  have e1:(x - v.1+a * w) / w=a:=by rw [Int.add_mul_ediv_right _ _ (by omega),Int.ediv_eq_zero_of_lt (by omega) (by omega)];omega
  have e2:(x - v.1+a * w) % w=x - v.1:=by rw [Int.add_mul_emod_self_right,Int.emod_eq_of_lt (by omega) (by omega)]
  rw [e,e1,e2]
  congr 2
  omega
theorem stAt_num {l:List Vr} {st:List Int} (hv:∀v∈l,vOk v) (hst:inR l st):stAt l (num l st)=st:=by
 have:=dg_num hv hst (Nat.le_refl _)
 rw [Nat.sub_self,List.drop_zero,List.drop_zero] at this
 rw [stAt,this]
theorem nxtN_rule {s:Sy} {st x:List Int}:∀{k:Nat},x∈nxtN s st k→∃r,r<k∧useM s.1 (s.2.getD r ([],[],[])) st=x∧x≠[]
 | 0,h=>by simp [nxtN] at h
 | k+1,h=>by
  simp only [nxtN] at h
  split at h
  ·obtain ⟨r,h1,h2⟩:=nxtN_rule h;exact ⟨r,by omega,h2⟩
  ·rename_i h1
   rcases putM_mem h with rfl | h
   ·exact ⟨k,by omega,rfl,h1⟩
   ·obtain ⟨r,h1,h2⟩:=nxtN_rule h;exact ⟨r,by omega,h2⟩
theorem step_rule {s:Sy} (h:valid s) {a k:Nat} (ha:a<szn s.1) (hk:(k:Int)∈(steps s).getD a []):∃r,r<s.2.length∧useM s.1 (s.2.getD r ([],[],[])) (stN s a)=stN s k∧stN s k≠[]:=by
 rw [steps,tab_get ha,stepR] at hk
 obtain ⟨x,h1,h2⟩:=List.mem_map.1 hk
 obtain ⟨r,h3,h4,h5⟩:=nxtN_rule h1
 have h6:stN s k=x:=by rw [stN,←h2];exact stAt_num h.2.2.1 (nxt_in x h1)
 exact ⟨r,h3,by rw [h6];exact h4,by rw [h6];exact h5⟩
theorem stN_first {s:Sy} (h:valid s) {m:Nat} (hm:num s.1 (fst0 s.1)=m):stN s m=fst0 s.1:=by rw [stN,←hm];exact stAt_num h.2.2.1 (fst0_in h.2.2.1)
def fst1 (p:Nat→Bool):Nat→Int
 | 0 => -1
 | n+1=>if 0≤fst1 p n then fst1 p n else if p n=true then (n:Int) else -1
theorem fst1_none {p:Nat→Bool}:∀{n:Nat},(∀j,j<n→¬p j=true)→fst1 p n = -1
 | 0,_=>rfl
 | n+1,h=>by rw [fst1,fst1_none fun j hj=>h j (by omega),if_neg (by omega),if_neg (h n (by omega))]
theorem fst1_hit {p:Nat→Bool} {i:Nat} (hp:p i=true) (h:∀j,j<i→¬p j=true):∀{n:Nat},i<n→fst1 p n=i
 | 0,hi=>absurd hi (Nat.not_lt_zero _)
 | n+1,hi=>by
  rw [fst1]
  by_cases g:i<n
  ·rw [fst1_hit hp h g,if_pos (by omega)]
  ·have:i=n:=by omega
   subst this
   rw [fst1_none h,if_neg (by omega),if_pos hp]
theorem fst1_ge {p:Nat→Bool} {i n:Nat} (hi:i<n) (hp:p i=true):0≤fst1 p n:=by
 obtain ⟨d,h1,h2⟩:=least (P:=fun i=>p i=true) ⟨i,hp⟩
 have:¬i<d:=fun g=>h2 i g hp
 rw [fst1_hit h1 h2 (show d<n by omega)];omega
def rbt (s:Sy) (a b:List Int):Int:=fst1 (fun r=>decide (useM s.1 (s.2.getD r ([],[],[])) a≠[]∧useM s.1 (s.2.getD r ([],[],[])) a=b)) s.2.length
theorem rbt_step {s:Sy} (h:valid s) {a k:Nat} (ha:a<szn s.1) (hk:(k:Int)∈(steps s).getD a []):0≤rbt s (stN s a) (stN s k):=by
 obtain ⟨r,h1,h2,h3⟩:=step_rule h ha hk
 exact fst1_ge h1 (decide_eq_true ⟨by rw [h2];exact h3,h2⟩)
def IsPrd (T:List (List Int)) (f:Nat→Int) (n k a:Nat):Prop:=a<n∧f a+1=f k∧(k:Int)∈T.getD a []∧∀b,b<a→¬(f b+1=f k∧(k:Int)∈T.getD b [])
theorem prd_ex {T:List (List Int)} {F:List Int} {n k:Nat} (ht:Tbl T n) (hF:∀x∈F,x<n) (h:0<dst T F k):∃a,IsPrd T (dst T F) n k a:=by
 have key:∃a,dst T F a+1=dst T F k∧(k:Int)∈T.getD a []:=by
  obtain ⟨d,hd⟩:∃d:Nat,dst T F k=((d+1:Nat):Int):=⟨(dst T F k).toNat - 1,by omega⟩
  have h1:Lay T F (d+1) k:=dst_le.2 ⟨by omega,by omega⟩
  have h2:¬Lay T F d k:=fun g=>by have:=dst_le.1 g;omega
  rcases h1 with h1 | ⟨a,h1,h3⟩
  ·exact absurd h1 h2
  ·have h4:=dst_le.1 h1
   refine ⟨a,?_,h3⟩
   have h5:Lay T F ((dst T F a).toNat+1) k:=.inr ⟨a,dst_le.2 ⟨h4.1,by omega⟩,h3⟩
   have h6:=dst_le.1 h5
   omega
 obtain ⟨a,h1,h2⟩:=least key
 refine ⟨a,?_,h1.1,h1.2,h2⟩
 have:Rch T F a:=dst_rch.1 (by omega)
 exact this.lt ht hF
def Chain (T:List (List Int)) (f:Nat→Int) (n k D:Nat) (ch:Nat→Nat):Prop:=ch D=k∧(∀e,e<D→IsPrd T f n (ch (e+1)) (ch e))∧∀e,e≤D→ch e<n∧f (ch e)=e
theorem chain_ex {T:List (List Int)} {F:List Int} {n:Nat} (ht:Tbl T n) (hF:∀x∈F,x<n):∀{D k:Nat},k<n→dst T F k=D→∃ch,Chain T (dst T F) n k D ch
 | 0,k,hk,h=>⟨fun _=>k,rfl,fun e he=>absurd he (Nat.not_lt_zero _),fun e he=>⟨hk,by rw [h,show e=0 by omega]⟩⟩
 | D+1,k,hk,h=>by
  obtain ⟨a,ha⟩:=prd_ex ht hF (show 0<dst T F k by omega)
  obtain ⟨ch,h1,h2,h3⟩:=chain_ex ht hF (D:=D) ha.1 (by have:=ha.2.1;omega)
  refine ⟨fun e=>if e≤D then ch e else k,if_neg (by omega),fun e he=>?_,fun e he=>?_⟩
  ·show IsPrd T (dst T F) n (if e+1≤D then ch (e+1) else k) (if e≤D then ch e else k)
   by_cases g:e<D
   ·rw [if_pos (show e≤D by omega),if_pos (show e+1≤D by omega)];exact h2 e g
   ·have:e=D:=by omega
    subst this
    rw [if_pos (Nat.le_refl _),if_neg (by omega),h1];exact ha
  ·show (if e≤D then ch e else k)<n∧dst T F (if e≤D then ch e else k)=e
   by_cases g:e≤D
   ·rw [if_pos g];exact h3 e g
   ·have:e=D+1:=by omega
    subst this
    rw [if_neg (by omega)];exact ⟨hk,h⟩
theorem Chain.few {T:List (List Int)} {f:Nat→Int} {n k D:Nat} {ch:Nat→Nat} (h:Chain T f n k D ch):D<n:=by
 have key:∀e,e≤D→e<(upTo (fun k=>decide (0≤f k∧f k≤(e:Int))) n).length:=by
  intro e
  induction e with
  | zero =>
   intro _
   have h1:=h.2.2 0 (by omega)
   exact upTo_pos.2 ⟨ch 0,h1.1,decide_eq_true (by omega)⟩
  | succ e ih =>
   intro he
   have h1:=ih (by omega)
   have h2:=h.2.2 (e+1) he
   have h3:=upTo_mono (p:=fun k=>decide (0≤f k∧f k≤(e:Int))) (q:=fun k=>decide (0≤f k∧f k≤((e+1:Nat):Int))) (n:=n) fun k _ hk=>decide_eq_true (by have:=of_decide_eq_true hk;omega)
   by_cases g:(upTo (fun k=>decide (0≤f k∧f k≤((e+1:Nat):Int))) n).length≤(upTo (fun k=>decide (0≤f k∧f k≤(e:Int))) n).length
   ·have h4:=h3.2 g (ch (e+1)) h2.1 (decide_eq_true (by omega))
    have h5:=of_decide_eq_true h4
    omega
   ·omega
 have h1:=key D (Nat.le_refl _)
 have h2:=@upTo_len (fun k=>decide (0≤f k∧f k≤(D:Int))) n
 omega
def bst1 (f:Nat→Int) (b x:Int):Int:=if 0≤f x.toNat∧(b<0∨f x.toNat<f b.toNat) then x else b
def bstL (f:Nat→Int) (l:List Int):Int:=l.foldl (bst1 f) (-1)
theorem bstL_snoc {f:Nat→Int} {l:List Int} {x:Int}:bstL f (l++[x])=bst1 f (bstL f l) x:=by simp [bstL,List.foldl_append]
def near (p:Nat→Bool) (f:Nat→Int) (n:Nat):Int:=bstL f (upTo p n)
theorem near_next {p:Nat→Bool} {f:Nat→Int} {n:Nat}:near p f (n+1)=if p n=true then bst1 f (near p f n) n else near p f n:=by
 unfold near
 by_cases g:p n=true
 ·rw [upTo_s g,if_pos g,bstL_snoc]
 ·rw [upTo_n g,if_neg g]
theorem near_spec {p:Nat→Bool} {f:Nat→Int}:∀{n:Nat},(near p f n = -1∧∀k,k<n→p k=true→f k<0)∨∃b:Nat,near p f n=b∧b<n∧p b=true∧0≤f b∧∀k,k<n→p k=true→0≤f k→f b≤f k
 | 0=>.inl ⟨rfl,fun k hk=>absurd hk (Nat.not_lt_zero _)⟩
 | n+1=>by
  rw [near_next]
  by_cases g:p n=true
  ·rw [if_pos g,bst1,Int.toNat_natCast]
   rcases @near_spec p f n with ⟨h1,h2⟩ | ⟨b,h1,h2,h3,h4,h5⟩
   ·rw [h1]
    by_cases g2:0≤f n
    ·rw [if_pos ⟨g2,.inl (by omega)⟩]
     refine .inr ⟨n,rfl,by omega,g,g2,fun k hk hp hf=>?_⟩
     by_cases e:k=n
     ·subst e;exact Int.le_refl _
     ·have:=h2 k (by omega) hp;omega
    ·rw [if_neg fun h=>g2 h.1]
     refine .inl ⟨rfl,fun k hk hp=>?_⟩
     by_cases e:k=n
     ·subst e;omega
     ·exact h2 k (by omega) hp
   ·rw [h1,Int.toNat_natCast]
    by_cases g2:0≤f n∧f n<f b
    ·rw [if_pos ⟨g2.1,.inr g2.2⟩]
     refine .inr ⟨n,rfl,by omega,g,g2.1,fun k hk hp hf=>?_⟩
     by_cases e:k=n
     ·subst e;exact Int.le_refl _
     ·have:=h5 k (by omega) hp hf;omega
    ·rw [if_neg fun h=>g2 ⟨h.1,h.2.elim (fun h=>by omega) id⟩]
     refine .inr ⟨b,rfl,by omega,h3,h4,fun k hk hp hf=>?_⟩
     by_cases e:k=n
     ·subst e;omega
     ·exact h5 k (by omega) hp hf
  ·rw [if_neg g]
   rcases @near_spec p f n with ⟨h1,h2⟩ | ⟨b,h1,h2,h3,h4,h5⟩
   ·refine .inl ⟨h1,fun k hk hp=>?_⟩
    by_cases e:k=n
    ·subst e;exact absurd hp g
    ·exact h2 k (by omega) hp
   ·refine .inr ⟨b,h1,by omega,h3,h4,fun k hk hp hf=>?_⟩
    by_cases e:k=n
    ·subst e;exact absurd hp g
    ·exact h5 k (by omega) hp hf
theorem dst_bd {T:List (List Int)} {F:List Int} {n k:Nat} (ht:Tbl T n) (hF:∀x∈F,x<n) (hk:k<n) : -1≤dst T F k∧dst T F k<n:=by
 have h1 : -1≤dst T F k:=by unfold dst;split<;>omega
 refine ⟨h1,?_⟩
 by_cases g:0≤dst T F k
 ·obtain ⟨ch,hc⟩:=chain_ex ht hF (D:=(dst T F k).toNat) hk (by omega)
  have:=hc.few
  omega
 ·omega
theorem pastL_lt {T:List (List Int)} {k m:Nat}:∀x∈pastL T k m,x<(m:Int):=fun x hx=>by
 obtain ⟨a,h1,rfl,_⟩:=pastL_mem.1 hx
 omega
theorem pastL_sorted {T:List (List Int)} {k:Nat}:∀{m:Nat},(pastL T k m).Pairwise (·≤·)
 | 0=>List.Pairwise.nil
 | m+1=>by
  simp only [pastL]
  refine List.pairwise_append.2 ⟨pastL_sorted,?_,fun x hx y hy=>?_⟩
  ·exact List.pairwise_replicate.2 (.inr (Int.le_refl _))
  ·have h1:=pastL_lt x hx
   have h2:=(List.mem_replicate.1 hy).2
   omega
theorem sorted_get {l:List Int} (h:l.Pairwise (·≤·)) {i j:Nat} (hij:i≤j) (hj:j<l.length):l.getD i 0≤l.getD j 0:=by
 by_cases e:i=j
 ·subst e;exact Int.le_refl _
 ·rw [getD_lt hj,getD_lt (by omega)]
  exact List.pairwise_iff_getElem.1 h i j (by omega) hj (by omega)
noncomputable def dS (s:Sy) (k:Nat):Int:=dst (steps s) [num s.1 (fst0 s.1)] k
noncomputable def nearS (s:Sy) (l:List Tm):Int:=near (holdsN s l) (dS s) (szn s.1)
theorem first_lt {s:Sy} (h:valid s):∀x∈[num s.1 (fst0 s.1)],x<(szn s.1:Int):=fun x hx=>by
 have h1:=num_bd h.2.2.1 (fst0_in h.2.2.1)
 have h2:=szn_eq h
 simp only [List.mem_singleton] at hx
 omega
theorem dS_bd {s:Sy} (h:valid s) {k:Nat} (hk:k<szn s.1) : -1≤dS s k∧dS s k<szn s.1:=dst_bd (steps_tbl h) (first_lt h) hk
theorem useM_few {s:Sy} (h:valid s) {r:Ru} {a:List Int}:(useM s.1 r a).length≤1048576:=by
 by_cases h0:useM s.1 r a=[]
 ·rw [h0];simp
 ·have h1:=(useM_in h0).1;have h2:=h.1.2;omega
theorem rbt_next {s:Sy} {a b:List Int} {i:Nat} (hp:∀j,j<i→¬(¬useM s.1 (s.2.getD j ([],[],[])) a=[]∧useM s.1 (s.2.getD j ([],[],[])) a=b)):¬(¬useM s.1 (s.2.getD i ([],[],[])) a=[]∧useM s.1 (s.2.getD i ([],[],[])) a=b) →
  ∀j,j<i+1→¬(¬useM s.1 (s.2.getD j ([],[],[])) a=[]∧useM s.1 (s.2.getD j ([],[],[])) a=b):=by
 intro hn j hj
 rcases Nat.lt_succ_iff_lt_or_eq.1 hj with hj | rfl
 ·exact hp j hj
 ·exact hn
theorem C_spec_l3Between (s:Sy) (a b:List Int) (h:valid s) (ha:inR s.1 a) (hb:b.length≤1048576) (Q:List AV→Prop):mc.C f_spec_l3Between [⟨L V3,s.1⟩,⟨L TR,s.2⟩,⟨L I,a⟩,⟨L I,b⟩] Q=Q [⟨I,rbt s a b⟩]:=by
 refine Mc.Ends.c (mc.ends F_spec_l3Between ?_)
 generalize hK:rbt s a b=K
 simp+contextual(maxSteps:=1000000)(disch:=omega)only[↓Sd,↓So,↓Sk,↓den,↓denA,Sa,Sb,Sc,Se,O1.d,O2.d,O3.d,cmI,arI,envOf,putN,↓reduceIte,Nat.reduceLT,Nat.reduceSub,Nat.reduceAdd,Int.reduceAdd,Int.reduceEq,Int.reduceLT,Int.reduceLE,arr_pos,arr_neg,tr_spec_l3Between]
 refine mc.lp_for Unit (fun i _=>[⟨L I,a⟩,⟨L I,b⟩,⟨I,(i:Int)⟩,⟨L V3,s.1⟩,⟨L TR,s.2⟩]) (fun i _=>∀j,j<i→¬(¬useM s.1 (s.2.getD j ([],[],[])) a=[]∧useM s.1 (s.2.getD j ([],[],[])) a=b)) s.2.length 0 () _ rfl (Nat.zero_le _) (fun j hj=>absurd hj (Nat.not_lt_zero _)) ?_ ?_
 ·rintro i - hi hp
  have hu:(useM s.1 (s.2.getD i ([],[],[])) a).length≤1048576:=useM_few h
  have next:=rbt_next (s:=s) (a:=a) (b:=b) hp
  have h8:=h.2.1
  have hit:(¬useM s.1 (s.2.getD i ([],[],[])) a=[]∧useM s.1 (s.2.getD i ([],[],[])) a=b)→(i:Int)=K:=fun hh=>by
   rw [←hK,rbt,fst1_hit (i:=i) (decide_eq_true hh) (fun j hj h=>hp j hj (of_decide_eq_true h)) hi]
  simp+contextual(maxSteps:=1000000)(disch:=omega)only[↓Sd,↓So,↓Sk,↓den,↓denA,Sa,Sb,Sc,Se,O1.d,O2.d,O3.d,cmI,arI,envOf,putN,↓reduceIte,Nat.reduceLT,Nat.reduceSub,Nat.reduceAdd,Int.reduceAdd,Int.reduceEq,Int.reduceLT,Int.reduceLE,arr_pos,arr_neg,↓wpJoin,C_spec_l2Use s a i h ha hi,C_spec_l2Same (useM s.1 (s.2.getD i ([],[],[])) a) b hu hb]
  have hpos:¬useM s.1 (s.2.getD i ([],[],[])) a=[]↔((useM s.1 (s.2.getD i ([],[],[])) a).length:Int) > 0:=by
   rw [←ne_eq,←List.length_pos_iff];omega
  exact ⟨fun g1=>⟨fun g2=>hit ⟨hpos.2 g1,g2⟩,fun g2=>next fun h=>g2 h.2⟩,fun g1=>next fun h=>g1 (hpos.1 h.1)⟩
 ·rintro - hp
  simp+contextual(maxSteps:=1000000)(disch:=omega)only[↓Sd,↓So,↓Sk,↓den,↓denA,Sa,Sb,Sc,Se,O1.d,O2.d,O3.d,cmI,arI,envOf,putN,↓reduceIte,Nat.reduceLT,Nat.reduceSub,Nat.reduceAdd,Int.reduceAdd,Int.reduceEq,Int.reduceLT,Int.reduceLE,arr_pos,arr_neg,]
  rw [←hK,rbt,fst1_none fun j hj h=>hp j hj (of_decide_eq_true h)]
theorem C_slices_Equal (a b:List Int) (ha:a.length≤1048576) (hb:b.length≤1048576) (Q:List AV→Prop):mc.C f_slices_Equal_Sint_int [⟨L I,a⟩,⟨L I,b⟩] Q=Q [⟨B,decide (a=b)⟩]:=by
 refine Mc.Ends.c (mc.ends F_slices_Equal_Sint_int ?_)
 generalize hK:decide (a=b)=K
 simp+contextual(maxSteps:=1000000)(disch:=omega)only[↓Sd,↓So,↓Sk,↓den,↓denA,Sa,Sb,Sc,Se,O1.d,O2.d,O3.d,cmI,arI,envOf,putN,↓reduceIte,Nat.reduceLT,Nat.reduceSub,Nat.reduceAdd,Int.reduceAdd,Int.reduceEq,Int.reduceLT,Int.reduceLE,arr_pos,arr_neg,tr_slices_Equal_Sint_int]
 refine ⟨fun g=>?_,fun g=>?_⟩
 ·rw [←hK,decide_eq_false];intro h;rw [h] at g;exact g rfl
 ·have hl:a.length=b.length:=by omega
  refine lp_all (fun i=>[⟨L I,a⟩,⟨L I,b⟩,⟨I,(a.length:Int)⟩,⟨I,(i:Int)⟩]) (fun i=>a.getD i 0=b.getD i 0) a.length _ ?_ ?_ ?_
  ·rw [hl];rfl
  ·intro i hi
   simp+contextual(maxSteps:=1000000)(disch:=omega)only[↓Sd,↓So,↓Sk,↓den,↓denA,Sa,Sb,Sc,Se,O1.d,O2.d,O3.d,cmI,arI,envOf,putN,↓reduceIte,Nat.reduceLT,Nat.reduceSub,Nat.reduceAdd,Int.reduceAdd,Int.reduceEq,Int.reduceLT,Int.reduceLE,arr_pos,arr_neg,]
   intro h
   rw [←hK,decide_eq_false]
   intro h2;rw [h2] at h;exact h rfl
  ·intro h
   simp+contextual(maxSteps:=1000000)(disch:=omega)only[↓Sd,↓So,↓Sk,↓den,↓denA,Sa,Sb,Sc,Se,O1.d,O2.d,O3.d,cmI,arI,envOf,putN,↓reduceIte,Nat.reduceLT,Nat.reduceSub,Nat.reduceAdd,Int.reduceAdd,Int.reduceEq,Int.reduceLT,Int.reduceLE,arr_pos,arr_neg,]
   rw [←hK,decide_eq_true]
   refine List.ext_getElem hl fun i h1 h2=>?_
   have:=h i h1
   rwa [getD_lt h1,getD_lt h2] at this
theorem C_impl_ruleBetween (s:Sy) (a b:List Int) (h:valid s) (ha:inR s.1 a) (hb:b.length≤1048576) (Q:List AV→Prop):mc.C f_impl_ruleBetween [⟨L V3,s.1⟩,⟨L TR,s.2⟩,⟨L I,a⟩,⟨L I,b⟩] Q=Q [⟨I,rbt s a b⟩]:=by
 refine Mc.Ends.c (mc.ends F_impl_ruleBetween ?_)
 generalize hK:rbt s a b=K
 simp+contextual(maxSteps:=1000000)(disch:=omega)only[↓Sd,↓So,↓Sk,↓den,↓denA,Sa,Sb,Sc,Se,O1.d,O2.d,O3.d,cmI,arI,envOf,putN,↓reduceIte,Nat.reduceLT,Nat.reduceSub,Nat.reduceAdd,Int.reduceAdd,Int.reduceEq,Int.reduceLT,Int.reduceLE,arr_pos,arr_neg,tr_impl_ruleBetween]
 refine mc.lp_for Unit (fun i _=>[⟨L I,a⟩,⟨L I,b⟩,⟨I,(s.2.length:Int)⟩,⟨I,(i:Int)⟩,⟨L V3,s.1⟩,⟨L TR,s.2⟩]) (fun i _=>∀j,j<i→¬(¬useM s.1 (s.2.getD j ([],[],[])) a=[]∧useM s.1 (s.2.getD j ([],[],[])) a=b)) s.2.length 0 () _ rfl (Nat.zero_le _) (fun j hj=>absurd hj (Nat.not_lt_zero _)) ?_ ?_
 ·rintro i - hi hp
  have hu:(useM s.1 (s.2.getD i ([],[],[])) a).length≤1048576:=useM_few h
  have next:=rbt_next (s:=s) (a:=a) (b:=b) hp
  have h8:=h.2.1
  have hit:(¬useM s.1 (s.2.getD i ([],[],[])) a=[]∧useM s.1 (s.2.getD i ([],[],[])) a=b)→(i:Int)=K:=fun hh=>by
   rw [←hK,rbt,fst1_hit (i:=i) (decide_eq_true hh) (fun j hj h=>hp j hj (of_decide_eq_true h)) hi]
  simp+contextual(maxSteps:=1000000)(disch:=omega)only[↓Sd,↓So,↓Sk,↓den,↓denA,Sa,Sb,Sc,Se,O1.d,O2.d,O3.d,cmI,arI,envOf,putN,↓reduceIte,Nat.reduceLT,Nat.reduceSub,Nat.reduceAdd,Int.reduceAdd,Int.reduceEq,Int.reduceLT,Int.reduceLE,arr_pos,arr_neg,↓wpJoin,C_impl_use s a i h ha hi,C_slices_Equal _ b hu hb]
  exact ⟨fun g1=>⟨fun g2=>hit ⟨g1,g2⟩,fun g2=>next fun h=>g2 h.2⟩,fun g1=>next fun h=>h.1 g1⟩
 ·rintro - hp
  simp+contextual(maxSteps:=1000000)(disch:=omega)only[↓Sd,↓So,↓Sk,↓den,↓denA,Sa,Sb,Sc,Se,O1.d,O2.d,O3.d,cmI,arI,envOf,putN,↓reduceIte,Nat.reduceLT,Nat.reduceSub,Nat.reduceAdd,Int.reduceAdd,Int.reduceEq,Int.reduceLT,Int.reduceLE,arr_pos,arr_neg,]
  rw [←hK,rbt,fst1_none fun j hj h=>hp j hj (of_decide_eq_true h)]
end Go.Proofs.YtdcdnfcmllfmlaaGreat
namespace Go.Proofs.YtdcdnfcmllfmlaaGreat
open Go Go.Sm Go.Sm.Q
set_option linter.unusedSimpArgs false
set_option linter.unusedVariables false
theorem C_impl_RuleBetween (s:Sy) (a b:List Int) (hs:FewSy s) (h:valid s) (ha:inR s.1 a) (hb:inR s.1 b) (Q:List AV→Prop):mc.C f_impl_RuleBetween [⟨L V3,s.1⟩,⟨L TR,s.2⟩,⟨L I,a⟩,⟨L I,b⟩] Q=Q [⟨I,rbt s a b⟩]:=by
 have hla:a.length≤1048576:=by have:=ha.1;have:=h.1.2;omega
 have hlb:b.length≤1048576:=by have:=hb.1;have:=h.1.2;omega
 refine Mc.Ends.c (mc.ends F_impl_RuleBetween ?_)
 simp+contextual(maxSteps:=1000000)(disch:=omega)only[↓Sd,↓So,↓Sk,↓den,↓denA,Sa,Sb,Sc,Se,O1.d,O2.d,O3.d,cmI,arI,envOf,putN,↓reduceIte,Nat.reduceLT,Nat.reduceSub,Nat.reduceAdd,Int.reduceAdd,Int.reduceEq,Int.reduceLT,Int.reduceLE,arr_pos,arr_neg,tr_impl_RuleBetween,C_impl_InRange s a hs h hla,C_impl_inRange s b h.1.2 hlb,ha,hb,C_impl_ruleBetween s a b h ha hlb]
theorem C_impl_lists (l:List (List Int)) (hl:l.length≤1048576) (h:∀x∈l,x.length≤1048576) (Q:List AV→Prop):mc.C f_impl_lists [⟨L (L I),l⟩] Q=Q [⟨L (L I),l⟩]:=by
 refine Mc.Ends.c (mc.ends F_impl_lists ?_)
 simp+contextual(maxSteps:=1000000)(disch:=omega)only[↓Sd,↓So,↓Sk,↓den,↓denA,Sa,Sb,Sc,Se,O1.d,O2.d,O3.d,cmI,arI,envOf,putN,↓reduceIte,Nat.reduceLT,Nat.reduceSub,Nat.reduceAdd,Int.reduceAdd,Int.reduceEq,Int.reduceLT,Int.reduceLE,arr_pos,arr_neg,tr_impl_lists]
 refine mc.lp_for (List (List Int)) (fun i o=>[⟨L (L I),l⟩,⟨I,(l.length:Int)⟩,⟨I,(i:Int)⟩,⟨L (L I),o⟩]) (fun i o=>o=l.take i) l.length 0 [] _ rfl (Nat.zero_le _) rfl ?_ ?_
 ·rintro i o hi rfl
  have h1:=h _ (getD_mem (d:=[]) hi)
  have h2:(l.take i).length≤1048576:=by rw [List.length_take];omega
  simp+contextual(maxSteps:=1000000)(disch:=omega)only[↓Sd,↓So,↓Sk,↓den,↓denA,Sa,Sb,Sc,Se,O1.d,O2.d,O3.d,cmI,arI,envOf,putN,↓reduceIte,Nat.reduceLT,Nat.reduceSub,Nat.reduceAdd,Int.reduceAdd,Int.reduceEq,Int.reduceLT,Int.reduceLE,arr_pos,arr_neg,C_impl_clone_int (l.getD i []) h1]
  exact take_next hi
 ·rintro o rfl
  simp+contextual(maxSteps:=1000000)(disch:=omega)only[↓Sd,↓So,↓Sk,↓den,↓denA,Sa,Sb,Sc,Se,O1.d,O2.d,O3.d,cmI,arI,envOf,putN,↓reduceIte,Nat.reduceLT,Nat.reduceSub,Nat.reduceAdd,Int.reduceAdd,Int.reduceEq,Int.reduceLT,Int.reduceLE,arr_pos,arr_neg,C_impl_clone_Sint _ (by rw [List.length_take];omega:(l.take l.length).length≤1048576)]
  rw [List.take_length]
structure IsRun (s:Sy) (D:Nat) (f:Nat→List Int):Prop where
 few:D<500
 first:f 0=fst0 s.1
 inr:∀e,e≤D→inR s.1 (f e)
 rule:∀e,e<D→0≤rbt s (f e) (f (e+1))
def rules (s:Sy) (f:Nat→List Int) (D:Nat):List Int:=tab (fun e=>rbt s (f e) (f (e+1))) D
theorem IsRun.len {s:Sy} {D:Nat} {f:Nat→List Int} (hv:valid s) (h:IsRun s D f) {e:Nat} (he:e≤D):(f e).length≤1048576:=by
 have:=(h.inr e he).1
 have:=hv.1.2
 omega
theorem C_impl_TraceOf (s:Sy) (D:Nat) (f:Nat→List Int) (hs:FewSy s) (h:valid s) (hr:IsRun s D f) (Q:List AV→Prop):mc.C f_impl_TraceOf [⟨L V3,s.1⟩,⟨L TR,s.2⟩,⟨L (L I),tab f (D+1)⟩] Q=Q [⟨L (L I),tab f (D+1)⟩,⟨L I,rules s f D⟩,⟨B,true⟩]:=by
 have hl:(tab f (D+1)).length=D+1:=tab_len
 have hd:=hr.few
 have h0:(tab f (D+1)).getD 0 []=fst0 s.1:=by rw [tab_get (by omega)];exact hr.first
 have hfl:(fst0 s.1).length≤1048576:=by rw [←hr.first];exact hr.len h (by omega)
 have hall:∀x∈tab f (D+1),x.length≤1048576:=fun x hx=>by
  obtain ⟨e,he,rfl⟩:=List.mem_map.1 hx
  exact hr.len h (by have:=List.mem_range.1 he;omega)
 refine Mc.Ends.c (mc.ends F_impl_TraceOf ?_)
 simp+contextual(maxSteps:=1000000)(disch:=omega)only[↓Sd,↓So,↓Sk,↓den,↓denA,Sa,Sb,Sc,Se,O1.d,O2.d,O3.d,cmI,arI,envOf,putN,↓reduceIte,Nat.reduceLT,Nat.reduceSub,Nat.reduceAdd,Int.reduceAdd,Int.reduceEq,Int.reduceLT,Int.reduceLE,arr_pos,arr_neg,tr_impl_TraceOf,C_impl_SystemValid s hs,h,hl,C_impl_in,h0,C_impl_first s h.1.2,C_slices_Equal _ _ hfl hfl,C_impl_lists (tab f (D+1)) (by omega) hall]
 refine mc.lp_for (List Int) (fun i o=>[⟨L (L I),tab f (D+1)⟩,⟨I,(i:Int)⟩,⟨L V3,s.1⟩,⟨L TR,s.2⟩,⟨L (L I),tab f (D+1)⟩,⟨L I,o⟩]) (fun i o=>1≤i∧o=rules s f (i - 1)) (D+1) 1 [] _ rfl (by omega) ⟨Nat.le_refl _,rfl⟩ ?_ ?_
 ·rintro i o hi ⟨h1,rfl⟩
  obtain ⟨e,rfl⟩:∃e,i=e+1:=⟨i - 1,by omega⟩
  have e1:(((e+1:Nat):Int) - 1).toNat=e:=by omega
  have e2:((e:Int)+1).toNat=e+1:=by omega
  have h2:=hr.rule e (by omega)
  have h3:(rules s f e).length=e:=tab_len
  simp+contextual(maxSteps:=1000000)(disch:=omega)only[↓Sd,↓So,↓Sk,↓den,↓denA,Sa,Sb,Sc,Se,O1.d,O2.d,O3.d,cmI,arI,envOf,putN,↓reduceIte,Nat.reduceLT,Nat.reduceSub,Nat.reduceAdd,Int.reduceAdd,Int.reduceEq,Int.reduceLT,Int.reduceLE,arr_pos,arr_neg,hl,e1,e2,tab_get (show e<D+1 by omega),tab_get (show e+1<D+1 by omega),C_impl_RuleBetween s (f e) (f (e+1)) hs h (hr.inr e (by omega)) (hr.inr (e+1) (by omega)),Nat.add_sub_cancel]
  exact ⟨by omega,tab_next⟩
 ·rintro o ⟨-,rfl⟩
  have h3:(rules s f D).length=D:=tab_len
  simp+contextual(maxSteps:=1000000)(disch:=omega)only[↓Sd,↓So,↓Sk,↓den,↓denA,Sa,Sb,Sc,Se,O1.d,O2.d,O3.d,cmI,arI,envOf,putN,↓reduceIte,Nat.reduceLT,Nat.reduceSub,Nat.reduceAdd,Int.reduceAdd,Int.reduceEq,Int.reduceLT,Int.reduceLE,arr_pos,arr_neg,hl,Nat.add_sub_cancel,C_impl_clone_int (rules s f D) (by omega)]
theorem C_spec_TraceOf (s:Sy) (D:Nat) (f:Nat→List Int) (hs:FewSy s) (h:valid s) (hr:IsRun s D f) (Q:List AV→Prop):mc.C f_spec_TraceOf [⟨L V3,s.1⟩,⟨L TR,s.2⟩,⟨L (L I),tab f (D+1)⟩] Q=Q [⟨L (L I),tab f (D+1)⟩,⟨L I,rules s f D⟩,⟨B,true⟩]:=by
 have hl:(tab f (D+1)).length=D+1:=tab_len
 have hd:=hr.few
 have h0:(tab f (D+1)).getD 0 []=fst0 s.1:=by rw [tab_get (by omega)];exact hr.first
 have hfl:(fst0 s.1).length≤1048576:=by rw [←hr.first];exact hr.len h (by omega)
 refine Mc.Ends.c (mc.ends F_spec_TraceOf ?_)
 simp+contextual(maxSteps:=1000000)(disch:=omega)only[↓Sd,↓So,↓Sk,↓den,↓denA,Sa,Sb,Sc,Se,O1.d,O2.d,O3.d,cmI,arI,envOf,putN,↓reduceIte,Nat.reduceLT,Nat.reduceSub,Nat.reduceAdd,Int.reduceAdd,Int.reduceEq,Int.reduceLT,Int.reduceLE,arr_pos,arr_neg,tr_spec_TraceOf,C_spec_SystemValid s hs,h,hl,C_spec_l1In,h0,C_spec_FirstState s hs h,C_spec_l2Same _ _ hfl hfl,C_spec_l3Copy _ hfl]
 refine mc.lp_for (List (List Int)×List Int) (fun i o=>[⟨L (L I),tab f (D+1)⟩,⟨I,(i:Int)⟩,⟨L V3,s.1⟩,⟨L TR,s.2⟩,⟨L (L I),o.1⟩,⟨L I,o.2⟩]) (fun i o=>1≤i∧o.1=tab f i∧o.2=rules s f (i - 1)) (D+1) 1 ([fst0 s.1],[]) _ rfl (by omega) ⟨Nat.le_refl _,by rw [←hr.first];rfl,rfl⟩ ?_ ?_
 ·rintro i ⟨o1,o2⟩ hi ⟨h1,h4,h5⟩
  simp only at h4 h5
  subst h4 h5
  obtain ⟨e,rfl⟩:∃e,i=e+1:=⟨i - 1,by omega⟩
  have e1:(((e+1:Nat):Int) - 1).toNat=e:=by omega
  have e2:((e:Int)+1).toNat=e+1:=by omega
  have h2:=hr.rule e (by omega)
  have h3:(rules s f e).length=e:=tab_len
  have h6:=hr.len h (show e+1≤D by omega)
  have h7:=hr.inr (e+1) (by omega)
  have h8:(tab f (e+1)).length=e+1:=tab_len
  simp+contextual(maxSteps:=1000000)(disch:=omega)only[↓Sd,↓So,↓Sk,↓den,↓denA,Sa,Sb,Sc,Se,O1.d,O2.d,O3.d,cmI,arI,envOf,putN,↓reduceIte,Nat.reduceLT,Nat.reduceSub,Nat.reduceAdd,Int.reduceAdd,Int.reduceEq,Int.reduceLT,Int.reduceLE,arr_pos,arr_neg,hl,e1,e2,tab_get (show e<D+1 by omega),tab_get (show e+1<D+1 by omega),C_spec_l2In s _ h.1.2 h6,h7,C_spec_l3Between s (f e) (f (e+1)) h (hr.inr e (by omega)) h6,C_spec_l3Copy _ h6,Nat.add_sub_cancel]
  exact ⟨(_,_),⟨rfl,rfl⟩,by omega,tab_next,tab_next⟩
 ·rintro ⟨o1,o2⟩ ⟨-,h4,h5⟩
  simp only at h4 h5
  subst h4 h5
  simp+contextual(maxSteps:=1000000)(disch:=omega)only[↓Sd,↓So,↓Sk,↓den,↓denA,Sa,Sb,Sc,Se,O1.d,O2.d,O3.d,cmI,arI,envOf,putN,↓reduceIte,Nat.reduceLT,Nat.reduceSub,Nat.reduceAdd,Int.reduceAdd,Int.reduceEq,Int.reduceLT,Int.reduceLE,arr_pos,arr_neg,hl,Nat.add_sub_cancel]
theorem C_spec_l5Back (T:List (List Int)) (f:Nat→Int) (n k a:Nat) (ht:Tb8 T n) (hk:k<n) (hf:∀k,k<n → -1≤f k∧f k<n) (h:IsPrd T f n k a) (Q:List AV→Prop):mc.C f_spec_l5Back [⟨L (L I),T⟩,⟨L I,tab f n⟩,⟨I,(k:Int)⟩] Q=Q [⟨I,(a:Int)⟩]:=by
 have hl:=ht.1.1
 have hn:=ht.2.1
 have hfk:=hf k hk
 refine Mc.Ends.c (mc.ends F_spec_l5Back ?_)
 simp+contextual(maxSteps:=1000000)(disch:=omega)only[↓Sd,↓So,↓Sk,↓den,↓denA,Sa,Sb,Sc,Se,O1.d,O2.d,O3.d,cmI,arI,envOf,putN,↓reduceIte,Nat.reduceLT,Nat.reduceSub,Nat.reduceAdd,Int.reduceAdd,Int.reduceEq,Int.reduceLT,Int.reduceLE,arr_pos,arr_neg,tr_spec_l5Back]
 refine mc.lp_for Unit (fun i _=>[⟨L (L I),T⟩,⟨L I,tab f n⟩,⟨I,(k:Int)⟩,⟨I,(i:Int)⟩]) (fun i _=>i≤a) n 0 () _ rfl (Nat.zero_le _) (Nat.zero_le _) ?_ ?_
 ·rintro i - hi hp
  have hfi:=hf i hi
  have hrl:=ht.2.2 _ (getD_mem (d:=[]) (show i<T.length by omega))
  have key:(f i=f k - 1∧(k:Int)∈T.getD i [])→i=a:=fun hh=>by
   have:¬i<a:=fun g=>h.2.2.2 i g ⟨by omega,hh.2⟩
   omega
  have nxt:¬(f i=f k - 1∧(k:Int)∈T.getD i [])→i+1≤a:=fun hh=>by
   have:¬i=a:=fun e=>hh (by subst e;exact ⟨by have:=h.2.1;omega,h.2.2.1⟩)
   omega
  simp+contextual(maxSteps:=1000000)(disch:=omega)only[↓Sd,↓So,↓Sk,↓den,↓denA,Sa,Sb,Sc,Se,O1.d,O2.d,O3.d,cmI,arI,envOf,putN,↓reduceIte,Nat.reduceLT,Nat.reduceSub,Nat.reduceAdd,Int.reduceAdd,Int.reduceEq,Int.reduceLT,Int.reduceLE,arr_pos,arr_neg,↓wpJoin,hl,tab_len,tab_get hi,tab_get hk,C_spec_l2Has (T.getD i []) (k:Int) (by omega)]
  exact ⟨fun g1=>⟨fun g2=>by rw [key ⟨g1,dB_iff.1 g2⟩],fun g2=>nxt fun h=>g2 (dB_t h.2)⟩,fun g1=>nxt fun h=>g1 h.1⟩
 ·rintro - hp
  have:=h.1
  omega
theorem C_spec_l5Nearest (f:Nat→Int) (p:Nat→Bool) (n:Nat) (hn:n≤1048576) (Q:List AV→Prop):mc.C f_spec_l5Nearest [⟨L I,tab f n⟩,⟨L B,tab p n⟩] Q=Q [⟨I,near p f n⟩]:=by
 refine Mc.Ends.c (mc.ends F_spec_l5Nearest ?_)
 have hl:(tab f n).length=n:=tab_len
 simp+contextual(maxSteps:=1000000)(disch:=omega)only[↓Sd,↓So,↓Sk,↓den,↓denA,Sa,Sb,Sc,Se,O1.d,O2.d,O3.d,cmI,arI,envOf,putN,↓reduceIte,Nat.reduceLT,Nat.reduceSub,Nat.reduceAdd,Int.reduceAdd,Int.reduceEq,Int.reduceLT,Int.reduceLE,arr_pos,arr_neg,tr_spec_l5Nearest]
 refine mc.lp_for Int (fun i b=>[⟨L I,tab f n⟩,⟨L B,tab p n⟩,⟨I,b⟩,⟨I,(i:Int)⟩]) (fun i b=>b=near p f i) n 0 (-1) _ rfl (Nat.zero_le _) rfl ?_ ?_
 ·rintro i b hi hb
  rw [near_next]
  have hbd:b = -1∨∃k:Nat,b=k∧k<i:=by
   rcases @near_spec p f i with ⟨h1,-⟩ | ⟨k,h1,h2,-⟩
   ·left;rw [hb,h1]
   ·right;exact ⟨k,by rw [hb,h1],h2⟩
  rw [←hb]
  rcases hbd with rfl | ⟨k,rfl,hk⟩
  ·simp+contextual(maxSteps:=1000000)(disch:=omega)only[↓Sd,↓So,↓Sk,↓den,↓denA,Sa,Sb,Sc,Se,O1.d,O2.d,O3.d,cmI,arI,envOf,putN,↓reduceIte,Nat.reduceLT,Nat.reduceSub,Nat.reduceAdd,Int.reduceAdd,Int.reduceEq,Int.reduceLT,Int.reduceLE,arr_pos,arr_neg,↓wpJoin,hl,tab_len,tab_get hi]
   unfold bst1
   rw [Int.toNat_natCast]
   exact fun _=>⟨fun g=>(if_pos ⟨g,.inl (by omega)⟩).symm,fun g=>(if_neg fun h=>g h.1).symm⟩
  ·simp+contextual(maxSteps:=1000000)(disch:=omega)only[↓Sd,↓So,↓Sk,↓den,↓denA,Sa,Sb,Sc,Se,O1.d,O2.d,O3.d,cmI,arI,envOf,putN,↓reduceIte,Nat.reduceLT,Nat.reduceSub,Nat.reduceAdd,Int.reduceAdd,Int.reduceEq,Int.reduceLT,Int.reduceLE,arr_pos,arr_neg,↓wpJoin,hl,tab_len,tab_get hi,tab_get (show k<n by omega)]
   unfold bst1
   rw [Int.toNat_natCast,Int.toNat_natCast]
   exact fun _=>⟨fun g=>⟨fun g2=>(if_pos ⟨g,.inr g2⟩).symm,fun g2=>(if_neg fun h=>h.2.elim (fun h=>by omega) g2).symm⟩,fun g=>(if_neg fun h=>g h.1).symm⟩
 ·rintro b rfl
  simp+contextual(maxSteps:=1000000)(disch:=omega)only[↓Sd,↓So,↓Sk,↓den,↓denA,Sa,Sb,Sc,Se,O1.d,O2.d,O3.d,cmI,arI,envOf,putN,↓reduceIte,Nat.reduceLT,Nat.reduceSub,Nat.reduceAdd,Int.reduceAdd,Int.reduceEq,Int.reduceLT,Int.reduceLE,arr_pos,arr_neg,hl]
structure IsWay (s:Sy) (l:List Tm) (b D:Nat) (ch:Nat→Nat):Prop where
 near:nearS s l=b
 lt:b<szn s.1
 holds:holdsN s l b=true
 chain:Chain (steps s) (dS s) (szn s.1) b D ch
theorem way_ex {s:Sy} {l:List Tm} (h:valid s):nearS s l = -1∨∃b D ch,IsWay s l b D ch:=by
 rcases @near_spec (holdsN s l) (dS s) (szn s.1) with ⟨h1,-⟩ | ⟨b,h1,h2,h3,h4,-⟩
 ·exact .inl h1
 ·obtain ⟨ch,hc⟩:=chain_ex (steps_tbl h) (first_lt h) (D:=(dS s b).toNat) h2 (by have:dst (steps s) [num s.1 (fst0 s.1)] b=dS s b:=rfl;omega)
  exact .inr ⟨b,_,ch,h1,h2,h3,hc⟩
noncomputable def wst (s:Sy) (ch:Nat→Nat) (e:Nat):List Int:=stN s (ch e)
theorem Chain.run {s:Sy} {b D:Nat} {ch:Nat→Nat} (h:valid s) (hc:Chain (steps s) (dS s) (szn s.1) b D ch):IsRun s D (wst s ch):=by
 obtain ⟨m,hm,hmn⟩:=first_n h
 have hz:=szn_eq h
 refine ⟨by have:=hc.few;omega,?_,fun e he=>stN_in h (hc.2.2 e he).1,fun e he=>?_⟩
 ·have h1:=hc.2.2 0 (by omega)
  have h2:Lay (steps s) [num s.1 (fst0 s.1)] 0 (ch 0):=dst_le.2 ⟨by have:dst (steps s) [num s.1 (fst0 s.1)] (ch 0)=dS s (ch 0):=rfl;omega,by have:dst (steps s) [num s.1 (fst0 s.1)] (ch 0)=dS s (ch 0):=rfl;omega⟩
  have h3:((ch 0:Nat):Int)=num s.1 (fst0 s.1):=by simpa [Lay] using h2
  exact stN_first h h3.symm
 ·exact rbt_step h (hc.2.2 e (by omega)).1 (hc.2.1 e he).2.2.1
theorem bstL_bd {f:Nat→Int} {l:List Int} {n:Nat} (h:∀x∈l,0≤x∧x<(n:Int)):∀{i:Nat},i≤l.length→bstL f (l.take i) = -1∨∃k:Nat,bstL f (l.take i)=k∧k<n
 | 0,_=>.inl rfl
 | i+1,hi=>by
  have ih:=bstL_bd (f:=f) h (i:=i) (by omega)
  have hx:=h _ (getD_mem (d:=0) (show i<l.length by omega))
  rw [←take_next (d:=0) (show i<l.length by omega),bstL_snoc,bst1]
  split
  ·exact .inr ⟨(l.getD i 0).toNat,by omega,by omega⟩
  ·exact ih
theorem prd_first {T:List (List Int)} {f:Nat→Int} {n k a i:Nat} (h:IsPrd T f n k a) (hi:i<(pastL T k n).length) (h1:f ((pastL T k n).getD i 0).toNat=f k - 1) (h2:∀j,j<i→¬f ((pastL T k n).getD j 0).toNat=f k - 1):(pastL T k n).getD i 0=a:=by
 obtain ⟨x,hx,hxe,hxT⟩:=pastL_mem.1 (getD_mem (d:=0) hi)
 rw [hxe,Int.toNat_natCast] at h1
 have h3:¬x<a:=fun g=>h.2.2.2 x g ⟨by omega,hxT⟩
 have ha:(a:Int)∈pastL T k n:=pastL_mem.2 ⟨a,h.1,rfl,h.2.2.1⟩
 obtain ⟨j,hj,hja⟩:=List.mem_iff_getElem.1 ha
 have hja2:(pastL T k n).getD j 0=a:=by rw [getD_lt hj];exact hja
 have h4:¬j<i:=fun g=>h2 j g (by rw [hja2,Int.toNat_natCast];have:=h.2.1;omega)
 have h5:=sorted_get (pastL_sorted (T:=T) (k:=k) (m:=n)) (i:=i) (j:=j) (by omega) hj
 rw [hja2,hxe] at h5
 rw [hxe]
 omega
theorem prd_some {T:List (List Int)} {f:Nat→Int} {n k a:Nat} (h:IsPrd T f n k a) (h2:∀j,j<(pastL T k n).length→¬f ((pastL T k n).getD j 0).toNat=f k - 1):False:=by
 have ha:(a:Int)∈pastL T k n:=pastL_mem.2 ⟨a,h.1,rfl,h.2.2.1⟩
 obtain ⟨j,hj,hja⟩:=List.mem_iff_getElem.1 ha
 have hja2:(pastL T k n).getD j 0=a:=by rw [getD_lt hj];exact hja
 exact h2 j hj (by rw [hja2,Int.toNat_natCast];have:=h.2.1;omega)
def SmSS (l:List (List Int)):Prop:=l.length≤4000∧∀x∈l,x.length≤4000
theorem SmSS.row {l:List (List Int)} (h:SmSS l) (i:Nat):(l.getD i []).length≤4000:=by
 by_cases hi:i<l.length
 ·exact h.2 _ (getD_mem hi)
 ·rw [List.getD_eq_getElem?_getD,List.getElem?_eq_none (by omega)];simp
theorem dg_drop {l:List Vr} {n:Int}:∀{k:Nat},k≤l.length→(dg l n).2.drop k=(dg (l.drop k) n).2
 | 0,_=>rfl
 | k+1,hk=>by
  have ih:=dg_drop (l:=l) (n:=n) (k:=k) (by omega)
  rw [dg_next (n:=n) (show k<l.length by omega)] at ih
  rw [←List.drop_drop,ih]
  rfl
theorem stAt_get {l:List Vr} {n:Int} {k:Nat} (hk:k<l.length):(stAt l n).getD k 0=(l.getD k (0,0,0)).1+(dg (l.drop (k+1)) n).1 % wd (l.getD k (0,0,0)):=by
 have h:=dg_drop (l:=l) (n:=n) (k:=k) (by omega)
 rw [dg_next (n:=n) hk] at h
 have hl:k<(stAt l n).length:=by rw [stAt,dg_len];exact hk
 rw [←stAt,drop_cons (d:=0) hl] at h
 exact (List.cons.inj h).1
theorem num_dg {l:List Vr} {n:Int}:∀{k:Nat},k≤l.length→(dg (l.drop k) n).1=(dg l n).1 * sz (l.take k)+numN l (stAt l n) k
 | 0,_=>by simp [numN,sz]
 | k+1,hk=>by
  have ih:=num_dg (l:=l) (n:=n) (k:=k) (by omega)
  rw [dg_next (n:=n) (show k<l.length by omega)] at ih
  simp only at ih
  have h2:=stAt_get (l:=l) (n:=n) (k:=k) (by omega)
  have h3:=Int.mul_ediv_add_emod (dg (l.drop (k+1)) n).1 (wd (l.getD k (0,0,0)))
  rw [sz_next (d:=(0,0,0)) (show k<l.length by omega)]
  simp only [numN]
  rw [h2]
  rw [ih,Int.mul_add,Int.mul_comm _ ((dg l n).1 * sz (l.take k)),Int.mul_comm _ (numN l (stAt l n) k),Int.mul_assoc] at h3
  omega
theorem num_stAt {l:List Vr} {n:Int} (hv:∀v∈l,vOk v) (hn:0≤n∧n<sz l) (hs:sz l≤400):num l (stAt l n)=n:=by
 have h1:=num_dg (l:=l) (n:=n) (Nat.le_refl _)
 rw [List.take_length,List.drop_length] at h1
 have h2:=num_bd hv (stAt_in (n:=n) hv (by omega))
 have h3:=(dg_bd (n:=n) hv (by omega)).1
 have h4:n=(dg l n).1 * sz l+num l (stAt l n):=h1
 have h5:(dg l n).1=0:=by
  refine Classical.byContradiction fun g=>?_
  have h6:1 * sz l≤(dg l n).1 * sz l:=Int.mul_le_mul_of_nonneg_right (by omega) (by omega)
  omega
 rw [h5] at h4
 omega
theorem num_stN {s:Sy} (h:valid s) {k:Nat} (hk:k<szn s.1):num s.1 (stN s k)=k:=by
 have:=szn_eq h
 exact num_stAt h.2.2.1 (by omega) h.2.2.2.2
theorem rbt_spec {s:Sy} {a b:List Int} (h:0≤rbt s a b):∃r:Nat,rbt s a b=r∧r<s.2.length∧useM s.1 (s.2.getD r ([],[],[])) a≠[]∧useM s.1 (s.2.getD r ([],[],[])) a=b:=by
 by_cases g:∃r,r<s.2.length∧(useM s.1 (s.2.getD r ([],[],[])) a≠[]∧useM s.1 (s.2.getD r ([],[],[])) a=b)
 ·obtain ⟨r,h1,h2⟩:=least g
  refine ⟨r,?_,h1.1,h1.2.1,h1.2.2⟩
  refine fst1_hit (decide_eq_true h1.2) (fun j hj hp=>?_) h1.1
  have:=of_decide_eq_true hp
  exact h2 j hj ⟨by omega,this⟩
 ·rw [rbt,fst1_none fun j hj hp=>g ⟨j,hj,of_decide_eq_true hp⟩] at h
  omega
theorem C_impl_TraceValid (s:Sy) (D:Nat) (f:Nat→List Int) (hs:FewSy s) (h:valid s) (hr:IsRun s D f) (Q:List AV→Prop):mc.C f_impl_TraceValid [⟨L V3,s.1⟩,⟨L TR,s.2⟩,⟨L (L I),tab f (D+1)⟩,⟨L I,rules s f D⟩] Q=Q [⟨B,true⟩]:=by
 have hl:(tab f (D+1)).length=D+1:=tab_len
 have hlr:(rules s f D).length=D:=tab_len
 have hd:=hr.few
 have h8:=h.2.1
 have h0:(tab f (D+1)).getD 0 []=fst0 s.1:=by rw [tab_get (by omega)];exact hr.first
 have hfl:(fst0 s.1).length≤1048576:=by rw [←hr.first];exact hr.len h (by omega)
 refine Mc.Ends.c (mc.ends F_impl_TraceValid ?_)
 simp+contextual(maxSteps:=1000000)(disch:=omega)only[↓Sd,↓So,↓Sk,↓den,↓denA,Sa,Sb,Sc,Se,O1.d,O2.d,O3.d,cmI,arI,envOf,putN,↓reduceIte,Nat.reduceLT,Nat.reduceSub,Nat.reduceAdd,Int.reduceAdd,Int.reduceEq,Int.reduceLT,Int.reduceLE,arr_pos,arr_neg,tr_impl_TraceValid,C_impl_SystemValid s hs,h,hl,hlr,C_impl_in,h0,C_impl_first s h.1.2,C_slices_Equal _ _ hfl hfl]
 refine mc.lp_for Unit (fun i _=>[⟨L I,rules s f D⟩,⟨I,(D:Int)⟩,⟨I,(i:Int)⟩,⟨L V3,s.1⟩,⟨L TR,s.2⟩,⟨L (L I),tab f (D+1)⟩,⟨L I,rules s f D⟩]) (fun _ _=>True) D 0 () _ rfl (Nat.zero_le _) trivial ?_ ?_
 ·rintro i - hi -
  obtain ⟨r,h1,h2,h3,h4⟩:=rbt_spec (hr.rule i hi)
  have hg:(rules s f D).getD i 0=(r:Int):=by rw [rules,tab_get hi,h1]
  have e2:((i:Int)+1).toNat=i+1:=by omega
  have h6:=hr.len h (show i+1≤D by omega)
  have h7:f (i+1)≠[]:=by rw [←h4];exact h3
  simp+contextual(maxSteps:=1000000)(disch:=omega)only[↓Sd,↓So,↓Sk,↓den,↓denA,Sa,Sb,Sc,Se,O1.d,O2.d,O3.d,cmI,arI,envOf,putN,↓reduceIte,Nat.reduceLT,Nat.reduceSub,Nat.reduceAdd,Int.reduceAdd,Int.reduceEq,Int.reduceLT,Int.reduceLE,arr_pos,arr_neg,hl,hlr,hg,C_impl_in,tab_get (show i<D+1 by omega),C_impl_use s (f i) r h (hr.inr i (by omega)) h2,h4,h7,e2,tab_get (show i+1<D+1 by omega),C_slices_Equal (f (i+1)) (f (i+1)) h6 h6]
 ·rintro - -
  simp+contextual(maxSteps:=1000000)(disch:=omega)only[↓Sd,↓So,↓Sk,↓den,↓denA,Sa,Sb,Sc,Se,O1.d,O2.d,O3.d,cmI,arI,envOf,putN,↓reduceIte,Nat.reduceLT,Nat.reduceSub,Nat.reduceAdd,Int.reduceAdd,Int.reduceEq,Int.reduceLT,Int.reduceLE,arr_pos,arr_neg,]
def neg (l:List Tm):List Tm:=l++[((7:Int),(0:Int),(l.length:Int) - 1,(l.length:Int) - 1)]
theorem neg_len {l:List Tm}:(neg l).length=l.length+1:=by simp [neg]
theorem evs_snoc {st:List Int} {t:Tm}:∀{l:List Tm} {vs:List Int},evs st (l++[t]) vs=evs st l vs++[ev1 st t (evs st l vs)]
 | [],vs=>rfl
 | x::l,vs=>by simp only [List.cons_append,evs];exact evs_snoc
theorem neg_evl {l:List Tm} {st:List Int} (hl:1≤l.length):evl (neg l) st=1 - evl l st:=by
 have h1:=@evs_len st l []
 simp only [List.length_nil,Nat.zero_add] at h1
 have h2:((l.length:Int) - 1).toNat=l.length - 1:=by omega
 unfold evl
 rw [neg_len,Nat.add_sub_cancel,neg,evs_snoc,getD_snoc,if_neg (by omega),if_pos h1.symm]
 simp only [ev1,doM,h2]
 simp
theorem C_impl_TermsValid (l:List Tm) (vars:Int) (hl:Few l) (Q:List AV→Prop):mc.C f_impl_TermsValid [⟨L T4,l⟩,⟨I,vars⟩] Q=Q [⟨B,!(kdsOf l vars).isEmpty⟩]:=by
 refine Mc.Ends.c (mc.ends F_impl_TermsValid ?_)
 simp+contextual(maxSteps:=1000000)(disch:=omega)only[↓Sd,↓So,↓Sk,↓den,↓denA,Sa,Sb,Sc,Se,O1.d,O2.d,O3.d,cmI,arI,envOf,putN,↓reduceIte,Nat.reduceLT,Nat.reduceSub,Nat.reduceAdd,Int.reduceAdd,Int.reduceEq,Int.reduceLT,Int.reduceLE,arr_pos,arr_neg,tr_impl_TermsValid,C_impl_kindsOf l vars hl]
theorem C_impl_stateOk (st:List Int) (h5:st.length≤5) (h:∀i,i<st.length → -9999≤st.getD i 0∧st.getD i 0≤9999) (Q:List AV→Prop):mc.C f_impl_stateOk [⟨L I,st⟩] Q=Q [⟨B,true⟩]:=by
 refine Mc.Ends.c (mc.ends F_impl_stateOk ?_)
 simp+contextual(maxSteps:=1000000)(disch:=omega)only[↓Sd,↓So,↓Sk,↓den,↓denA,Sa,Sb,Sc,Se,O1.d,O2.d,O3.d,cmI,arI,envOf,putN,↓reduceIte,Nat.reduceLT,Nat.reduceSub,Nat.reduceAdd,Int.reduceAdd,Int.reduceEq,Int.reduceLT,Int.reduceLE,arr_pos,arr_neg,tr_impl_stateOk]
 refine mc.lp_for Unit (fun i _=>[⟨L I,st⟩,⟨I,(st.length:Int)⟩,⟨I,(i:Int)⟩]) (fun _ _=>True) st.length 0 () _ rfl (Nat.zero_le _) trivial ?_ ?_
 ·rintro i - hi -
  have h1:=h i hi
  simp+contextual(maxSteps:=1000000)(disch:=omega)only[↓Sd,↓So,↓Sk,↓den,↓denA,Sa,Sb,Sc,Se,O1.d,O2.d,O3.d,cmI,arI,envOf,putN,↓reduceIte,Nat.reduceLT,Nat.reduceSub,Nat.reduceAdd,Int.reduceAdd,Int.reduceEq,Int.reduceLT,Int.reduceLE,arr_pos,arr_neg,C_impl_in,h1]
 ·rintro - -
  simp+contextual(maxSteps:=1000000)(disch:=omega)only[↓Sd,↓So,↓Sk,↓den,↓denA,Sa,Sb,Sc,Se,O1.d,O2.d,O3.d,cmI,arI,envOf,putN,↓reduceIte,Nat.reduceLT,Nat.reduceSub,Nat.reduceAdd,Int.reduceAdd,Int.reduceEq,Int.reduceLT,Int.reduceLE,arr_pos,arr_neg,]
  rfl
theorem C_impl_Eval (l:List Tm) (st:List Int) (hl:Few l) (h5:st.length≤5) (hb:Bds st) (hk:kf l st.length≠0) (Q:List AV→Prop):mc.C f_impl_Eval [⟨L T4,l⟩,⟨L I,st⟩] Q=Q [⟨I,evl l st⟩,⟨B,true⟩]:=by
 have he:(kdsOf l st.length).isEmpty=false:=by
  rw [List.isEmpty_eq_false_iff]
  intro h
  exact hk (kf_nil (by rw [h];simp))
 refine Mc.Ends.c (mc.ends F_impl_Eval ?_)
 simp+contextual(maxSteps:=1000000)(disch:=omega)only[↓Sd,↓So,↓Sk,↓den,↓denA,Sa,Sb,Sc,Se,O1.d,O2.d,O3.d,cmI,arI,envOf,putN,↓reduceIte,Nat.reduceLT,Nat.reduceSub,Nat.reduceAdd,Int.reduceAdd,Int.reduceEq,Int.reduceLT,Int.reduceLE,arr_pos,arr_neg,tr_impl_Eval,C_impl_stateOk st h5 hb,C_impl_TermsValid l st.length hl,he,Bool.not_false,Bool.not_true,C_impl_eval l st st.length hk hb rfl]
def alw (s:Sy) (l:List Tm):Prop:=valid s∧kf l s.1.length=2∧allIf (rchB s) (holdsN s l) (szn s.1)
theorem dS_rch {s:Sy} {k:Nat}:0≤dS s k↔rchB s k=true:=by rw [rchB,dB_iff];exact dst_rch
theorem neg_holds {s:Sy} {l:List Tm} (hv:valid s) (hk:kf l s.1.length=2) {k:Nat} (hkn:k<szn s.1):holdsN s (neg l) k=!holdsN s l k:=by
 have hst:=stN_in hv hkn
 obtain ⟨o,h1,h2,h3⟩:=kf_some (l:=l) (vars:=s.1.length) (by omega)
 have hb:Bit (evl l (stN s k)):=evl_bit hk (hst.bds hv.2.2.1) (by rw [hst.1])
 unfold holdsN
 rw [neg_evl h2.1]
 rcases hb with h | h<;>rw [h]<;>rfl
def FewSS (F:List (List Tm)):Prop:=Few F∧∀x∈F,Few x
theorem FewSS.row {F:List (List Tm)} (h:FewSS F) (i:Nat):Few (F.getD i []):=by
 by_cases hi:i<F.length
 ·exact h.2 _ (getD_mem hi)
 ·rw [List.getD_eq_getElem?_getD,List.getElem?_eq_none (by omega)];simp [Few]
theorem SmSS.few {l:List (List Int)} (h:SmSS l):l.length≤1048576∧∀x∈l,x.length≤1048576:=⟨by have:=h.1;omega,fun x hx=>by have:=h.2 x hx;omega⟩
def bits (s:Sy) (X:List Int):List (List Int):=X.map fun x=>sb s (stN s x.toNat)
theorem bits_get {s:Sy} {X:List Int} {i:Nat} (hi:i<X.length):(bits s X).getD i []=sb s (stN s (X.getD i 0).toNat):=by
 rw [bits,getD_lt (by rw [List.length_map];exact hi),List.getElem_map,getD_lt hi]
theorem bits_len {s:Sy} {X:List Int}:(bits s X).length=X.length:=List.length_map _
def hnP (s:Sy) (q:Nat→Bool) (c:List Int):Prop:=∀k,k<szn s.1→q k=true→inC s c k=false
noncomputable def cub (s:Sy) (q:Nat→Bool) (k:Nat):List Int:=wdn (hnP s q) (sb s (stN s k)) (sb s (stN s k)).length
theorem cub_len {s:Sy} {q:Nat→Bool} {k:Nat}:((cub s q k).length:Int)=bc s.1:=by rw [cub,wdn_len];exact sb_len
noncomputable def cov (s:Sy) (C:List (List Int)) (k:Nat):Bool:=C.any fun c=>inC s c k
noncomputable def cubs (s:Sy) (q:Nat→Bool) (X:List Int):Nat→List (List Int)
 | 0=>[]
 | i+1=>if cov s (cubs s q X i) (X.getD i 0).toNat=true then cubs s q X i else cubs s q X i++[cub s q (X.getD i 0).toNat]
theorem cubs_len {s:Sy} {q:Nat→Bool} {X:List Int}:∀{i:Nat},(cubs s q X i).length≤i
 | 0=>Nat.le_refl _
 | i+1=>by
  have:=@cubs_len s q X i
  simp only [cubs]
  split
  ·omega
  ·rw [List.length_append,List.length_singleton];omega
theorem cubs_in {s:Sy} {q:Nat→Bool} {X:List Int}:∀{i:Nat},∀c∈cubs s q X i,(c.length:Int)=bc s.1
 | 0,c,h=>by simp [cubs] at h
 | i+1,c,h=>by
  simp only [cubs] at h
  split at h
  ·exact cubs_in c h
  ·rcases List.mem_append.1 h with h | h
   ·exact cubs_in c h
   ·rw [List.mem_singleton.1 h];exact cub_len
theorem cov_snoc {s:Sy} {C:List (List Int)} {c:List Int} {k:Nat}:cov s (C++[c]) k=(cov s C k||inC s c k):=by
 simp [cov]
noncomputable def arnd (s:Sy) (q:Nat→Bool) (X:List Int) (k:Nat):Bool:=cov s (cubs s q X X.length) k
theorem C_impl_allBits (s:Sy) (X:List Int) (h:valid s) (hl:X.length≤400) (hX:∀x∈X,0≤x∧x<(szn s.1:Int)) (Q:List AV→Prop):mc.C f_impl_allBits [⟨L V3,s.1⟩,⟨L TR,s.2⟩,⟨L I,X⟩] Q=Q [⟨L (L I),bits s X⟩]:=by
 have hz:=szn_eq h
 refine Mc.Ends.c (mc.ends F_impl_allBits ?_)
 simp+contextual(maxSteps:=1000000)(disch:=omega)only[↓Sd,↓So,↓Sk,↓den,↓denA,Sa,Sb,Sc,Se,O1.d,O2.d,O3.d,cmI,arI,envOf,putN,↓reduceIte,Nat.reduceLT,Nat.reduceSub,Nat.reduceAdd,Int.reduceAdd,Int.reduceEq,Int.reduceLT,Int.reduceLE,arr_pos,arr_neg,tr_impl_allBits]
 refine mc.lp_for (List (List Int)) (fun i o=>[⟨L I,X⟩,⟨I,(X.length:Int)⟩,⟨I,(i:Int)⟩,⟨L V3,s.1⟩,⟨L TR,s.2⟩,⟨L (L I),o⟩]) (fun i o=>o=(X.take i).map fun x=>sb s (stN s x.toNat)) X.length 0 [] _ rfl (Nat.zero_le _) rfl ?_ ?_
 ·rintro i o hi rfl
  have hx:=hX _ (getD_mem (d:=0) hi)
  obtain ⟨x,hxe⟩:∃x:Nat,X.getD i 0=x:=⟨(X.getD i 0).toNat,by omega⟩
  have hin:=stN_in h (n:=x) (by omega)
  have hst:stAt s.1 (x:Int)=stN s x:=rfl
  have hn:=map_next (g:=fun x:Int=>sb s (stN s x.toNat)) (d:=0) hi
  rw [hxe,Int.toNat_natCast] at hn
  have hml:((X.take i).map fun x:Int=>sb s (stN s x.toNat)).length≤400:=by rw [List.length_map,List.length_take];omega
  simp+contextual(maxSteps:=1000000)(disch:=omega)only[↓Sd,↓So,↓Sk,↓den,↓denA,Sa,Sb,Sc,Se,O1.d,O2.d,O3.d,cmI,arI,envOf,putN,↓reduceIte,Nat.reduceLT,Nat.reduceSub,Nat.reduceAdd,Int.reduceAdd,Int.reduceEq,Int.reduceLT,Int.reduceLE,arr_pos,arr_neg,hxe,C_impl_stateAt s x h.1.2 h.2.2.1 (by omega),hst,C_impl_stateBits s (stN s x) h hin]
  exact hn
 ·rintro o rfl
  rw [List.take_length]
  simp+contextual(maxSteps:=1000000)(disch:=omega)only[↓Sd,↓So,↓Sk,↓den,↓denA,Sa,Sb,Sc,Se,O1.d,O2.d,O3.d,cmI,arI,envOf,putN,↓reduceIte,Nat.reduceLT,Nat.reduceSub,Nat.reduceAdd,Int.reduceAdd,Int.reduceEq,Int.reduceLT,Int.reduceLE,arr_pos,arr_neg,C_impl_clone_Sint (X.map fun x=>sb s (stN s x.toNat)) (by rw [List.length_map];omega)]
  rfl
theorem C_impl_cubesOf (s:Sy) (X:List Int) (q:Nat→Bool) (h:valid s) (hl:X.length≤400) (hX:∀x∈X,0≤x∧x<(szn s.1:Int)) (Q:List AV→Prop):mc.C f_impl_cubesOf [⟨L V3,s.1⟩,⟨L TR,s.2⟩,⟨L I,X⟩,⟨L I,upTo q (szn s.1)⟩] Q=Q [⟨L (L I),cubs s q X X.length⟩]:=by
 have hz:=szn_eq h
 have hb:=bc_bd h
 have hol:=@upTo_len q (szn s.1)
 have hO:∀x∈upTo q (szn s.1),0≤x∧x<(szn s.1:Int):=fun x hx=>by obtain ⟨k,h1,rfl,_⟩:=upTo_mem.1 hx;omega
 have hOm:∀j,j<(upTo q (szn s.1)).length→∃k:Nat,(upTo q (szn s.1)).getD j 0=(k:Int)∧k<szn s.1∧q k=true:=fun j hj=>by
  obtain ⟨k,h1,h2,h3⟩:=upTo_mem.1 (getD_mem (d:=0) hj);exact ⟨k,h2,h1,h3⟩
 have hOe:∀k,k<szn s.1→q k=true→∃j,j<(upTo q (szn s.1)).length∧(upTo q (szn s.1)).getD j 0=(k:Int):=fun k h1 h2=>by
  obtain ⟨j,hj,he⟩:=List.getElem_of_mem (upTo_mem.2 ⟨k,h1,rfl,h2⟩)
  exact ⟨j,hj,by rw [getD_lt hj];exact he⟩
 refine Mc.Ends.c (mc.ends F_impl_cubesOf ?_)
 simp+contextual(maxSteps:=1000000)(disch:=omega)only[↓Sd,↓So,↓Sk,↓den,↓denA,Sa,Sb,Sc,Se,O1.d,O2.d,O3.d,cmI,arI,envOf,putN,↓reduceIte,Nat.reduceLT,Nat.reduceSub,Nat.reduceAdd,Int.reduceAdd,Int.reduceEq,Int.reduceLT,Int.reduceLE,arr_pos,arr_neg,tr_impl_cubesOf,C_impl_allBits s (upTo q (szn s.1)) h (by omega) hO,C_impl_allBits s X h hl hX]
 obtain ⟨O,hOd⟩:∃O,upTo q (szn s.1)=O:=⟨_,rfl⟩
 rw [hOd] at hol hO hOm hOe ⊢
 refine mc.lp_for (List (List Int)) (fun i C=>[⟨I,(X.length:Int)⟩,⟨I,(i:Int)⟩,⟨L (L I),C⟩,⟨L (L I),bits s O⟩,⟨L (L I),bits s X⟩]) (fun i C=>C=cubs s q X i) X.length 0 [] _ (by rw [bits_len];rfl) (Nat.zero_le _) rfl ?_ ?_
 ·rintro i C hi rfl
  have hx:=hX _ (getD_mem (d:=0) hi)
  obtain ⟨x,hxe⟩:∃x:Nat,X.getD i 0=x:=⟨(X.getD i 0).toNat,by omega⟩
  have hCl:=@cubs_len s q X i
  have hCi:=@cubs_in s q X i
  have hbx:(bits s X).getD i []=sb s (stN s x):=by rw [bits_get hi,hxe,Int.toNat_natCast]
  have hnext:cubs s q X (i+1)=if cov s (cubs s q X i) x=true then cubs s q X i else cubs s q X i++[cub s q x]:=by
   simp only [cubs,hxe,Int.toNat_natCast]
  obtain ⟨C,hCe⟩:∃C,cubs s q X i=C:=⟨_,rfl⟩
  rw [hCe] at hCl hCi hnext ⊢
  simp+contextual(maxSteps:=1000000)(disch:=omega)only[↓Sd,↓So,↓Sk,↓den,↓denA,Sa,Sb,Sc,Se,O1.d,O2.d,O3.d,cmI,arI,envOf,putN,↓reduceIte,Nat.reduceLT,Nat.reduceSub,Nat.reduceAdd,Int.reduceAdd,Int.reduceEq,Int.reduceLT,Int.reduceLE,arr_pos,arr_neg,]
  refine mc.wp_join (fun us=>us=[⟨I,(X.length:Int)⟩,⟨I,(i:Int)⟩,⟨L (L I),cubs s q X (i+1)⟩,⟨L (L I),bits s O⟩,⟨L (L I),bits s X⟩]) ?_ ?_
  ·simp+contextual(maxSteps:=1000000)(disch:=omega)only[↓Sd,↓So,↓Sk,↓den,↓denA,Sa,Sb,Sc,Se,O1.d,O2.d,O3.d,cmI,arI,envOf,putN,↓reduceIte,Nat.reduceLT,Nat.reduceSub,Nat.reduceAdd,Int.reduceAdd,Int.reduceEq,Int.reduceLT,Int.reduceLE,arr_pos,arr_neg,bits_len]
   refine lp_all (fun j=>[⟨I,(C.length:Int)⟩,⟨I,(j:Int)⟩,⟨I,(X.length:Int)⟩,⟨I,(i:Int)⟩,⟨L (L I),C⟩,⟨I,(i:Int)⟩,⟨L (L I),bits s X⟩,⟨L (L I),bits s O⟩]) (fun j=>inC s (C.getD j []) x=false) C.length _ rfl ?_ ?_
   ·intro j hj
    have hcl:=hCi _ (getD_mem (d:=[]) hj)
    simp+contextual(maxSteps:=1000000)(disch:=omega)only[↓Sd,↓So,↓Sk,↓den,↓denA,Sa,Sb,Sc,Se,O1.d,O2.d,O3.d,cmI,arI,envOf,putN,↓reduceIte,Nat.reduceLT,Nat.reduceSub,Nat.reduceAdd,Int.reduceAdd,Int.reduceEq,Int.reduceLT,Int.reduceLE,arr_pos,arr_neg,hbx,bits_len,C_impl_cubeHas (C.getD j []) (sb s (stN s x)) (by omega) (cube_len hcl)]
    refine ⟨fun g=>?_,fun g=>Bool.eq_false_iff.2 g⟩
    have hcv:cov s C x=true:=List.any_eq_true.2 ⟨_,getD_mem (d:=[]) hj,g⟩
    rw [hnext,if_pos hcv]
   ·intro hno
    have hnc:¬cov s C x=true:=fun g=>by
     obtain ⟨c,hc,h2⟩:=List.any_eq_true.1 g
     obtain ⟨j,hj,he⟩:=List.getElem_of_mem hc
     have h3:=hno j hj
     rw [getD_lt hj,he] at h3
     rw [h3] at h2;cases h2
    rw [if_neg hnc] at hnext
    simp+contextual(maxSteps:=1000000)(disch:=omega)only[↓Sd,↓So,↓Sk,↓den,↓denA,Sa,Sb,Sc,Se,O1.d,O2.d,O3.d,cmI,arI,envOf,putN,↓reduceIte,Nat.reduceLT,Nat.reduceSub,Nat.reduceAdd,Int.reduceAdd,Int.reduceEq,Int.reduceLT,Int.reduceLE,arr_pos,arr_neg,hbx,bits_len]
    have hm1:decide ((-1:Int)≥0)=false:=by decide
    refine ⟨fun _=>?_,fun g=>absurd hm1 g⟩
    have hlen:=@stN_sb_len s x
    have hcub:cub s q x=wdn (hnP s q) (sb s (stN s x)) (sb s (stN s x)).length:=rfl
    simp+contextual(maxSteps:=1000000)(disch:=omega)only[↓Sd,↓So,↓Sk,↓den,↓denA,Sa,Sb,Sc,Se,O1.d,O2.d,O3.d,cmI,arI,envOf,putN,↓reduceIte,Nat.reduceLT,Nat.reduceSub,Nat.reduceAdd,Int.reduceAdd,Int.reduceEq,Int.reduceLT,Int.reduceLE,arr_pos,arr_neg,C_impl_clone_int (sb s (stN s x)) (by omega),hbx,bits_len]
    generalize hcc:sb s (stN s x)=c at *
    refine mc.lp_for (List Int) (fun b o=>[⟨I,(i:Int)⟩,⟨I,(c.length:Int)⟩,⟨I,(b:Int)⟩,⟨I,(X.length:Int)⟩,⟨I,(i:Int)⟩,⟨L (L I),bits s O⟩,⟨L I,o⟩,⟨L (L I),bits s X⟩,⟨L (L I),C⟩]) (fun b o=>o=wdn (hnP s q) c b) c.length 0 c _ rfl (Nat.zero_le _) rfl ?_ ?_
    ·rintro b o hbi rfl
     have hl:=@wdn_len (hnP s q) c b
     have hsm:=(@wdn_same (hnP s q) c 0 b).2 b (Nat.le_refl _)
     have hl2:(((wdn (hnP s q) c b).set b 2).length:Int)=bc s.1:=by rw [List.length_set,hl];exact hlen
     have e:(wdn (hnP s q) c b).set b (c.getD b 0)=wdn (hnP s q) c b:=set_self (d:=0) (by omega) hsm
     have hwn:wdn (hnP s q) c (b+1)=if dB (hnP s q ((wdn (hnP s q) c b).set b 2))=true then (wdn (hnP s q) c b).set b 2 else wdn (hnP s q) c b:=rfl
     obtain ⟨w,hw⟩:∃w,wdn (hnP s q) c b=w:=⟨_,rfl⟩
     rw [hw] at hl hsm hl2 e hwn ⊢
     simp+contextual(maxSteps:=1000000)(disch:=omega)only[↓Sd,↓So,↓Sk,↓den,↓denA,Sa,Sb,Sc,Se,O1.d,O2.d,O3.d,cmI,arI,envOf,putN,↓reduceIte,Nat.reduceLT,Nat.reduceSub,Nat.reduceAdd,Int.reduceAdd,Int.reduceEq,Int.reduceLT,Int.reduceLE,arr_pos,arr_neg,]
     refine mc.wp_join (fun us=>us=[⟨I,(i:Int)⟩,⟨I,(c.length:Int)⟩,⟨I,(b:Int)⟩,⟨I,(X.length:Int)⟩,⟨I,(i:Int)⟩,⟨L (L I),bits s O⟩,⟨L I,wdn (hnP s q) c (b+1)⟩,⟨L (L I),bits s X⟩,⟨L (L I),C⟩]) ?_ ?_
     ·simp+contextual(maxSteps:=1000000)(disch:=omega)only[↓Sd,↓So,↓Sk,↓den,↓denA,Sa,Sb,Sc,Se,O1.d,O2.d,O3.d,cmI,arI,envOf,putN,↓reduceIte,Nat.reduceLT,Nat.reduceSub,Nat.reduceAdd,Int.reduceAdd,Int.reduceEq,Int.reduceLT,Int.reduceLE,arr_pos,arr_neg,hbx,bits_len]
      refine lp_all (fun j=>[⟨I,(O.length:Int)⟩,⟨I,(j:Int)⟩,⟨I,(b:Int)⟩,⟨I,c.getD b 0⟩,⟨I,(i:Int)⟩,⟨I,(c.length:Int)⟩,⟨I,(b:Int)⟩,⟨I,(X.length:Int)⟩,⟨I,(i:Int)⟩,⟨L (L I),bits s O⟩,⟨L I,w.set b 2⟩,⟨L (L I),bits s X⟩,⟨L (L I),C⟩]) (fun j=>inC s (w.set b 2) (O.getD j 0).toNat=false) O.length _ rfl ?_ ?_
      ·intro j hj
       obtain ⟨k,hk1,hk2,hk3⟩:=hOm j hj
       have hbo:(bits s O).getD j []=sb s (stN s k):=by rw [bits_get hj,hk1,Int.toNat_natCast]
       simp+contextual(maxSteps:=1000000)(disch:=omega)only[↓Sd,↓So,↓Sk,↓den,↓denA,Sa,Sb,Sc,Se,O1.d,O2.d,O3.d,cmI,arI,envOf,putN,↓reduceIte,Nat.reduceLT,Nat.reduceSub,Nat.reduceAdd,Int.reduceAdd,Int.reduceEq,Int.reduceLT,Int.reduceLE,arr_pos,arr_neg,hbo,bits_len,C_impl_cubeHas (w.set b 2) (sb s (stN s k)) (by omega) (cube_len hl2),List.length_set,List.set_set,e,hk1]
       refine ⟨fun g=>?_,fun g=>Bool.eq_false_iff.2 g⟩
       rw [hwn,dB_f]
       ·simp
       ·intro g2
        have:=g2 k hk2 hk3
        unfold inC at this
        rw [g] at this;cases this
      ·intro hall
       simp+contextual(maxSteps:=1000000)(disch:=omega)only[↓Sd,↓So,↓Sk,↓den,↓denA,Sa,Sb,Sc,Se,O1.d,O2.d,O3.d,cmI,arI,envOf,putN,↓reduceIte,Nat.reduceLT,Nat.reduceSub,Nat.reduceAdd,Int.reduceAdd,Int.reduceEq,Int.reduceLT,Int.reduceLE,arr_pos,arr_neg,List.length_set]
       refine ⟨fun g=>(nomatch (show true=false from (show (!decide ((-1:Int)≥0))=true from rfl).symm.trans g)),fun _=>?_⟩
       rw [hwn,dB_t,if_pos rfl]
       intro k h1 h2
       obtain ⟨j,hj,he⟩:=hOe k h1 h2
       have:=hall j hj
       rw [he,Int.toNat_natCast] at this
       exact this
     ·rintro us rfl
      simp+contextual(maxSteps:=1000000)(disch:=omega)only[↓Sd,↓So,↓Sk,↓den,↓denA,Sa,Sb,Sc,Se,O1.d,O2.d,O3.d,cmI,arI,envOf,putN,↓reduceIte,Nat.reduceLT,Nat.reduceSub,Nat.reduceAdd,Int.reduceAdd,Int.reduceEq,Int.reduceLT,Int.reduceLE,arr_pos,arr_neg,]
    ·rintro o rfl
     simp+contextual(maxSteps:=1000000)(disch:=omega)only[↓Sd,↓So,↓Sk,↓den,↓denA,Sa,Sb,Sc,Se,O1.d,O2.d,O3.d,cmI,arI,envOf,putN,↓reduceIte,Nat.reduceLT,Nat.reduceSub,Nat.reduceAdd,Int.reduceAdd,Int.reduceEq,Int.reduceLT,Int.reduceLE,arr_pos,arr_neg,]
     rw [hnext,←hcub]
  ·rintro us rfl
   simp+contextual(maxSteps:=1000000)(disch:=omega)only[↓Sd,↓So,↓Sk,↓den,↓denA,Sa,Sb,Sc,Se,O1.d,O2.d,O3.d,cmI,arI,envOf,putN,↓reduceIte,Nat.reduceLT,Nat.reduceSub,Nat.reduceAdd,Int.reduceAdd,Int.reduceEq,Int.reduceLT,Int.reduceLE,arr_pos,arr_neg,]
 ·rintro C rfl
  have hCl:=@cubs_len s q X X.length
  simp+contextual(maxSteps:=1000000)(disch:=omega)only[↓Sd,↓So,↓Sk,↓den,↓denA,Sa,Sb,Sc,Se,O1.d,O2.d,O3.d,cmI,arI,envOf,putN,↓reduceIte,Nat.reduceLT,Nat.reduceSub,Nat.reduceAdd,Int.reduceAdd,Int.reduceEq,Int.reduceLT,Int.reduceLE,arr_pos,arr_neg,bits_len,C_impl_clone_Sint (cubs s q X X.length) (by omega)]
theorem C_impl_around (s:Sy) (X:List Int) (q:Nat→Bool) (h:valid s) (hl:X.length≤400) (hX:∀x∈X,0≤x∧x<(szn s.1:Int)) (Q:List AV→Prop):mc.C f_impl_around [⟨L V3,s.1⟩,⟨L TR,s.2⟩,⟨L I,X⟩,⟨L I,upTo q (szn s.1)⟩] Q=Q [⟨L B,tab (arnd s q X) (szn s.1)⟩]:=by
 have hz:=szn_eq h
 have hz1:=hz.1
 refine Mc.Ends.c (mc.ends F_impl_around ?_)
 simp+contextual(maxSteps:=1000000)(disch:=omega)only[↓Sd,↓So,↓Sk,↓den,↓denA,Sa,Sb,Sc,Se,O1.d,O2.d,O3.d,cmI,arI,envOf,putN,↓reduceIte,Nat.reduceLT,Nat.reduceSub,Nat.reduceAdd,Int.reduceAdd,Int.reduceEq,Int.reduceLT,Int.reduceLE,arr_pos,arr_neg,tr_impl_around,C_impl_size s.1 h.1.2 h.2.2.1,←hz1,C_impl_cubesOf s X q h hl hX]
 have hCl:=@cubs_len s q X X.length
 have hCi:=@cubs_in s q X X.length
 unfold arnd
 generalize cubs s q X X.length=C at *
 refine mc.lp_for (List Bool) (fun i o=>[⟨I,(C.length:Int)⟩,⟨I,(i:Int)⟩,⟨L V3,s.1⟩,⟨L TR,s.2⟩,⟨L B,o⟩,⟨L (L I),C⟩]) (fun i o=>o=tab (cov s (C.take i)) (szn s.1)) C.length 0 _ _ rfl (Nat.zero_le _) ?_ ?_ ?_
 ·rw [rep_tab];rfl
 ·rintro i o hi rfl
  have hcl:=hCi _ (getD_mem (d:=[]) hi)
  have hci:=C_impl_cubeStates s (C.getD i []) h hcl
  have hnx:∀k,cov s (C.take (i+1)) k=(cov s (C.take i) k||inC s (C.getD i []) k):=fun k=>by rw [←take_next (d:=[]) hi,cov_snoc]
  obtain ⟨c,hce⟩:∃c,C.getD i []=c:=⟨_,rfl⟩
  rw [hce] at hcl hci hnx
  simp+contextual(maxSteps:=1000000)(disch:=omega)only[↓Sd,↓So,↓Sk,↓den,↓denA,Sa,Sb,Sc,Se,O1.d,O2.d,O3.d,cmI,arI,envOf,putN,↓reduceIte,Nat.reduceLT,Nat.reduceSub,Nat.reduceAdd,Int.reduceAdd,Int.reduceEq,Int.reduceLT,Int.reduceLE,arr_pos,arr_neg,hce,hci]
  have hul:=@upTo_len (inC s c) (szn s.1)
  have hum:∀j,j<(upTo (inC s c) (szn s.1)).length→∃k:Nat,(upTo (inC s c) (szn s.1)).getD j 0=(k:Int)∧k<szn s.1∧inC s c k=true:=fun j hj=>by
   obtain ⟨k,h1,h2,h3⟩:=upTo_mem.1 (getD_mem (d:=0) hj);exact ⟨k,h2,h1,h3⟩
  have hue:∀k,k<szn s.1→inC s c k=true→∃j,j<(upTo (inC s c) (szn s.1)).length∧(upTo (inC s c) (szn s.1)).getD j 0=(k:Int):=fun k h1 h2=>by
   obtain ⟨j,hj,he⟩:=List.getElem_of_mem (upTo_mem.2 ⟨k,h1,rfl,h2⟩)
   exact ⟨j,hj,by rw [getD_lt hj];exact he⟩
  generalize upTo (inC s c) (szn s.1)=U at hul hum hue ⊢
  refine mc.lp_for (List Bool) (fun j o=>[⟨I,(C.length:Int)⟩,⟨I,(i:Int)⟩,⟨I,(U.length:Int)⟩,⟨I,(j:Int)⟩,⟨L V3,s.1⟩,⟨L TR,s.2⟩,⟨L B,o⟩,⟨L (L I),C⟩,⟨L I,U⟩]) (fun j o=>o=tab (fun k=>cov s (C.take i) k||dB ((k:Int)∈U.take j)) (szn s.1)) U.length 0 _ _ rfl (Nat.zero_le _) ?_ ?_ ?_
  ·exact tab_congr fun k _=>by rw [List.take_zero,dB_f (by simp),Bool.or_false]
  ·rintro j o hj rfl
   obtain ⟨k,h1,h2,h3⟩:=hum j hj
   simp+contextual(maxSteps:=1000000)(disch:=omega)only[↓Sd,↓So,↓Sk,↓den,↓denA,Sa,Sb,Sc,Se,O1.d,O2.d,O3.d,cmI,arI,envOf,putN,↓reduceIte,Nat.reduceLT,Nat.reduceSub,Nat.reduceAdd,Int.reduceAdd,Int.reduceEq,Int.reduceLT,Int.reduceLE,arr_pos,arr_neg,h1,tab_len,tab_set']
   refine tab_congr fun m hm=>?_
   rw [←take_next (d:=0) hj,h1]
   by_cases e:m=k
   ·subst e;rw [if_pos rfl,dB_t (by simp),Bool.or_true]
   ·rw [if_neg e]
    congr 1
    refine dB_congr ?_
    rw [List.mem_append,List.mem_singleton]
    exact ⟨Or.inl,fun h=>h.elim id fun h=>absurd (by omega) e⟩
  ·rintro o rfl
   simp+contextual(maxSteps:=1000000)(disch:=omega)only[↓Sd,↓So,↓Sk,↓den,↓denA,Sa,Sb,Sc,Se,O1.d,O2.d,O3.d,cmI,arI,envOf,putN,↓reduceIte,Nat.reduceLT,Nat.reduceSub,Nat.reduceAdd,Int.reduceAdd,Int.reduceEq,Int.reduceLT,Int.reduceLE,arr_pos,arr_neg,List.take_length]
   refine tab_congr fun k hk=>?_
   rw [hnx]
   congr 1
   by_cases g:inC s c k=true
   ·obtain ⟨j,hj,he⟩:=hue k hk g
    rw [g,dB_t]
    rw [←he];exact getD_mem hj
   ·rw [Bool.eq_false_iff.2 g,dB_f]
    intro h4
    obtain ⟨j,hj,he⟩:=List.getElem_of_mem h4
    obtain ⟨m,h5,h6,h7⟩:=hum j hj
    rw [getD_lt hj,he] at h5
    have:k=m:=by omega
    rw [this] at g;exact g h7
 ·rintro o rfl
  simp+contextual(maxSteps:=1000000)(disch:=omega)only[↓Sd,↓So,↓Sk,↓den,↓denA,Sa,Sb,Sc,Se,O1.d,O2.d,O3.d,cmI,arI,envOf,putN,↓reduceIte,Nat.reduceLT,Nat.reduceSub,Nat.reduceAdd,Int.reduceAdd,Int.reduceEq,Int.reduceLT,Int.reduceLE,arr_pos,arr_neg,List.take_length]
theorem C_spec_l16Wide (s:Sy) (c:List Int) (q:Nat→Bool) (hs:FewSy s) (h:valid s) (hc:(c.length:Int)=bc s.1) (Q:List AV→Prop):mc.C f_spec_l16Wide [⟨L V3,s.1⟩,⟨L TR,s.2⟩,⟨L I,c⟩,⟨L I,upTo q (szn s.1)⟩] Q=Q [⟨L I,wdn (hnP s q) c c.length⟩]:=by
 have hz:=szn_eq h
 have hb:=bc_bd h
 refine Mc.Ends.c (mc.ends F_spec_l16Wide ?_)
 simp+contextual(maxSteps:=1000000)(disch:=omega)only[↓Sd,↓So,↓Sk,↓den,↓denA,Sa,Sb,Sc,Se,O1.d,O2.d,O3.d,cmI,arI,envOf,putN,↓reduceIte,Nat.reduceLT,Nat.reduceSub,Nat.reduceAdd,Int.reduceAdd,Int.reduceEq,Int.reduceLT,Int.reduceLE,arr_pos,arr_neg,tr_spec_l16Wide,C_spec_l3Copy c (by omega)]
 refine mc.lp_for (List Int) (fun b o=>[⟨L I,upTo q (szn s.1)⟩,⟨I,(b:Int)⟩,⟨L V3,s.1⟩,⟨L TR,s.2⟩,⟨L I,o⟩]) (fun b o=>o=wdn (hnP s q) c b) c.length 0 c _ rfl (Nat.zero_le _) rfl ?_ ?_
 ·rintro b o hbi rfl
  have hl:=@wdn_len (hnP s q) c b
  have hl2:(((wdn (hnP s q) c b).set b 2).length:Int)=bc s.1:=by rw [List.length_set,hl];exact hc
  have hwn:wdn (hnP s q) c (b+1)=if dB (hnP s q ((wdn (hnP s q) c b).set b 2))=true then (wdn (hnP s q) c b).set b 2 else wdn (hnP s q) c b:=rfl
  obtain ⟨w,hw⟩:∃w,wdn (hnP s q) c b=w:=⟨_,rfl⟩
  rw [hw] at hl hl2 hwn ⊢
  have hiff:((upTo (fun k=>dB ((k:Int)∈upTo (inC s (w.set b 2)) (szn s.1))&&dB ((k:Int)∈upTo q (szn s.1))) 400).length:Int)=0↔hnP s q (w.set b 2):=by
   have h1:=@upTo_nil (fun k=>dB ((k:Int)∈upTo (inC s (w.set b 2)) (szn s.1))&&dB ((k:Int)∈upTo q (szn s.1))) 400
   constructor
   ·intro h2 k h3 h4
    have h5:=h1.1 (by omega) k (by omega)
    simp only [dB_upTo,h3,h4,decide_true,Bool.true_and,Bool.and_true] at h5
    exact h5
   ·intro h2
    have:=h1.2 fun k hk=>by
     simp only [dB_upTo]
     by_cases h3:k<szn s.1
     ·by_cases h4:q k=true
      ·simp [h2 k h3 h4]
      ·simp [Bool.eq_false_iff.2 h4]
     ·simp [h3]
    omega
  simp+contextual(maxSteps:=1000000)(disch:=omega)only[↓Sd,↓So,↓Sk,↓den,↓denA,Sa,Sb,Sc,Se,O1.d,O2.d,O3.d,cmI,arI,envOf,putN,↓reduceIte,Nat.reduceLT,Nat.reduceSub,Nat.reduceAdd,Int.reduceAdd,Int.reduceEq,Int.reduceLT,Int.reduceLE,arr_pos,arr_neg,↓wpJoin,C_spec_l3Copy w (by omega),List.length_set,C_spec_l16States s (w.set b 2) hs h hl2,C_spec_SetBoth _ _ (upTo_lset (p:=inC s (w.set b 2)) (m:=400) (n:=szn s.1) (by omega)) (upTo_lset (p:=q) (m:=400) (n:=szn s.1) (by omega))]
  refine ⟨fun g=>?_,fun g=>?_⟩
  ·rw [hwn,dB_t (hiff.1 g),if_pos rfl]
  ·rw [hwn,dB_f fun g2=>g (hiff.2 g2)];simp
 ·rintro o rfl
  have hl:=@wdn_len (hnP s q) c c.length
  simp+contextual(maxSteps:=1000000)(disch:=omega)only[↓Sd,↓So,↓Sk,↓den,↓denA,Sa,Sb,Sc,Se,O1.d,O2.d,O3.d,cmI,arI,envOf,putN,↓reduceIte,Nat.reduceLT,Nat.reduceSub,Nat.reduceAdd,Int.reduceAdd,Int.reduceEq,Int.reduceLT,Int.reduceLE,arr_pos,arr_neg,hl]
theorem C_spec_l19Around (s:Sy) (X:List Int) (q:Nat→Bool) (hs:FewSy s) (h:valid s) (hl:X.length≤400) (hX:∀x∈X,0≤x∧x<(szn s.1:Int)) (Q:List AV→Prop):mc.C f_spec_l19Around [⟨L V3,s.1⟩,⟨L TR,s.2⟩,⟨L I,X⟩,⟨L I,upTo q (szn s.1)⟩] Q=Q [⟨L I,upTo (arnd s q X) (szn s.1)⟩]:=by
 have hz:=szn_eq h
 refine Mc.Ends.c (mc.ends F_spec_l19Around ?_)
 simp+contextual(maxSteps:=1000000)(disch:=omega)only[↓Sd,↓So,↓Sk,↓den,↓denA,Sa,Sb,Sc,Se,O1.d,O2.d,O3.d,cmI,arI,envOf,putN,↓reduceIte,Nat.reduceLT,Nat.reduceSub,Nat.reduceAdd,Int.reduceAdd,Int.reduceEq,Int.reduceLT,Int.reduceLE,arr_pos,arr_neg,tr_spec_l19Around]
 refine mc.lp_for (List Int) (fun i o=>[⟨L I,X⟩,⟨L I,upTo q (szn s.1)⟩,⟨I,(i:Int)⟩,⟨L V3,s.1⟩,⟨L TR,s.2⟩,⟨L I,o⟩]) (fun i o=>o=upTo (cov s (cubs s q X i)) (szn s.1)) X.length 0 [] _ rfl (Nat.zero_le _) ?_ ?_ ?_
 ·refine (List.eq_nil_of_length_eq_zero (upTo_nil.2 fun k _=>rfl)).symm
 ·rintro i o hi rfl
  have hx:=hX _ (getD_mem (d:=0) hi)
  obtain ⟨x,hxe⟩:∃x:Nat,X.getD i 0=x:=⟨(X.getD i 0).toNat,by omega⟩
  have hin:=stN_in h (n:=x) (by omega)
  have hst:stAt s.1 (x:Int)=stN s x:=rfl
  have hnext:cubs s q X (i+1)=if cov s (cubs s q X i) x=true then cubs s q X i else cubs s q X i++[cub s q x]:=by
   simp only [cubs,hxe,Int.toNat_natCast]
  obtain ⟨C,hCe⟩:∃C,cubs s q X i=C:=⟨_,rfl⟩
  rw [hCe] at hnext ⊢
  have hul:=@upTo_len (cov s C) (szn s.1)
  have hxs:x<szn s.1:=by omega
  have hcl:=@cub_len s q x
  have hcd:wdn (hnP s q) (sb s (stN s x)) (sb s (stN s x)).length=cub s q x:=rfl
  have hhas:dB ((x:Int)∈upTo (cov s C) (szn s.1))=cov s C x:=by rw [dB_upTo,decide_eq_true hxs,Bool.true_and]
  have hse:∀Q:List AV→Prop,mc.C f_spec_SetEither [⟨L I,upTo (cov s C) (szn s.1)⟩,⟨L I,upTo (inC s (cub s q x)) (szn s.1)⟩] Q=Q [⟨L I,upTo (fun k=>cov s C k||inC s (cub s q x) k) (szn s.1)⟩]:=fun Q=>by
   rw [C_spec_SetEither _ _ (upTo_lset (p:=cov s C) (m:=400) (n:=szn s.1) (by omega)) (upTo_lset (p:=inC s (cub s q x)) (m:=400) (n:=szn s.1) (by omega)),either_upTo (by omega:szn s.1≤400)]
  simp+contextual(maxSteps:=1000000)(disch:=omega)only[↓Sd,↓So,↓Sk,↓den,↓denA,Sa,Sb,Sc,Se,O1.d,O2.d,O3.d,cmI,arI,envOf,putN,↓reduceIte,Nat.reduceLT,Nat.reduceSub,Nat.reduceAdd,Int.reduceAdd,Int.reduceEq,Int.reduceLT,Int.reduceLE,arr_pos,arr_neg,↓wpJoin,hxe,C_spec_l2Has (upTo (cov s C) (szn s.1)) (x:Int) (by omega),hhas,C_spec_l4State s (x:Int) hs h (by omega),hst,C_spec_l6State s (stN s x) h hin,C_spec_l16Wide s (sb s (stN s x)) q hs h sb_len,hcd,C_spec_l16States s (cub s q x) hs h hcl,hse]
  refine ⟨fun g=>?_,fun g=>?_⟩
  ·rw [hnext,g,if_neg (by simp)]
   exact upTo_congr fun k _=>cov_snoc.symm
  ·rw [hnext,if_pos (by simpa using g)]
 ·rintro o rfl
  simp+contextual(maxSteps:=1000000)(disch:=omega)only[↓Sd,↓So,↓Sk,↓den,↓denA,Sa,Sb,Sc,Se,O1.d,O2.d,O3.d,cmI,arI,envOf,putN,↓reduceIte,Nat.reduceLT,Nat.reduceSub,Nat.reduceAdd,Int.reduceAdd,Int.reduceEq,Int.reduceLT,Int.reduceLE,arr_pos,arr_neg,]
  rfl
theorem vb_inj {a b w:Nat} (ha:a<2 ^ w) (hb:b<2 ^ w) (h:vb a w=vb b w):a=b:=by
 refine Nat.eq_of_testBit_eq fun j=>?_
 by_cases hj:j<w
 ·have h1 := congrArg (fun l => l.getD (w - 1 - j) 0) h
  simp only [vb, tab_get (show w - 1 - j < w by omega), show w - 1 - (w - 1 - j) = j by omega] at h1
  rw [Nat.testBit_eq_decide_div_mod_eq,Nat.testBit_eq_decide_div_mod_eq]
  have:a / 2 ^ j % 2=b / 2 ^ j % 2:=by omega
  rw [this]
 ·have hp:2 ^ w≤2 ^ j:=Nat.pow_le_pow_right (by omega) (by omega)
  rw [Nat.testBit_lt_two_pow (by omega),Nat.testBit_lt_two_pow (by omega)]
theorem bn_lt {w:Int} (h:1≤w∧w≤20):w.toNat≤2 ^ (bn w).toNat:=by
 unfold bn
 split
 ·simp;omega
 split
 ·simp;omega
 split
 ·simp;omega
 split
 ·simp;omega
 split
 ·simp;omega
 ·simp;omega
theorem sbN_inj {s:Sy} (h:valid s) {a b:List Int} (ha:inR s.1 a) (hb:inR s.1 b):∀{i:Nat},i≤s.1.length→sbN s.1 a i=sbN s.1 b i→∀j,j<i→a.getD j 0=b.getD j 0
 | 0,_,_,j,hj=>absurd hj (Nat.not_lt_zero _)
 | i+1,hi,he,j,hj=>by
  simp only [sbN] at he
  have hl:(sbN s.1 a i).length=(sbN s.1 b i).length:=by
   have h1:=@sbN_len s.1 a i
   have h2:=@sbN_len s.1 b i
   omega
  obtain ⟨h1,h2⟩:=List.append_inj he hl
  rcases Nat.lt_succ_iff_lt_or_eq.1 hj with hj | rfl
  ·exact sbN_inj h ha hb (by omega) h1 j hj
  ·have hv:=h.2.2.1 _ (getD_mem (d:=(0,0,0)) hi)
   have a1:=ha.2 j hi
   have b1:=hb.2 j hi
   unfold bw at h2
   generalize s.1.getD j (0,0,0)=v at hv a1 b1 h2
   unfold vOk at hv
   have hw:1≤wd v∧wd v≤20:=by unfold wd;omega
   have hw2:=bn_lt hw
   have hwe:wd v=v.2.1 - v.1+1:=rfl
   have:=vb_inj (by omega) (by omega) h2
   omega
theorem sb_inj {s:Sy} (h:valid s) {a b:List Int} (ha:inR s.1 a) (hb:inR s.1 b) (he:sb s a=sb s b):a=b:=by
 have h1:=sbN_inj h ha hb (Nat.le_refl _) he
 have la:=ha.1
 have lb:=hb.1
 refine List.ext_getElem (by omega) fun i h2 h3=>?_
 have:=h1 i (by omega)
 rwa [getD_lt h2,getD_lt h3] at this
theorem sb_has {s:Sy} {a b:List Int} (hh:cHas (sb s a) (sb s b)):sb s a=sb s b:=by
 have la:=@sb_len s a
 have lb:=@sb_len s b
 refine List.ext_getElem (by omega) fun i h2 h3=>?_
 have h4:=hh i h2
 have h5:=sbN_bit (l:=s.1) (st:=a) (i:=s.1.length) _ (show (sb s a).getD i 0∈sb s a from getD_mem h2)
 rw [getD_lt h2] at h5 h4
 rw [getD_lt h3] at h4
 rcases h4 with h4 | h4
 ·omega
 ·exact h4
theorem inC_sb {s:Sy} (h:valid s) {k x:Nat} (hk:k<szn s.1) (hx:x<szn s.1) (hi:inC s (sb s (stN s x)) k=true):k=x:=by
 have h1:=sb_inj h (stN_in h hx) (stN_in h hk) (sb_has (dB_iff.1 hi))
 have h2:=num_stN h hk
 have h3:=num_stN h hx
 rw [h1] at h3
 omega
theorem wdn_hn {P:List Int→Prop} {c:List Int} (h:P c):∀{i:Nat},P (wdn P c i)
 | 0=>h
 | i+1=>by
  simp only [wdn]
  split
  ·rename_i g;exact dB_iff.1 g
  ·exact wdn_hn h
theorem wdn_hs {P:List Int→Prop} {c:List Int}:∀{i:Nat},∀j,j<c.length→(wdn P c i).getD j 0=2∨(wdn P c i).getD j 0=c.getD j 0
 | 0,j,hj=>.inr rfl
 | i+1,j,hj=>by
  simp only [wdn]
  split
  ·by_cases e:j=i
   ·subst e;exact .inl (getD_set_eq (by rw [wdn_len];exact hj))
   ·rw [getD_set_ne (by omega)];exact wdn_hs j hj
  ·exact wdn_hs j hj
theorem cub_has {s:Sy} {q:Nat→Bool} {x:Nat}:inC s (cub s q x) x=true:=dB_t fun i hi=>wdn_hs i (by rw [cub,wdn_len] at hi;exact hi)
theorem cub_no {s:Sy} (h:valid s) {q:Nat→Bool} {x:Nat} (hx:x<szn s.1) (hq:q x=false):hnP s q (cub s q x):=by
 refine wdn_hn fun k hk hk2=>Bool.eq_false_iff.2 fun g=>?_
 have:=inC_sb h hk hx g
 rw [this,hq] at hk2;cases hk2
theorem cubs_no {s:Sy} (h:valid s) {q:Nat→Bool} {X:List Int} (hX:∀x∈X,0≤x∧x<(szn s.1:Int)) (hq:∀x∈X,q x.toNat=false):∀{i:Nat},i≤X.length→∀c∈cubs s q X i,hnP s q c
 | 0,_,c,hc=>by simp [cubs] at hc
 | i+1,hi,c,hc=>by
  have hx:=hX _ (getD_mem (d:=0) hi)
  have hx2:=hq _ (getD_mem (d:=0) hi)
  simp only [cubs] at hc
  split at hc
  ·exact cubs_no h hX hq (by omega) c hc
  ·rcases List.mem_append.1 hc with hc | hc
   ·exact cubs_no h hX hq (by omega) c hc
   ·rw [List.mem_singleton.1 hc];exact cub_no h (by omega) hx2
theorem cov_up {s:Sy} {q:Nat→Bool} {X:List Int} {k:Nat}:∀{i j:Nat},i≤j→cov s (cubs s q X i) k=true→cov s (cubs s q X j) k=true
 | i,0,h,g=>by
  have:i=0:=by omega
  subst this;exact g
 | i,j+1,h,g=>by
  rcases Nat.lt_or_eq_of_le h with h1 | rfl
  ·have ih:=cov_up (q:=q) (X:=X) (j:=j) (by omega) g
   simp only [cubs]
   split
   ·exact ih
   ·rw [cov_snoc,ih];rfl
  ·exact g
theorem arnd_no {s:Sy} (h:valid s) {q:Nat→Bool} {X:List Int} (hX:∀x∈X,0≤x∧x<(szn s.1:Int)) (hq:∀x∈X,q x.toNat=false) {k:Nat} (hk:k<szn s.1) (ha:arnd s q X k=true):q k=false:=by
 obtain ⟨c,h1,h2⟩:=List.any_eq_true.1 ha
 refine Bool.eq_false_iff.2 fun g=>?_
 rw [cubs_no h hX hq (Nat.le_refl _) c h1 k hk g] at h2
 cases h2
theorem arnd_has {s:Sy} {q:Nat→Bool} {X:List Int} {x:Nat} (hx:(x:Int)∈X):arnd s q X x=true:=by
 obtain ⟨i,hi,he⟩:=List.getElem_of_mem hx
 have h1:(X.getD i 0).toNat=x:=by rw [getD_lt hi,he];omega
 refine cov_up (i:=i+1) (by omega) ?_
 simp only [cubs,h1]
 split
 ·assumption
 ·rw [cov_snoc,cub_has,Bool.or_true]
noncomputable def bhd (s:Sy) (r:Nat→Bool):List Int:=upTo (fun k=>dB (behind (steps s) r (szn s.1) k)) (szn s.1)
def hit (s:Sy) (q r:Nat→Bool):Prop:=∃k,k<szn s.1∧behind (steps s) r (szn s.1) k∧q k=true
noncomputable def rnd (s:Sy) (q:Nat→Bool) (m:Nat):Nat→Nat→Bool
 | 0=>fun k=>k==m
 | j+1=>fun k=>rnd s q m j k||arnd s q (bhd s (rnd s q m j)) k
theorem behind_congr {T:List (List Int)} {p r:Nat→Bool} {n k:Nat} (h:∀a,a<n→p a=r a):behind T p n k↔behind T r n k :=
 ⟨fun ⟨a,h1,h2,h3⟩=>⟨a,h1,by rw [←h a h1];exact h2,h3⟩,fun ⟨a,h1,h2,h3⟩=>⟨a,h1,by rw [h a h1];exact h2,h3⟩⟩
theorem bhd_congr {s:Sy} {p r:Nat→Bool} (h:∀a,a<szn s.1→p a=r a):bhd s p=bhd s r:=upTo_congr fun k _=>dB_congr (behind_congr h)
theorem bhd_in {s:Sy} {r:Nat→Bool}:∀x∈bhd s r,0≤x∧x<(szn s.1:Int):=fun x hx=>by obtain ⟨k,h1,rfl,_⟩:=upTo_mem.1 hx;omega
theorem bhd_mem {s:Sy} {r:Nat→Bool} {k:Nat}:(k:Int)∈bhd s r↔k<szn s.1∧behind (steps s) r (szn s.1) k:=by
 constructor
 ·intro h
  obtain ⟨k',h1,h2,h3⟩:=upTo_mem.1 h
  have:k=k':=by omega
  subst this
  exact ⟨h1,dB_iff.1 h3⟩
 ·exact fun h=>upTo_mem.2 ⟨k,h.1,rfl,dB_t h.2⟩
theorem rnd_stay {s:Sy} {q:Nat→Bool} {m j:Nat} (h:∀k,k<szn s.1→rnd s q m (j+1) k=rnd s q m j k):∀{i:Nat},j≤i→∀k,k<szn s.1→rnd s q m i k=rnd s q m j k:=by
 intro i hi
 induction i with
 | zero => intro k hk; have : j = 0 := by omega
           subst this;rfl
 | succ i ih =>
  intro k hk
  rcases Nat.lt_or_eq_of_le hi with h1 | rfl
  ·have h2:=ih (by omega)
   rw [←h k hk]
   simp only [rnd]
   rw [h2 k hk,bhd_congr h2]
  ·rfl
theorem rnd_up {s:Sy} {q:Nat→Bool} {m k:Nat}:∀{i j:Nat},i≤j→rnd s q m i k=true→rnd s q m j k=true
 | i,0,h,g=>by
  have:i=0:=by omega
  subst this;exact g
 | i,j+1,h,g=>by
  rcases Nat.lt_or_eq_of_le h with h1 | rfl
  ·simp only [rnd]
   rw [rnd_up (j:=j) (by omega) g];rfl
  ·exact g
def okR (s:Sy) (q:Nat→Bool) (m:Nat):Prop:=∀j,¬hit s q (rnd s q m j)
noncomputable def shn (s:Sy) (q:Nat→Bool) (m:Nat):List Int:=upTo (fun k=>dB (∃j,rnd s q m j k=true)) (szn s.1)
theorem shn_stay {s:Sy} {q:Nat→Bool} {m j:Nat} (h:∀k,k<szn s.1→rnd s q m (j+1) k=rnd s q m j k):shn s q m=upTo (rnd s q m j) (szn s.1):=by
 refine upTo_congr fun k hk=>?_
 by_cases g:rnd s q m j k=true
 ·rw [g,dB_t ⟨j,g⟩]
 ·rw [Bool.eq_false_iff.2 g,dB_f]
  rintro ⟨i,hi⟩
  rcases Nat.le_total i j with h1 | h1
  ·exact g (rnd_up h1 hi)
  ·rw [rnd_stay h h1 k hk] at hi;exact g hi
theorem okR_stay {s:Sy} {q:Nat→Bool} {m j:Nat} (h:∀k,k<szn s.1→rnd s q m (j+1) k=rnd s q m j k) (hn:∀i,i≤j→¬hit s q (rnd s q m i)):okR s q m:=by
 intro i
 rcases Nat.le_total i j with h1 | h1
 ·exact hn i h1
 ·rintro ⟨k,h2,h3,h4⟩
  exact hn j (Nat.le_refl _) ⟨k,h2,(behind_congr (rnd_stay h h1)).1 h3,h4⟩
theorem rnd_no {s:Sy} (h:valid s) {q:Nat→Bool} {m:Nat} (hq:q m=false):∀{j:Nat},(∀i,i<j→¬hit s q (rnd s q m i))→∀k,k<szn s.1→rnd s q m j k=true→q k=false
 | 0,_,k,hk,hr=>by
  have:k=m:=by simpa [rnd] using hr
  rw [this];exact hq
 | j+1,hn,k,hk,hr=>by
  simp only [rnd,Bool.or_eq_true] at hr
  rcases hr with hr | hr
  ·exact rnd_no h hq (fun i hi=>hn i (by omega)) k hk hr
  ·refine arnd_no h bhd_in (fun x hx=>?_) hk hr
   have hb:=bhd_in x hx
   obtain ⟨x,rfl⟩:∃z:Nat,x=z:=⟨x.toNat,by omega⟩
   obtain ⟨h1,h2⟩:=bhd_mem.1 hx
   rw [Int.toNat_natCast]
   exact Bool.eq_false_iff.2 fun g=>hn j (by omega) ⟨x,h1,h2,g⟩
theorem okR_closed {s:Sy} (h:valid s) {q:Nat→Bool} {m:Nat} (hq:q m=false) (hc:∀a k,a<szn s.1→k<szn s.1→Eb (steps s) k a→q k=true→q a=true):okR s q m:=by
 intro j
 induction j using Nat.strongRecOn with
 | ind j ih =>
  rintro ⟨k,h1,⟨a,h2,h3,h4⟩,h5⟩
  have h6:=rnd_no h hq ih a h2 h3
  rw [hc a k h2 h1 h4 h5] at h6
  cases h6
theorem wI_end {E:Nat→Nat→Prop} {n:Nat} {p:Nat→Bool}:∀(i:Nat),(∃j,j<i∧∀k,k<n→wI E n p (j+1) k=wI E n p j k)∨i≤(upTo (wI E n p i) n).length
 | 0=>.inr (Nat.zero_le _)
 | i+1=>by
  rcases wI_end i with ⟨j,h1,h2⟩ | h1
  ·exact .inl ⟨j,by omega,h2⟩
  ·have hm:∀k,k<n→wI E n p i k=true→wI E n p (i+1) k=true:=fun k _ h=>by
    show stepB E n (wI E n p i) k=true
    unfold stepB;rw [h];rfl
   obtain ⟨h2,h3⟩:=upTo_mono hm
   rcases Nat.lt_or_ge (upTo (wI E n p i) n).length (upTo (wI E n p (i+1)) n).length with h4 | h4
   ·exact .inr (by omega)
   ·refine .inl ⟨i,by omega,fun k hk=>?_⟩
    by_cases g:wI E n p i k=true
    ·rw [g];exact hm k hk g
    ·rw [Bool.eq_false_iff.2 g]
     exact Bool.eq_false_iff.2 fun g2=>g (h3 h4 k hk g2)
theorem wI_closed {E:Nat→Nat→Prop} {n:Nat} {p:Nat→Bool} {a k:Nat} (ha:a<n) (hk:k<n) (he:E k a) (h:wI E n p n k=true):wI E n p n a=true:=by
 have hst:∀k,k<n→wI E n p (n+1) k=wI E n p n k:=by
  rcases @wI_end E n p (n+1) with ⟨j,h1,h2⟩ | h1
  ·intro k hk
   rw [wI_stay h2 (n+1) (by omega) k hk,wI_stay h2 n (by omega) k hk]
  ·have:=@upTo_len (wI E n p (n+1)) n
   omega
 rw [←hst a ha]
 show stepB E n (wI E n p n) a=true
 unfold stepB
 rw [dB_t ⟨k,hk,h,he⟩,Bool.or_true]
theorem wI_way {T:List (List Int)} {F:List Int} {n:Nat} {p:Nat→Bool}:∀{i a d:Nat},a<n→Lay T F d a→wI (Eb T) n p i a=true→∃b,b<n∧p b=true∧Lay T F (d+i) b
 | 0,a,d,ha,hl,h=>⟨a,ha,h,hl⟩
 | i+1,a,d,ha,hl,h=>by
  have h1:stepB (Eb T) n (wI (Eb T) n p i) a=true:=h
  unfold stepB at h1
  rw [Bool.or_eq_true] at h1
  rcases h1 with h1 | h1
  ·obtain ⟨b,h2,h3,h4⟩:=wI_way ha hl h1
   exact ⟨b,h2,h3,h4.up (by omega)⟩
  ·obtain ⟨c,h2,h3,h4⟩:=dB_iff.1 h1
   obtain ⟨b,h5,h6,h7⟩:=wI_way (d:=d+1) h2 (.inr ⟨a,hl,h4⟩) h3
   exact ⟨b,h5,h6,by rw [show d+(i+1)=d+1+i by omega];exact h7⟩
theorem wI_base {E:Nat→Nat→Prop} {n:Nat} {p:Nat→Bool} {k:Nat} (h:p k=true):∀(i:Nat),wI E n p i k=true
 | 0=>h
 | i+1=>by
  show stepB E n (wI E n p i) k=true
  unfold stepB;rw [wI_base h i];rfl
theorem C_spec_l14Range (n:Nat) (hn:n≤1048576) (Q:List AV→Prop):mc.C f_spec_l14Range [⟨I,0⟩,⟨I,(n:Int)⟩] Q=Q [⟨L I,upTo (fun _=>true) n⟩]:=by
 refine Mc.Ends.c (mc.ends F_spec_l14Range ?_)
 simp+contextual(maxSteps:=1000000)(disch:=omega)only[↓Sd,↓So,↓Sk,↓den,↓denA,Sa,Sb,Sc,Se,O1.d,O2.d,O3.d,cmI,arI,envOf,putN,↓reduceIte,Nat.reduceLT,Nat.reduceSub,Nat.reduceAdd,Int.reduceAdd,Int.reduceEq,Int.reduceLT,Int.reduceLE,arr_pos,arr_neg,tr_spec_l14Range]
 refine mc.lp_for (List Int) (fun i o=>[⟨I,0⟩,⟨I,(n:Int)⟩,⟨I,(i:Int)⟩,⟨L I,o⟩]) (fun i o=>o=upTo (fun _=>true) i) n 0 [] _ rfl (Nat.zero_le _) rfl ?_ ?_
 ·rintro i o hi rfl
  have h1:=@upTo_len (fun _=>true) i
  simp+contextual(maxSteps:=1000000)(disch:=omega)only[↓Sd,↓So,↓Sk,↓den,↓denA,Sa,Sb,Sc,Se,O1.d,O2.d,O3.d,cmI,arI,envOf,putN,↓reduceIte,Nat.reduceLT,Nat.reduceSub,Nat.reduceAdd,Int.reduceAdd,Int.reduceEq,Int.reduceLT,Int.reduceLE,arr_pos,arr_neg,]
  rw [Int.zero_add]
  exact (upTo_s (p:=fun _=>true) rfl).symm
 ·rintro o rfl
  simp+contextual(maxSteps:=1000000)(disch:=omega)only[↓Sd,↓So,↓Sk,↓den,↓denA,Sa,Sb,Sc,Se,O1.d,O2.d,O3.d,cmI,arI,envOf,putN,↓reduceIte,Nat.reduceLT,Nat.reduceSub,Nat.reduceAdd,Int.reduceAdd,Int.reduceEq,Int.reduceLT,Int.reduceLE,arr_pos,arr_neg,]
theorem hit_iff {s:Sy} {q r:Nat→Bool} {n:Nat} (hn:szn s.1=n) (h4:n≤400):0<((upTo (fun k=>dB ((k:Int)∈bhd s r)&&dB ((k:Int)∈upTo q n)) 400).length:Int)↔hit s q r:=by
 subst hn
 have h1:=@upTo_pos (fun k=>dB ((k:Int)∈bhd s r)&&dB ((k:Int)∈upTo q (szn s.1))) 400
 have h2:0<((upTo (fun k=>dB ((k:Int)∈bhd s r)&&dB ((k:Int)∈upTo q (szn s.1))) 400).length:Int)↔0<(upTo (fun k=>dB ((k:Int)∈bhd s r)&&dB ((k:Int)∈upTo q (szn s.1))) 400).length:=by omega
 rw [h2,h1]
 constructor
 ·rintro ⟨k,h3,h5⟩
  rw [Bool.and_eq_true,dB_iff,bhd_mem,dB_upTo,Bool.and_eq_true] at h5
  exact ⟨k,h5.1.1,h5.1.2,h5.2.2⟩
 ·rintro ⟨k,h3,h5,h6⟩
  refine ⟨k,by omega,?_⟩
  rw [Bool.and_eq_true,dB_iff,bhd_mem,dB_upTo,Bool.and_eq_true]
  exact ⟨⟨h3,h5⟩,decide_eq_true h3,h6⟩
theorem C_spec_l19Round (s:Sy) (q:Nat→Bool) (m:Nat) (hs:FewSy s) (h:valid s) (hm:num s.1 (fst0 s.1)=m) (hmn:m<szn s.1) (Q:List AV→Prop):mc.C f_spec_l19Round [⟨L V3,s.1⟩,⟨L TR,s.2⟩,⟨L (L I),steps s⟩,⟨L I,upTo q (szn s.1)⟩] Q=Q [⟨L I,if dB (okR s q m)=true then shn s q m else []⟩]:=by
 have hz:=szn_eq h
 have hfi:=fst0_in h.2.2.1
 have ht:=steps_tbl h
 have h0:[(m:Int)]=upTo (rnd s q m 0) (szn s.1):=by
  show _=upTo (fun k=>k==m) (szn s.1)
  rw [upTo_one,if_pos hmn]
 obtain ⟨n,hn⟩:∃n,szn s.1=n:=⟨_,rfl⟩
 have hTl:=ht.1
 refine Mc.Ends.c (mc.ends F_spec_l19Round ?_)
 simp+contextual(maxSteps:=1000000)(disch:=omega)only[↓Sd,↓So,↓Sk,↓den,↓denA,Sa,Sb,Sc,Se,O1.d,O2.d,O3.d,cmI,arI,envOf,putN,↓reduceIte,Nat.reduceLT,Nat.reduceSub,Nat.reduceAdd,Int.reduceAdd,Int.reduceEq,Int.reduceLT,Int.reduceLE,arr_pos,arr_neg,tr_spec_l19Round,C_spec_FirstState s hs h,C_spec_l4Number s _ h.1.2 h.2.2.1 hfi,hm,h0]
 refine mc.lp_inv (fun K us=>∃(j:Nat) (g:Bool),us=[⟨L (L I),steps s⟩,⟨L I,upTo q (szn s.1)⟩,⟨B,g⟩,⟨L V3,s.1⟩,⟨L TR,s.2⟩,⟨L I,upTo (rnd s q m j) (szn s.1)⟩]∧(∀i,i<j→¬hit s q (rnd s q m i))∧(g=false→∃j',j=j'+1∧∀k,k<szn s.1→rnd s q m (j'+1) k=rnd s q m j' k)∧K=(if g=true then szn s.1+1 - (upTo (rnd s q m j) (szn s.1)).length else 0)) _ _ ⟨0,true,rfl,fun i hi=>absurd hi (Nat.not_lt_zero _),(fun h=>nomatch h),rfl⟩ ?_
 rintro K us ⟨j,g,rfl,hno,hst,rfl⟩
 cases g with
 | false =>
  obtain ⟨j',rfl,h2⟩:=hst rfl
  simp+contextual(maxSteps:=1000000)(disch:=omega)only[↓Sd,↓So,↓Sk,↓den,↓denA,Sa,Sb,Sc,Se,O1.d,O2.d,O3.d,cmI,arI,envOf,putN,↓reduceIte,Nat.reduceLT,Nat.reduceSub,Nat.reduceAdd,Int.reduceAdd,Int.reduceEq,Int.reduceLT,Int.reduceLE,arr_pos,arr_neg,]
  rw [dB_t (okR_stay h2 fun i hi=>hno i (by omega)),if_pos rfl,shn_stay h2]
  exact upTo_congr h2
 | true =>
  have hl1:=@upTo_len (rnd s q m j) (szn s.1)
  have hl2:=@upTo_len (rnd s q m (j+1)) (szn s.1)
  have hbh:upTo (fun k=>dB (behind (steps s) (rnd s q m j) (szn s.1) k)) (szn s.1)=bhd s (rnd s q m j):=rfl
  have hbl:(bhd s (rnd s q m j)).length≤szn s.1:=upTo_len
  have hse:∀Q:List AV→Prop,mc.C f_spec_SetEither [⟨L I,upTo (rnd s q m j) (szn s.1)⟩,⟨L I,upTo (arnd s q (bhd s (rnd s q m j))) (szn s.1)⟩] Q=Q [⟨L I,upTo (rnd s q m (j+1)) (szn s.1)⟩]:=fun Q=>by
   rw [C_spec_SetEither _ _ (upTo_lset (p:=rnd s q m j) (m:=400) (n:=szn s.1) (by omega)) (upTo_lset (p:=arnd s q (bhd s (rnd s q m j))) (m:=400) (n:=szn s.1) (by omega)),either_upTo (by omega:szn s.1≤400)]
   rfl
  have hsb:∀Q:List AV→Prop,mc.C f_spec_SetBoth [⟨L I,bhd s (rnd s q m j)⟩,⟨L I,upTo q (szn s.1)⟩] Q=Q [⟨L I,upTo (fun k=>dB ((k:Int)∈bhd s (rnd s q m j))&&dB ((k:Int)∈upTo q (szn s.1))) 400⟩]:=C_spec_SetBoth _ _ (upTo_lset (p:=fun k=>dB (behind (steps s) (rnd s q m j) (szn s.1) k)) (m:=400) (n:=szn s.1) (by omega)) (upTo_lset (p:=q) (m:=400) (n:=szn s.1) (by omega))
  have hit0:=@hit_iff s q (rnd s q m j) (szn s.1) rfl (by omega)
  generalize upTo (fun k=>dB ((k:Int)∈bhd s (rnd s q m j))&&dB ((k:Int)∈upTo q (szn s.1))) 400=U at hsb hit0
  simp+contextual(maxSteps:=1000000)(disch:=omega)only[↓Sd,↓So,↓Sk,↓den,↓denA,Sa,Sb,Sc,Se,O1.d,O2.d,O3.d,cmI,arI,envOf,putN,↓reduceIte,Nat.reduceLT,Nat.reduceSub,Nat.reduceAdd,Int.reduceAdd,Int.reduceEq,Int.reduceLT,Int.reduceLE,arr_pos,arr_neg,hTl,C_spec_l4Marks (upTo (rnd s q m j) (szn s.1)) (szn s.1) (by omega) (by omega) (lset_mem (upTo_lset (Nat.le_refl _))),upTo_marks,C_spec_l4Behind (steps s) (rnd s q m j) (szn s.1) (by omega) hTl ht.2,C_spec_l4List_tab _ (szn s.1) (by omega:szn s.1≤1048576),hbh,hsb]
  refine ⟨fun g=>?_,fun g=>?_⟩
  ·have hh:=hit0.1 g
   rw [dB_f fun g=>g j hh];simp
  ·have hh:¬hit s q (rnd s q m j):=fun h=>g (hit0.2 h)
   simp+contextual(maxSteps:=1000000)(disch:=omega)only[↓Sd,↓So,↓Sk,↓den,↓denA,Sa,Sb,Sc,Se,O1.d,O2.d,O3.d,cmI,arI,envOf,putN,↓reduceIte,Nat.reduceLT,Nat.reduceSub,Nat.reduceAdd,Int.reduceAdd,Int.reduceEq,Int.reduceLT,Int.reduceLE,arr_pos,arr_neg,C_spec_l19Around s (bhd s (rnd s q m j)) q hs h (by omega) bhd_in,hse]
   have hmo:=@upTo_mono (rnd s q m j) (rnd s q m (j+1)) (szn s.1) fun k _ hk=>rnd_up (by omega) hk
   refine ⟨_,?_,j+1,_,⟨rfl,rfl⟩,?_,?_,rfl⟩
   ·split
    ·rename_i g9
     have:=of_decide_eq_true g9
     omega
    ·omega
   ·intro i hi
    rcases Nat.lt_succ_iff_lt_or_eq.1 hi with hi | rfl
    ·exact hno i hi
    ·exact hh
   ·intro hg
    rw [decide_eq_false_iff_not] at hg
    refine ⟨j,rfl,fun k hk=>?_⟩
    by_cases g2:rnd s q m j k=true
    ·rw [g2];exact rnd_up (by omega) g2
    ·rw [Bool.eq_false_iff.2 g2]
     exact Bool.eq_false_iff.2 fun g3=>g2 (hmo.2 (by omega) k hk g3)
theorem C_spec_l17Way (s:Sy) (b D:Nat) (ch:Nat→Nat) (hs:FewSy s) (hv:valid s) (hc:Chain (steps s) (dS s) (szn s.1) b D ch) (Q:List AV→Prop):mc.C f_spec_l17Way [⟨L V3,s.1⟩,⟨L TR,s.2⟩,⟨L I,tab (fun i=>((ch i:Nat):Int)) (D+1)⟩] Q=Q [⟨L (L I),tab (wst s ch) (D+1)⟩,⟨L I,rules s (wst s ch) D⟩]:=by
 have hz:=szn_eq hv
 have hfew:=hc.few
 have hl:(tab (fun i=>((ch i:Nat):Int)) (D+1)).length=D+1:=tab_len
 refine Mc.Ends.c (mc.ends F_spec_l17Way ?_)
 simp+contextual(maxSteps:=1000000)(disch:=omega)only[↓Sd,↓So,↓Sk,↓den,↓denA,Sa,Sb,Sc,Se,O1.d,O2.d,O3.d,cmI,arI,envOf,putN,↓reduceIte,Nat.reduceLT,Nat.reduceSub,Nat.reduceAdd,Int.reduceAdd,Int.reduceEq,Int.reduceLT,Int.reduceLE,arr_pos,arr_neg,tr_spec_l17Way]
 refine mc.lp_for (List (List Int)) (fun i o=>[⟨L I,tab (fun i=>((ch i:Nat):Int)) (D+1)⟩,⟨I,(i:Int)⟩,⟨L V3,s.1⟩,⟨L TR,s.2⟩,⟨L (L I),o⟩]) (fun i o=>o=tab (wst s ch) i) (D+1) 0 [] _ rfl (Nat.zero_le _) rfl ?_ ?_
 ·rintro i o hi rfl
  have h3:=hc.2.2 i (by omega)
  have h4:(tab (wst s ch) i).length=i:=tab_len
  simp+contextual(maxSteps:=1000000)(disch:=omega)only[↓Sd,↓So,↓Sk,↓den,↓denA,Sa,Sb,Sc,Se,O1.d,O2.d,O3.d,cmI,arI,envOf,putN,↓reduceIte,Nat.reduceLT,Nat.reduceSub,Nat.reduceAdd,Int.reduceAdd,Int.reduceEq,Int.reduceLT,Int.reduceLE,arr_pos,arr_neg,hl,tab_get hi,C_spec_l4State s _ hs hv (by omega:(0:Int)≤((ch i:Nat):Int)∧((ch i:Nat):Int)≤3200000)]
  exact tab_next
 ·rintro o rfl
  simp+contextual(maxSteps:=1000000)(disch:=omega)only[↓Sd,↓So,↓Sk,↓den,↓denA,Sa,Sb,Sc,Se,O1.d,O2.d,O3.d,cmI,arI,envOf,putN,↓reduceIte,Nat.reduceLT,Nat.reduceSub,Nat.reduceAdd,Int.reduceAdd,Int.reduceEq,Int.reduceLT,Int.reduceLE,arr_pos,arr_neg,hl,C_spec_TraceOf s D (wst s ch) hs hv (hc.run hv)]
end Go.Proofs.YtdcdnfcmllfmlaaGreat
