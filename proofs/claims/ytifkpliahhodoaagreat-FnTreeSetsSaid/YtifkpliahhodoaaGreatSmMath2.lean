/- What the trees come to: plain mathematics; no condition. -/
import Derived.Test.YtifkpliahhodoaaGreatSmMath1
namespace Go.Proofs.YtifkpliahhodoaaGreat
open Go Go.Sm Go.Sm.Q
set_option linter.unusedSimpArgs false
set_option linter.unusedVariables false
theorem D_l2Rules (b:List Int) (p:Int) (vs:List Vr) (many:Nat) (hb:Rdy b) (hp:0≤p∧p≤600000000) (hv1:1≤vs.length) (hv:vs.length≤3) (hm:many≤9) {Q:List AV→Prop} (h:∀(l:List Ru) (p':Int),p≤p'∧p'≤p+20000→l.length≤many→(∀r∈l,SmR5 r)→Q [⟨L TR,l⟩,⟨RD,(b,p')⟩]):mc.C f_spec_l2Rules [⟨RD,(b,p)⟩,⟨L V3,vs⟩,⟨I,(many:Int)⟩] Q:=by
 refine mc.c_of F_spec_l2Rules ?_
 simp+contextual(maxSteps:=1000000)(disch:=omega)only[↓Sd,↓So,↓Sk,↓den,↓denA,Sa,Sb,Sc,Se,O1.d,O2.d,O3.d,cmI,arI,envOf,putN,↓reduceIte,Nat.reduceLT,Nat.reduceSub,Nat.reduceAdd,Int.reduceAdd,Int.reduceEq,Int.reduceLT,Int.reduceLE,arr_pos,arr_neg,tr_spec_l2Rules]
 refine mc.lp_for (Int×List Ru) (fun i s=>[⟨L V3,vs⟩,⟨I,(many:Int)⟩,⟨I,(i:Int)⟩,⟨L U,b⟩,⟨I,s.1⟩,⟨L TR,s.2⟩]) (fun i s=>p≤s.1∧s.1≤p+2000 * i∧s.2.length=i∧∀r∈s.2,SmR5 r) many 0 (p,[]) _ rfl (Nat.zero_le _) ⟨by simp,by simp,rfl,by simp⟩ ?_ ?_
 ·rintro i ⟨p1,l⟩ hi ⟨a1,a2,a3,a4⟩
  simp only at a1 a2 a3 a4
  simp+contextual(maxSteps:=1000000)(disch:=omega)only[↓Sd,↓So,↓Sk,↓den,↓denA,Sa,Sb,Sc,Se,O1.d,O2.d,O3.d,cmI,arI,envOf,putN,↓reduceIte,Nat.reduceLT,Nat.reduceSub,Nat.reduceAdd,Int.reduceAdd,Int.reduceEq,Int.reduceLT,Int.reduceLE,arr_pos,arr_neg,]
  refine D_l2When _ _ _ hb (by omega) hv1 (by omega) fun w p2 hp2 hw=>?_
  simp+contextual(maxSteps:=1000000)(disch:=omega)only[↓Sd,↓So,↓Sk,↓den,↓denA,Sa,Sb,Sc,Se,O1.d,O2.d,O3.d,cmI,arI,envOf,putN,↓reduceIte,Nat.reduceLT,Nat.reduceSub,Nat.reduceAdd,Int.reduceAdd,Int.reduceEq,Int.reduceLT,Int.reduceLE,arr_pos,arr_neg,]
  refine mc.lp_for (Int×List Int×List (List Tm)) (fun j s=>[⟨L V3,vs⟩,⟨I,(many:Int)⟩,⟨I,(i:Int)⟩,⟨I,(j:Int)⟩,⟨L U,b⟩,⟨I,s.1⟩,⟨L TR,l⟩,⟨L T4,w⟩,⟨L I,s.2.1⟩,⟨L (L T4),s.2.2⟩]) (fun j s=>p2≤s.1∧s.1≤p2+510 * j∧s.2.1.length≤j∧s.2.2.length≤j∧∀x∈s.2.2,x.length≤16) vs.length 0 (p2,[],[]) _ rfl (Nat.zero_le _) ⟨by simp,by simp,by simp,by simp,by simp⟩ ?_ ?_
  ·rintro j ⟨p3,ss,ts⟩ hj ⟨c1,c2,c3,c4,c5⟩
   simp only at c1 c2 c3 c4 c5
   have app:∀(x:List Tm),x.length≤16→∀y∈ts++[x],y.length≤16:=fun x hx y hy=>(List.mem_append.1 hy).elim (c5 y) fun hy=>by rw [List.mem_singleton.1 hy];exact hx
   have l1:∀x,(ss++[x]).length=ss.length+1:=fun x=>by simp
   have l2:∀x,(ts++[x]).length=ts.length+1:=fun x=>by simp
   simp+contextual(maxSteps:=1000000)(disch:=omega)only[↓Sd,↓So,↓Sk,↓den,↓denA,Sa,Sb,Sc,Se,O1.d,O2.d,O3.d,cmI,arI,envOf,putN,↓reduceIte,Nat.reduceLT,Nat.reduceSub,Nat.reduceAdd,Int.reduceAdd,Int.reduceEq,Int.reduceLT,Int.reduceLE,arr_pos,arr_neg,↓wpJoin,]
   refine D_pick1 _ _ _ hb (by omega) (by omega) fun a a0 a1=>?_;simp+contextual(maxSteps:=1000000)(disch:=omega)only[↓Sd,↓So,↓Sk,↓den,↓denA,Sa,Sb,Sc,Se,O1.d,O2.d,O3.d,cmI,arI,envOf,putN,↓reduceIte,Nat.reduceLT,Nat.reduceSub,Nat.reduceAdd,Int.reduceAdd,Int.reduceEq,Int.reduceLT,Int.reduceLE,arr_pos,arr_neg,]
   refine ⟨fun _=>?_,fun _=>⟨fun _=>⟨fun _=>?_,fun _=>?_⟩,fun _=>?_⟩⟩
   ·refine D_l2Value _ _ _ _ j (by omega) hb (by omega) (by omega) hj fun x p4 hp4 hx=>?_
    simp+contextual(maxSteps:=1000000)(disch:=omega)only[↓Sd,↓So,↓Sk,↓den,↓denA,Sa,Sb,Sc,Se,O1.d,O2.d,O3.d,cmI,arI,envOf,putN,↓reduceIte,Nat.reduceLT,Nat.reduceSub,Nat.reduceAdd,Int.reduceAdd,Int.reduceEq,Int.reduceLT,Int.reduceLE,arr_pos,arr_neg,↓wpJoin,]
    exact ⟨(_,_,_),⟨rfl,rfl,rfl⟩,by dsimp only;omega,by dsimp only;omega,by dsimp only;rw [l1];omega,by dsimp only;rw [l2];omega,app x hx⟩
   ·refine D_pick1 _ _ _ hb (by omega) (by omega) fun c c0 c1=>?_;simp+contextual(maxSteps:=1000000)(disch:=omega)only[↓Sd,↓So,↓Sk,↓den,↓denA,Sa,Sb,Sc,Se,O1.d,O2.d,O3.d,cmI,arI,envOf,putN,↓reduceIte,Nat.reduceLT,Nat.reduceSub,Nat.reduceAdd,Int.reduceAdd,Int.reduceEq,Int.reduceLT,Int.reduceLE,arr_pos,arr_neg,]
    refine ⟨fun _=>?_,fun _=>?_⟩
    ·refine D_l2Value _ _ _ _ j (by omega) hb (by omega) (by omega) hj fun x p4 hp4 hx=>?_
     simp+contextual(maxSteps:=1000000)(disch:=omega)only[↓Sd,↓So,↓Sk,↓den,↓denA,Sa,Sb,Sc,Se,O1.d,O2.d,O3.d,cmI,arI,envOf,putN,↓reduceIte,Nat.reduceLT,Nat.reduceSub,Nat.reduceAdd,Int.reduceAdd,Int.reduceEq,Int.reduceLT,Int.reduceLE,arr_pos,arr_neg,↓wpJoin,]
     exact ⟨(_,_,_),⟨rfl,rfl,rfl⟩,by dsimp only;omega,by dsimp only;omega,by dsimp only;rw [l1];omega,by dsimp only;rw [l2];omega,app x hx⟩
    ·exact ⟨(_,_,_),⟨rfl,rfl,rfl⟩,by dsimp only;omega,by dsimp only;omega,by dsimp only;omega,by dsimp only;omega,c5⟩
   ·exact ⟨(_,_,_),⟨rfl,rfl,rfl⟩,by dsimp only;omega,by dsimp only;omega,by dsimp only;omega,by dsimp only;omega,c5⟩
   ·exact ⟨(_,_,_),⟨rfl,rfl,rfl⟩,by dsimp only;omega,by dsimp only;omega,by dsimp only;omega,by dsimp only;omega,c5⟩
  ·rintro ⟨p3,ss,ts⟩ ⟨c1,c2,c3,c4,c5⟩
   simp only at c1 c2 c3 c4 c5
   simp+contextual(maxSteps:=1000000)(disch:=omega)only[↓Sd,↓So,↓Sk,↓den,↓denA,Sa,Sb,Sc,Se,O1.d,O2.d,O3.d,cmI,arI,envOf,putN,↓reduceIte,Nat.reduceLT,Nat.reduceSub,Nat.reduceAdd,Int.reduceAdd,Int.reduceEq,Int.reduceLT,Int.reduceLE,arr_pos,arr_neg,]
   refine ⟨(_,_),⟨rfl,rfl⟩,by dsimp only;omega,by dsimp only;omega,by dsimp only;simp [a3],fun r hr=>?_⟩
   rcases List.mem_append.1 hr with hr | hr
   ·exact a4 r hr
   ·rw [List.mem_singleton.1 hr]
    exact ⟨by dsimp only;omega,by dsimp only;omega,by dsimp only;omega,fun x hx=>by have:=c5 x hx;omega⟩
 ·rintro ⟨p1,l⟩ ⟨a1,a2,a3,a4⟩
  simp only at a1 a2 a3 a4
  simp+contextual(maxSteps:=1000000)(disch:=omega)only[↓Sd,↓So,↓Sk,↓den,↓denA,Sa,Sb,Sc,Se,O1.d,O2.d,O3.d,cmI,arI,envOf,putN,↓reduceIte,Nat.reduceLT,Nat.reduceSub,Nat.reduceAdd,Int.reduceAdd,Int.reduceEq,Int.reduceLT,Int.reduceLE,arr_pos,arr_neg,]
  exact h _ _ (by omega) (by omega) a4
theorem D_l2System (b:List Int) (p most:Int) (hb:Rdy b) (hp:0≤p∧p≤500000000) {Q:List AV→Prop} (h:∀(s:Sy) (p':Int),p≤p'∧p'≤p+30000→SmSy s→1≤s.1.length→s.2.length≤4→(∀r∈s.2,SmR5 r)→Q [⟨L V3,s.1⟩,⟨L TR,s.2⟩,⟨RD,(b,p')⟩]):mc.C f_spec_l2System [⟨RD,(b,p)⟩,⟨I,most⟩] Q:=by
 refine mc.c_of F_spec_l2System ?_
 simp+contextual(maxSteps:=1000000)(disch:=omega)only[↓Sd,↓So,↓Sk,↓den,↓denA,Sa,Sb,Sc,Se,O1.d,O2.d,O3.d,cmI,arI,envOf,putN,↓reduceIte,Nat.reduceLT,Nat.reduceSub,Nat.reduceAdd,Int.reduceAdd,Int.reduceEq,Int.reduceLT,Int.reduceLE,arr_pos,arr_neg,tr_spec_l2System]
 refine D_pick1 _ _ _ hb (by omega) (by omega) fun n n0 n1=>?_;simp+contextual(maxSteps:=1000000)(disch:=omega)only[↓Sd,↓So,↓Sk,↓den,↓denA,Sa,Sb,Sc,Se,O1.d,O2.d,O3.d,cmI,arI,envOf,putN,↓reduceIte,Nat.reduceLT,Nat.reduceSub,Nat.reduceAdd,Int.reduceAdd,Int.reduceEq,Int.reduceLT,Int.reduceLE,arr_pos,arr_neg,]
 obtain ⟨N,hN⟩:∃N:Nat,n=N:=⟨n.toNat,by omega⟩
 subst hN
 refine mc.lp_inv (fun k us=>∃(p1 m:Int) (l:List Vr),us=[⟨I,most⟩,⟨I,m⟩,⟨I,(k:Int)⟩,⟨L U,b⟩,⟨I,p1⟩,⟨L V3,l⟩]∧l.length+k≤1+N∧p≤p1∧p1+3 * k≤p+1+3 * (1+N)) (1+N) _ ⟨p+1,1,[],by simp,by simp,by omega,by omega⟩ ?_
 rintro k us ⟨p1,m,l,rfl,i1,i2,i3⟩
 cases k with
 | zero =>
  simp+contextual(maxSteps:=1000000)(disch:=omega)only[↓Sd,↓So,↓Sk,↓den,↓denA,Sa,Sb,Sc,Se,O1.d,O2.d,O3.d,cmI,arI,envOf,putN,↓reduceIte,Nat.reduceLT,Nat.reduceSub,Nat.reduceAdd,Int.reduceAdd,Int.reduceEq,Int.reduceLT,Int.reduceLE,arr_pos,arr_neg,]
  refine mc.wp_join (fun us=>∃(l:List Vr),us=[⟨L U,b⟩,⟨I,p1⟩,⟨L V3,l⟩]∧1≤l.length∧l.length≤3) ?_ ?_
  ·simp+contextual(maxSteps:=1000000)(disch:=omega)only[↓Sd,↓So,↓Sk,↓den,↓denA,Sa,Sb,Sc,Se,O1.d,O2.d,O3.d,cmI,arI,envOf,putN,↓reduceIte,Nat.reduceLT,Nat.reduceSub,Nat.reduceAdd,Int.reduceAdd,Int.reduceEq,Int.reduceLT,Int.reduceLE,arr_pos,arr_neg,]
   exact ⟨fun _=>by omega,fun _=>by omega⟩
  ·rintro us ⟨l,rfl,a1,a2⟩
   simp+contextual(maxSteps:=1000000)(disch:=omega)only[↓Sd,↓So,↓Sk,↓den,↓denA,Sa,Sb,Sc,Se,O1.d,O2.d,O3.d,cmI,arI,envOf,putN,↓reduceIte,Nat.reduceLT,Nat.reduceSub,Nat.reduceAdd,Int.reduceAdd,Int.reduceEq,Int.reduceLT,Int.reduceLE,arr_pos,arr_neg,]
   refine D_num _ _ _ hb (by omega) (by simp) (by simp) fun x x0=>?_;simp+contextual(maxSteps:=1000000)(disch:=omega)only[↓Sd,↓So,↓Sk,↓den,↓denA,Sa,Sb,Sc,Se,O1.d,O2.d,O3.d,cmI,arI,envOf,putN,↓reduceIte,Nat.reduceLT,Nat.reduceSub,Nat.reduceAdd,Int.reduceAdd,Int.reduceEq,Int.reduceLT,Int.reduceLE,arr_pos,arr_neg,]
   have hx:0≤x∧x≤4:=by simp only [List.mem_append,List.mem_singleton] at x0;omega
   obtain ⟨y,hy⟩:∃y:Nat,x=y:=⟨x.toNat,by omega⟩
   subst hy
   refine D_l2Rules _ _ _ _ hb (by omega) a1 a2 (by omega) fun rs p2 hp2 h1 h2=>?_
   simp+contextual(maxSteps:=1000000)(disch:=omega)only[↓Sd,↓So,↓Sk,↓den,↓denA,Sa,Sb,Sc,Se,O1.d,O2.d,O3.d,cmI,arI,envOf,putN,↓reduceIte,Nat.reduceLT,Nat.reduceSub,Nat.reduceAdd,Int.reduceAdd,Int.reduceEq,Int.reduceLT,Int.reduceLE,arr_pos,arr_neg,↓wpJoin,]
   exact h (l,rs) _ (by omega) ⟨a2,by dsimp only;omega,fun r hr=>(h2 r hr).sm⟩ a1 (by dsimp only;omega) h2
 | succ k =>
  simp+contextual(maxSteps:=1000000)(disch:=omega)only[↓Sd,↓So,↓Sk,↓den,↓denA,Sa,Sb,Sc,Se,O1.d,O2.d,O3.d,cmI,arI,envOf,putN,↓reduceIte,Nat.reduceLT,Nat.reduceSub,Nat.reduceAdd,Int.reduceAdd,Int.reduceEq,Int.reduceLT,Int.reduceLE,arr_pos,arr_neg,]
  refine mc.wp_join (fun us=>∃(p2 m:Int) (l:List Vr),us=[⟨I,most⟩,⟨I,m⟩,⟨I,(k:Int)+1⟩,⟨L U,b⟩,⟨I,p2⟩,⟨L V3,l⟩]∧l.length+k≤1+N∧p≤p2∧p2+3 * k≤p+1+3 * (1+N)) ?_ ?_
  ·simp+contextual(maxSteps:=1000000)(disch:=omega)only[↓Sd,↓So,↓Sk,↓den,↓denA,Sa,Sb,Sc,Se,O1.d,O2.d,O3.d,cmI,arI,envOf,putN,↓reduceIte,Nat.reduceLT,Nat.reduceSub,Nat.reduceAdd,Int.reduceAdd,Int.reduceEq,Int.reduceLT,Int.reduceLE,arr_pos,arr_neg,]
   refine D_num _ _ _ hb (by omega) (by simp) (by simp) fun x x0=>?_;simp+contextual(maxSteps:=1000000)(disch:=omega)only[↓Sd,↓So,↓Sk,↓den,↓denA,Sa,Sb,Sc,Se,O1.d,O2.d,O3.d,cmI,arI,envOf,putN,↓reduceIte,Nat.reduceLT,Nat.reduceSub,Nat.reduceAdd,Int.reduceAdd,Int.reduceEq,Int.reduceLT,Int.reduceLE,arr_pos,arr_neg,]
   have hx:2≤x∧x≤5:=by simp only [List.mem_append,List.mem_singleton] at x0;omega
   refine ⟨fun _=>?_,fun _=>⟨_,_,_,⟨rfl,rfl,rfl⟩,by omega,by omega,by omega⟩⟩
   refine D_num _ _ _ hb (by omega) (by simp) (by simp) fun lo lo0=>?_;simp+contextual(maxSteps:=1000000)(disch:=omega)only[↓Sd,↓So,↓Sk,↓den,↓denA,Sa,Sb,Sc,Se,O1.d,O2.d,O3.d,cmI,arI,envOf,putN,↓reduceIte,Nat.reduceLT,Nat.reduceSub,Nat.reduceAdd,Int.reduceAdd,Int.reduceEq,Int.reduceLT,Int.reduceLE,arr_pos,arr_neg,]
   refine D_pick1 _ _ _ hb (by omega) (by omega) fun d d0 d1=>?_;simp+contextual(maxSteps:=1000000)(disch:=omega)only[↓Sd,↓So,↓Sk,↓den,↓denA,Sa,Sb,Sc,Se,O1.d,O2.d,O3.d,cmI,arI,envOf,putN,↓reduceIte,Nat.reduceLT,Nat.reduceSub,Nat.reduceAdd,Int.reduceAdd,Int.reduceEq,Int.reduceLT,Int.reduceLE,arr_pos,arr_neg,]
   simp+contextual(maxSteps:=1000000)(disch:=omega)only[↓Sd,↓So,↓Sk,↓den,↓denA,Sa,Sb,Sc,Se,O1.d,O2.d,O3.d,cmI,arI,envOf,putN,↓reduceIte,Nat.reduceLT,Nat.reduceSub,Nat.reduceAdd,Int.reduceAdd,Int.reduceEq,Int.reduceLT,Int.reduceLE,arr_pos,arr_neg,↓wpJoin,]
   exact ⟨_,_,_,⟨rfl,rfl,rfl⟩,by simp only [List.length_append,List.length_singleton];omega,by omega,by omega⟩
  ·rintro us ⟨p2,m,l,rfl,a1,a2,a3⟩
   simp+contextual(maxSteps:=1000000)(disch:=omega)only[↓Sd,↓So,↓Sk,↓den,↓denA,Sa,Sb,Sc,Se,O1.d,O2.d,O3.d,cmI,arI,envOf,putN,↓reduceIte,Nat.reduceLT,Nat.reduceSub,Nat.reduceAdd,Int.reduceAdd,Int.reduceEq,Int.reduceLT,Int.reduceLE,arr_pos,arr_neg,]
   exact ⟨k,by omega,p2,m,l,⟨rfl,rfl,rfl,rfl⟩,a1,a2,a3⟩
theorem D_l2Any (b:List Int) (p most:Int) (hb:Rdy b) (hp:0≤p∧p≤400000000) {Q:List AV→Prop} (h:∀(s:Sy) (p':Int),p≤p'∧p'≤p+31000→SmSy s→Q [⟨L V3,s.1⟩,⟨L TR,s.2⟩,⟨RD,(b,p')⟩]):mc.C f_spec_l2Any [⟨RD,(b,p)⟩,⟨I,most⟩] Q:=by
 refine mc.c_of F_spec_l2Any ?_
 simp+contextual(maxSteps:=1000000)(disch:=omega)only[↓Sd,↓So,↓Sk,↓den,↓denA,Sa,Sb,Sc,Se,O1.d,O2.d,O3.d,cmI,arI,envOf,putN,↓reduceIte,Nat.reduceLT,Nat.reduceSub,Nat.reduceAdd,Int.reduceAdd,Int.reduceEq,Int.reduceLT,Int.reduceLE,arr_pos,arr_neg,tr_spec_l2Any]
 refine D_l2System _ _ _ hb (by omega) fun s p1 hp1 hs h1 h2 h5=>?_
 simp+contextual(maxSteps:=1000000)(disch:=omega)only[↓Sd,↓So,↓Sk,↓den,↓denA,Sa,Sb,Sc,Se,O1.d,O2.d,O3.d,cmI,arI,envOf,putN,↓reduceIte,Nat.reduceLT,Nat.reduceSub,Nat.reduceAdd,Int.reduceAdd,Int.reduceEq,Int.reduceLT,Int.reduceLE,arr_pos,arr_neg,↓wpJoin,C_spec_l2Const]
 refine D_pick1 _ _ _ hb (by omega) (by omega) fun a a0 a1=>?_;simp+contextual(maxSteps:=1000000)(disch:=omega)only[↓Sd,↓So,↓Sk,↓den,↓denA,Sa,Sb,Sc,Se,O1.d,O2.d,O3.d,cmI,arI,envOf,putN,↓reduceIte,Nat.reduceLT,Nat.reduceSub,Nat.reduceAdd,Int.reduceAdd,Int.reduceEq,Int.reduceLT,Int.reduceLE,arr_pos,arr_neg,]
 refine ⟨fun _=>?_,fun _=>h _ _ (by omega) hs⟩
 have hV:∀(l:List Vr) (p':Int),l.length≤3→p≤p'∧p'≤p+31000→Q [⟨L V3,l⟩,⟨L TR,s.2⟩,⟨RD,(b,p')⟩]:=fun l p' hl hp'=>h (l,s.2) p' hp' ⟨hl,hs.2.1,hs.2.2⟩
 have hR:∀(r:Ru) (p':Int),SmRu r→p≤p'∧p'≤p+31000→Q [⟨L V3,s.1⟩,⟨L TR,s.2.set 0 r⟩,⟨RD,(b,p')⟩]:=fun r p' hr hp'=>h (s.1,s.2.set 0 r) p' hp' ⟨hs.1,by rw [List.length_set];exact hs.2.1,fun x hx=>(List.mem_or_eq_of_mem_set hx).elim (hs.2.2 x) fun e=>by rw [e];exact hr⟩
 have hS1:(s.1.set 0 (s.1.getD 0 (0,0,0))).length≤3:=by rw [List.length_set];exact hs.1
 have hsl:∀x:Vr,(s.1.set 0 x).length≤3:=fun x=>by rw [List.length_set];exact hs.1
 have hb0:SmR5 (s.2.getD 0 ([],[],[])):=by
  by_cases g:0<s.2.length
  ·exact h5 _ (getD_mem g)
  ·rw [List.getD_eq_getElem?_getD,List.getElem?_eq_none (by omega)];exact ⟨by simp,by simp,by simp,by simp⟩
 refine D_pick1 _ _ _ hb (by omega) (by omega) fun c c0 c1=>?_;simp+contextual(maxSteps:=1000000)(disch:=omega)only[↓Sd,↓So,↓Sk,↓den,↓denA,Sa,Sb,Sc,Se,O1.d,O2.d,O3.d,cmI,arI,envOf,putN,↓reduceIte,Nat.reduceLT,Nat.reduceSub,Nat.reduceAdd,Int.reduceAdd,Int.reduceEq,Int.reduceLT,Int.reduceLE,arr_pos,arr_neg,]
 have q1:=hb0.2.1
 have q2:=hb0.2.2.1
 simp+contextual(maxSteps:=1000000)(disch:=omega)only[↓Sd,↓So,↓Sk,↓den,↓denA,Sa,Sb,Sc,Se,O1.d,O2.d,O3.d,cmI,arI,envOf,putN,↓reduceIte,Nat.reduceLT,Nat.reduceSub,Nat.reduceAdd,Int.reduceAdd,Int.reduceEq,Int.reduceLT,Int.reduceLE,arr_pos,arr_neg,↓wpJoin,C_spec_l2Const]
 repeat' first | apply And.intro | intro _
 all_goals first
  | exact hV _ _ (hsl _) (by omega)
  | exact hV _ _ (by simp) (by omega)
  | exact hV _ _ hs.1 (by omega)
  | exact hR _ _ ⟨by simp,hb0.sm.2.1,hb0.sm.2.2.1,hb0.sm.2.2.2⟩ (by omega)
  | exact hR _ _ ⟨hb0.sm.1,by simp only [List.length_append,List.length_singleton];omega,hb0.sm.2.2.1,hb0.sm.2.2.2⟩ (by omega)
  | exact hR _ _ ⟨hb0.sm.1,hb0.sm.2.1,by simp only [List.length_append,List.length_singleton];omega,fun x hx=>(List.mem_append.1 hx).elim (hb0.sm.2.2.2 x) fun hx=>by rw [List.mem_singleton.1 hx];simp⟩ (by omega)
  | skip
 refine D_num _ _ _ hb (by omega) (by simp) (by simp) fun x x0=>?_;simp+contextual(maxSteps:=1000000)(disch:=omega)only[↓Sd,↓So,↓Sk,↓den,↓denA,Sa,Sb,Sc,Se,O1.d,O2.d,O3.d,cmI,arI,envOf,putN,↓reduceIte,Nat.reduceLT,Nat.reduceSub,Nat.reduceAdd,Int.reduceAdd,Int.reduceEq,Int.reduceLT,Int.reduceLE,arr_pos,arr_neg,]
 simp+contextual(maxSteps:=1000000)(disch:=omega)only[↓Sd,↓So,↓Sk,↓den,↓denA,Sa,Sb,Sc,Se,O1.d,O2.d,O3.d,cmI,arI,envOf,putN,↓reduceIte,Nat.reduceLT,Nat.reduceSub,Nat.reduceAdd,Int.reduceAdd,Int.reduceEq,Int.reduceLT,Int.reduceLE,arr_pos,arr_neg,↓wpJoin,]
 exact hV _ _ (hsl _) (by omega)
theorem C_laws_wcInts (a b:List Int) (ha:a.length≤1048576) (hb:b.length≤1048576) (Q:List AV→Prop):mc.C f_laws_wcInts [⟨L I,a⟩,⟨L I,b⟩] Q=Q [⟨B,decide (a=b)⟩]:=by
 refine Mc.Ends.c (mc.ends F_laws_wcInts ?_)
 generalize hK:decide (a=b)=K
 simp+contextual(maxSteps:=1000000)(disch:=omega)only[↓Sd,↓So,↓Sk,↓den,↓denA,Sa,Sb,Sc,Se,O1.d,O2.d,O3.d,cmI,arI,envOf,putN,↓reduceIte,Nat.reduceLT,Nat.reduceSub,Nat.reduceAdd,Int.reduceAdd,Int.reduceEq,Int.reduceLT,Int.reduceLE,arr_pos,arr_neg,tr_laws_wcInts]
 refine ⟨fun g=>?_,fun g=>?_⟩
 ·rw [←hK,decide_eq_false];intro h;rw [h] at g;exact absurd rfl g
 ·have hl:a.length=b.length:=by omega
  refine lp_all (fun i=>[⟨L I,b⟩,⟨L I,a⟩,⟨I,(a.length:Int)⟩,⟨I,(i:Int)⟩]) (fun i=>a.getD i 0=b.getD i 0) a.length _ ?_ ?_ ?_
  ·rw [hl];rfl
  ·intro i hi
   simp+contextual(maxSteps:=1000000)(disch:=omega)only[↓Sd,↓So,↓Sk,↓den,↓denA,Sa,Sb,Sc,Se,O1.d,O2.d,O3.d,cmI,arI,envOf,putN,↓reduceIte,Nat.reduceLT,Nat.reduceSub,Nat.reduceAdd,Int.reduceAdd,Int.reduceEq,Int.reduceLT,Int.reduceLE,arr_pos,arr_neg,]
   intro h
   rw [←hK,decide_eq_false]
   intro h2;rw [h2] at h;exact h rfl
  ·intro h
   simp+contextual(maxSteps:=1000000)(disch:=omega)only[↓Sd,↓So,↓Sk,↓den,↓denA,Sa,Sb,Sc,Se,O1.d,O2.d,O3.d,cmI,arI,envOf,putN,↓reduceIte,Nat.reduceLT,Nat.reduceSub,Nat.reduceAdd,Int.reduceAdd,Int.reduceEq,Int.reduceLT,Int.reduceLE,arr_pos,arr_neg,]
   rw [←hK,decide_eq_true]
   refine List.ext_getElem hl fun i h1 h2=>?_
   have:=h i h1
   rwa [getD_lt h1,getD_lt h2] at this
theorem D_l1Any (b:List Int) (p vars:Int) (hb:Rdy b) (hp:0≤p∧p≤700000000) (hv:0≤vars∧vars≤5) {Q:List AV→Prop} (h:∀(l:List Tm) (p':Int),p≤p'∧p'≤p+500→1≤l.length→l.length≤16→Q [⟨L T4,l⟩,⟨RD,(b,p')⟩]):mc.C f_spec_l1Any [⟨RD,(b,p)⟩,⟨I,vars⟩] Q:=by
 refine mc.c_of F_spec_l1Any ?_
 simp+contextual(maxSteps:=1000000)(disch:=omega)only[↓Sd,↓So,↓Sk,↓den,↓denA,Sa,Sb,Sc,Se,O1.d,O2.d,O3.d,cmI,arI,envOf,putN,↓reduceIte,Nat.reduceLT,Nat.reduceSub,Nat.reduceAdd,Int.reduceAdd,Int.reduceEq,Int.reduceLT,Int.reduceLE,arr_pos,arr_neg,tr_spec_l1Any]
 refine D_pick1 _ _ _ hb (by omega) (by omega) fun k k0 k1=>?_;simp+contextual(maxSteps:=1000000)(disch:=omega)only[↓Sd,↓So,↓Sk,↓den,↓denA,Sa,Sb,Sc,Se,O1.d,O2.d,O3.d,cmI,arI,envOf,putN,↓reduceIte,Nat.reduceLT,Nat.reduceSub,Nat.reduceAdd,Int.reduceAdd,Int.reduceEq,Int.reduceLT,Int.reduceLE,arr_pos,arr_neg,]
 refine D_l1Terms _ _ _ _ _ hb (by omega) hv (by omega) fun l p2 h1 h2 h3=>?_
 simp+contextual(maxSteps:=1000000)(disch:=omega)only[↓Sd,↓So,↓Sk,↓den,↓denA,Sa,Sb,Sc,Se,O1.d,O2.d,O3.d,cmI,arI,envOf,putN,↓reduceIte,Nat.reduceLT,Nat.reduceSub,Nat.reduceAdd,Int.reduceAdd,Int.reduceEq,Int.reduceLT,Int.reduceLE,arr_pos,arr_neg,↓wpJoin,]
 refine D_pick1 _ _ _ hb (by omega) (by omega) fun a a0 a1=>?_;simp+contextual(maxSteps:=1000000)(disch:=omega)only[↓Sd,↓So,↓Sk,↓den,↓denA,Sa,Sb,Sc,Se,O1.d,O2.d,O3.d,cmI,arI,envOf,putN,↓reduceIte,Nat.reduceLT,Nat.reduceSub,Nat.reduceAdd,Int.reduceAdd,Int.reduceEq,Int.reduceLT,Int.reduceLE,arr_pos,arr_neg,]
 refine ⟨fun _=>?_,fun _=>h _ _ (by omega) h2 h3⟩
 refine D_pick1 _ _ _ hb (by omega) (by omega) fun i i0 i1=>?_;simp+contextual(maxSteps:=1000000)(disch:=omega)only[↓Sd,↓So,↓Sk,↓den,↓denA,Sa,Sb,Sc,Se,O1.d,O2.d,O3.d,cmI,arI,envOf,putN,↓reduceIte,Nat.reduceLT,Nat.reduceSub,Nat.reduceAdd,Int.reduceAdd,Int.reduceEq,Int.reduceLT,Int.reduceLE,arr_pos,arr_neg,]
 refine D_pick1 _ _ _ hb (by omega) (by omega) fun f f0 f1=>?_;simp+contextual(maxSteps:=1000000)(disch:=omega)only[↓Sd,↓So,↓Sk,↓den,↓denA,Sa,Sb,Sc,Se,O1.d,O2.d,O3.d,cmI,arI,envOf,putN,↓reduceIte,Nat.reduceLT,Nat.reduceSub,Nat.reduceAdd,Int.reduceAdd,Int.reduceEq,Int.reduceLT,Int.reduceLE,arr_pos,arr_neg,↓wpJoin,]
 have hset:∀(x:Tm),1≤(l.set i.toNat x).length∧(l.set i.toNat x).length≤16:=fun x=>by rw [List.length_set];exact ⟨h2,h3⟩
 refine ⟨fun _=>?_,fun _=>⟨fun _=>?_,fun _=>⟨fun _=>?_,fun _=>?_⟩⟩⟩
 ·refine D_num _ _ _ hb (by omega) (by simp) (by simp) fun x x0=>?_;simp+contextual(maxSteps:=1000000)(disch:=omega)only[↓Sd,↓So,↓Sk,↓den,↓denA,Sa,Sb,Sc,Se,O1.d,O2.d,O3.d,cmI,arI,envOf,putN,↓reduceIte,Nat.reduceLT,Nat.reduceSub,Nat.reduceAdd,Int.reduceAdd,Int.reduceEq,Int.reduceLT,Int.reduceLE,arr_pos,arr_neg,]
  exact h _ _ (by omega) (hset _).1 (hset _).2
 ·refine D_num _ _ _ hb (by omega) (by simp) (by simp) fun x x0=>?_;simp+contextual(maxSteps:=1000000)(disch:=omega)only[↓Sd,↓So,↓Sk,↓den,↓denA,Sa,Sb,Sc,Se,O1.d,O2.d,O3.d,cmI,arI,envOf,putN,↓reduceIte,Nat.reduceLT,Nat.reduceSub,Nat.reduceAdd,Int.reduceAdd,Int.reduceEq,Int.reduceLT,Int.reduceLE,arr_pos,arr_neg,]
  exact h _ _ (by omega) (hset _).1 (hset _).2
 ·refine D_num _ _ _ hb (by omega) (by simp) (by simp) fun x x0=>?_;simp+contextual(maxSteps:=1000000)(disch:=omega)only[↓Sd,↓So,↓Sk,↓den,↓denA,Sa,Sb,Sc,Se,O1.d,O2.d,O3.d,cmI,arI,envOf,putN,↓reduceIte,Nat.reduceLT,Nat.reduceSub,Nat.reduceAdd,Int.reduceAdd,Int.reduceEq,Int.reduceLT,Int.reduceLE,arr_pos,arr_neg,]
  exact h _ _ (by omega) (hset _).1 (hset _).2
 ·refine D_num _ _ _ hb (by omega) (by simp) (by simp) fun x x0=>?_;simp+contextual(maxSteps:=1000000)(disch:=omega)only[↓Sd,↓So,↓Sk,↓den,↓denA,Sa,Sb,Sc,Se,O1.d,O2.d,O3.d,cmI,arI,envOf,putN,↓reduceIte,Nat.reduceLT,Nat.reduceSub,Nat.reduceAdd,Int.reduceAdd,Int.reduceEq,Int.reduceLT,Int.reduceLE,arr_pos,arr_neg,]
  exact h _ _ (by omega) (hset _).1 (hset _).2
noncomputable def mix (f:Bool→Bool→Bool) (a b:List Int):List Int:=if lset a 400∧lset b 400 then upTo (fun k=>f (dB ((k:Int)∈a)) (dB ((k:Int)∈b))) 400 else []
theorem C_impl_SetWithout (a b:List Int) (ha:a.length≤1048576) (hb:b.length≤1048576) (Q:List AV→Prop):mc.C f_impl_SetWithout [⟨L I,a⟩,⟨L I,b⟩] Q=Q [⟨L I,mix (fun x y=>x&&!y) a b⟩]:=by
 refine Mc.Ends.c (mc.ends F_impl_SetWithout ?_)
 generalize hK:mix (fun x y=>x&&!y) a b=K
 obtain ⟨N,hN⟩:∃N:Nat,N=400:=⟨400,rfl⟩
 have hNi:(N:Int)=400:=by omega
 unfold mix at hK
 simp+contextual(maxSteps:=1000000)(disch:=omega)only[↓Sd,↓So,↓Sk,↓den,↓denA,Sa,Sb,Sc,Se,O1.d,O2.d,O3.d,cmI,arI,envOf,putN,↓reduceIte,Nat.reduceLT,Nat.reduceSub,Nat.reduceAdd,Int.reduceAdd,Int.reduceEq,Int.reduceLT,Int.reduceLE,arr_pos,arr_neg,tr_impl_SetWithout,C_impl_setOk a 400 (by omega) ha,C_impl_setOk b 400 (by omega) hb]
 refine ⟨fun h1=>?_,fun h1=>⟨fun h2=>?_,fun h2=>?_⟩⟩
 ·rw [←hK,if_neg fun h=>h1 h.1]
 ·rw [←hK,if_neg fun h=>h2 h.2]
 ·rw [if_pos ⟨h1,h2⟩] at hK
  simp+contextual(maxSteps:=1000000)(disch:=omega)only[↓Sd,↓So,↓Sk,↓den,↓denA,Sa,Sb,Sc,Se,O1.d,O2.d,O3.d,cmI,arI,envOf,putN,↓reduceIte,Nat.reduceLT,Nat.reduceSub,Nat.reduceAdd,Int.reduceAdd,Int.reduceEq,Int.reduceLT,Int.reduceLE,arr_pos,arr_neg,C_impl_marks_i a 400 N hNi.symm (by omega) ha (fun x hx=>by have:=lset_mem h1 x hx;omega),C_impl_marks_i b 400 N hNi.symm (by omega) hb (fun x hx=>by have:=lset_mem h2 x hx;omega)]
  have hr:List.replicate (Int.toNat 400) false=tab (fun k=>if k<0 then (dB ((k:Int)∈a)&&!dB ((k:Int)∈b)) else false) N:=by
   rw [show Int.toNat 400=N by omega,rep_tab]
   exact tab_congr fun k _=>by rw [if_neg (by omega)]
  rw [hr,tab_len]
  refine mc.lp_for (List Bool) (fun i o=>[⟨I,(N:Int)⟩,⟨I,(i:Int)⟩,⟨L B,tab (fun k=>dB ((k:Int)∈a)) N⟩,⟨L B,tab (fun k=>dB ((k:Int)∈b)) N⟩,⟨L B,o⟩]) (fun i o=>o=tab (fun k=>if k<i then (dB ((k:Int)∈a)&&!dB ((k:Int)∈b)) else false) N) N 0 _ _ rfl (Nat.zero_le _) rfl ?_ ?_
  ·rintro i o hi rfl
   simp+contextual(maxSteps:=1000000)(disch:=omega)only[↓Sd,↓So,↓Sk,↓den,↓denA,Sa,Sb,Sc,Se,O1.d,O2.d,O3.d,cmI,arI,envOf,putN,↓reduceIte,Nat.reduceLT,Nat.reduceSub,Nat.reduceAdd,Int.reduceAdd,Int.reduceEq,Int.reduceLT,Int.reduceLE,arr_pos,arr_neg,↓wpJoin,tab_len,tab_get hi,tab_set']
   have key:∀v:Bool,v=(dB ((i:Int)∈a)&&!dB ((i:Int)∈b))→tab (fun k=>if k=i then v else if k<i then (dB ((k:Int)∈a)&&!dB ((k:Int)∈b)) else false) N=tab (fun k=>if k<i+1 then (dB ((k:Int)∈a)&&!dB ((k:Int)∈b)) else false) N:=by
    intro v hv
    refine tab_congr fun k _=>?_
    by_cases e:k=i
    ·subst e;rw [if_pos rfl,if_pos (by omega),hv]
    ·rw [if_neg e]
     by_cases e2:k<i
     ·rw [if_pos e2,if_pos (by omega)]
     ·rw [if_neg e2,if_neg (by omega)]
   exact ⟨fun g=>key _ (by simp [g]),fun g=>key _ (by simp [g])⟩
  ·rintro o rfl
   simp+contextual(maxSteps:=1000000)(disch:=omega)only[↓Sd,↓So,↓Sk,↓den,↓denA,Sa,Sb,Sc,Se,O1.d,O2.d,O3.d,cmI,arI,envOf,putN,↓reduceIte,Nat.reduceLT,Nat.reduceSub,Nat.reduceAdd,Int.reduceAdd,Int.reduceEq,Int.reduceLT,Int.reduceLE,arr_pos,arr_neg,C_impl_listOf_tab _ N (by omega:N≤1048576)]
   rw [←hK,←hN]
   exact upTo_congr fun k hk=>if_pos hk
theorem C_impl_SetBoth (a b:List Int) (ha:a.length≤1048576) (hb:b.length≤1048576) (Q:List AV→Prop):mc.C f_impl_SetBoth [⟨L I,a⟩,⟨L I,b⟩] Q=Q [⟨L I,mix (fun x y=>x&&y) a b⟩]:=by
 refine Mc.Ends.c (mc.ends F_impl_SetBoth ?_)
 generalize hK:mix (fun x y=>x&&y) a b=K
 obtain ⟨N,hN⟩:∃N:Nat,N=400:=⟨400,rfl⟩
 have hNi:(N:Int)=400:=by omega
 unfold mix at hK
 simp+contextual(maxSteps:=1000000)(disch:=omega)only[↓Sd,↓So,↓Sk,↓den,↓denA,Sa,Sb,Sc,Se,O1.d,O2.d,O3.d,cmI,arI,envOf,putN,↓reduceIte,Nat.reduceLT,Nat.reduceSub,Nat.reduceAdd,Int.reduceAdd,Int.reduceEq,Int.reduceLT,Int.reduceLE,arr_pos,arr_neg,tr_impl_SetBoth,C_impl_setOk a 400 (by omega) ha,C_impl_setOk b 400 (by omega) hb]
 refine ⟨fun h1=>?_,fun h1=>⟨fun h2=>?_,fun h2=>?_⟩⟩
 ·rw [←hK,if_neg fun h=>h1 h.1]
 ·rw [←hK,if_neg fun h=>h2 h.2]
 ·rw [if_pos ⟨h1,h2⟩] at hK
  simp+contextual(maxSteps:=1000000)(disch:=omega)only[↓Sd,↓So,↓Sk,↓den,↓denA,Sa,Sb,Sc,Se,O1.d,O2.d,O3.d,cmI,arI,envOf,putN,↓reduceIte,Nat.reduceLT,Nat.reduceSub,Nat.reduceAdd,Int.reduceAdd,Int.reduceEq,Int.reduceLT,Int.reduceLE,arr_pos,arr_neg,C_impl_marks_i a 400 N hNi.symm (by omega) ha (fun x hx=>by have:=lset_mem h1 x hx;omega),C_impl_marks_i b 400 N hNi.symm (by omega) hb (fun x hx=>by have:=lset_mem h2 x hx;omega)]
  have hr:List.replicate (Int.toNat 400) false=tab (fun k=>if k<0 then (dB ((k:Int)∈a)&&dB ((k:Int)∈b)) else false) N:=by
   rw [show Int.toNat 400=N by omega,rep_tab]
   exact tab_congr fun k _=>by rw [if_neg (by omega)]
  rw [hr,tab_len]
  refine mc.lp_for (List Bool) (fun i o=>[⟨I,(N:Int)⟩,⟨I,(i:Int)⟩,⟨L B,tab (fun k=>dB ((k:Int)∈a)) N⟩,⟨L B,tab (fun k=>dB ((k:Int)∈b)) N⟩,⟨L B,o⟩]) (fun i o=>o=tab (fun k=>if k<i then (dB ((k:Int)∈a)&&dB ((k:Int)∈b)) else false) N) N 0 _ _ rfl (Nat.zero_le _) rfl ?_ ?_
  ·rintro i o hi rfl
   simp+contextual(maxSteps:=1000000)(disch:=omega)only[↓Sd,↓So,↓Sk,↓den,↓denA,Sa,Sb,Sc,Se,O1.d,O2.d,O3.d,cmI,arI,envOf,putN,↓reduceIte,Nat.reduceLT,Nat.reduceSub,Nat.reduceAdd,Int.reduceAdd,Int.reduceEq,Int.reduceLT,Int.reduceLE,arr_pos,arr_neg,↓wpJoin,tab_len,tab_get hi,tab_set']
   have key:∀v:Bool,v=(dB ((i:Int)∈a)&&dB ((i:Int)∈b))→tab (fun k=>if k=i then v else if k<i then (dB ((k:Int)∈a)&&dB ((k:Int)∈b)) else false) N=tab (fun k=>if k<i+1 then (dB ((k:Int)∈a)&&dB ((k:Int)∈b)) else false) N:=by
    intro v hv
    refine tab_congr fun k _=>?_
    by_cases e:k=i
    ·subst e;rw [if_pos rfl,if_pos (by omega),hv]
    ·rw [if_neg e]
     by_cases e2:k<i
     ·rw [if_pos e2,if_pos (by omega)]
     ·rw [if_neg e2,if_neg (by omega)]
   exact ⟨fun g=>key _ (by simp [g]),fun g=>key _ (by simp [g])⟩
  ·rintro o rfl
   simp+contextual(maxSteps:=1000000)(disch:=omega)only[↓Sd,↓So,↓Sk,↓den,↓denA,Sa,Sb,Sc,Se,O1.d,O2.d,O3.d,cmI,arI,envOf,putN,↓reduceIte,Nat.reduceLT,Nat.reduceSub,Nat.reduceAdd,Int.reduceAdd,Int.reduceEq,Int.reduceLT,Int.reduceLE,arr_pos,arr_neg,C_impl_listOf_tab _ N (by omega:N≤1048576)]
   rw [←hK,←hN]
   exact upTo_congr fun k hk=>if_pos hk
theorem beq_dB {a b:Int}:(a==b)=dB (a=b):=by
 by_cases h:a=b
 ·rw [dB_t h];simpa using h
 ·rw [dB_f h];simpa using h
theorem C_laws_wcHas (l:List Int) (x:Int) (hl:l.length≤1048576) (Q:List AV→Prop):mc.C f_laws_wcHas [⟨L I,l⟩,⟨I,x⟩] Q=Q [⟨B,dB (x∈l)⟩]:=by
 refine Mc.Ends.c (mc.ends F_laws_wcHas ?_)
 generalize hK:dB (x∈l)=K
 simp+contextual(maxSteps:=1000000)(disch:=omega)only[↓Sd,↓So,↓Sk,↓den,↓denA,Sa,Sb,Sc,Se,O1.d,O2.d,O3.d,cmI,arI,envOf,putN,↓reduceIte,Nat.reduceLT,Nat.reduceSub,Nat.reduceAdd,Int.reduceAdd,Int.reduceEq,Int.reduceLT,Int.reduceLE,arr_pos,arr_neg,tr_laws_wcHas]
 refine lp_all (fun i=>[⟨I,x⟩,⟨L I,l⟩,⟨I,(l.length:Int)⟩,⟨I,(i:Int)⟩]) (fun i=>¬l.getD i 0=x) l.length _ rfl ?_ ?_
 ·intro i hi
  simp+contextual(maxSteps:=1000000)(disch:=omega)only[↓Sd,↓So,↓Sk,↓den,↓denA,Sa,Sb,Sc,Se,O1.d,O2.d,O3.d,cmI,arI,envOf,putN,↓reduceIte,Nat.reduceLT,Nat.reduceSub,Nat.reduceAdd,Int.reduceAdd,Int.reduceEq,Int.reduceLT,Int.reduceLE,arr_pos,arr_neg,]
  intro g
  rw [←hK,dB_t]
  rw [←g];exact getD_mem hi
 ·intro h
  simp+contextual(maxSteps:=1000000)(disch:=omega)only[↓Sd,↓So,↓Sk,↓den,↓denA,Sa,Sb,Sc,Se,O1.d,O2.d,O3.d,cmI,arI,envOf,putN,↓reduceIte,Nat.reduceLT,Nat.reduceSub,Nat.reduceAdd,Int.reduceAdd,Int.reduceEq,Int.reduceLT,Int.reduceLE,arr_pos,arr_neg,]
  rw [←hK,dB_f]
  intro hx
  exact all_get (d:=0) (p:=fun y=>¬y=x) h x hx rfl
def hw1 (s:Sy) (l:List Tm) (X:List Int) (x:Int):Prop:=holdsN s l x.toNat=true→∀y∈(steps s).getD x.toNat [],y∈X→holdsN s l y.toNat=true
def IsPrd (T:List (List Int)) (f:Nat→Int) (n k a:Nat):Prop:=a<n∧f a+1=f k∧(k:Int)∈T.getD a []∧∀b,b<a→¬(f b+1=f k∧(k:Int)∈T.getD b [])
def Chain (T:List (List Int)) (f:Nat→Int) (n k D:Nat) (ch:Nat→Nat):Prop:=ch D=k∧(∀e,e<D→IsPrd T f n (ch (e+1)) (ch e))∧∀e,e≤D→ch e<n∧f (ch e)=e
theorem Chain.few {T:List (List Int)} {f:Nat→Int} {n k D:Nat} {ch:Nat→Nat} (h:Chain T f n k D ch):D<n:=by
 have key:∀e,e≤D→e<(upTo (fun k=>decide (0≤f k∧f k≤(e:Int))) n).length:=by
  intro e
  induction e with
  | zero =>
   intro _
   have h1:=h.2.2 0 (by omega)
   exact upTo_pos.2 ⟨ch 0,h1.1,decide_eq_true (by omega)⟩
  | succ e ih =>
   intro he
   have h1:=ih (by omega)
   have h2:=h.2.2 (e+1) he
   have h3:=upTo_mono (p:=fun k=>decide (0≤f k∧f k≤(e:Int))) (q:=fun k=>decide (0≤f k∧f k≤((e+1:Nat):Int))) (n:=n) fun k _ hk=>decide_eq_true (by have:=of_decide_eq_true hk;omega)
   by_cases g:(upTo (fun k=>decide (0≤f k∧f k≤((e+1:Nat):Int))) n).length≤(upTo (fun k=>decide (0≤f k∧f k≤(e:Int))) n).length
   ·have h4:=h3.2 g (ch (e+1)) h2.1 (decide_eq_true (by omega))
    have h5:=of_decide_eq_true h4
    omega
   ·omega
 have h1:=key D (Nat.le_refl _)
 have h2:=@upTo_len (fun k=>decide (0≤f k∧f k≤(D:Int))) n
 omega
def SmSS (l:List (List Int)):Prop:=l.length≤4000∧∀x∈l,x.length≤4000
theorem SmSS.row {l:List (List Int)} (h:SmSS l) (i:Nat):(l.getD i []).length≤4000:=by
 by_cases hi:i<l.length
 ·exact h.2 _ (getD_mem hi)
 ·rw [List.getD_eq_getElem?_getD,List.getElem?_eq_none (by omega)];simp
theorem tab_self {α:Type} {l:List α} {d:α}:tab (fun i=>l.getD i d) l.length=l:=by
 refine List.ext_getElem tab_len fun i h1 h2=>?_
 simp [tab]
 rw [List.getElem?_eq_getElem h2];rfl
def fOk (s:Sy) (F:List (List Tm)):Prop:=valid s∧F.length≤4∧∀i,i<F.length→kf (F.getD i []) s.1.length=2
instance (s : Sy) (F : List (List Tm)) : Decidable (fOk s F) := by unfold fOk; infer_instance
def FewSS (F:List (List Tm)):Prop:=Few F∧∀x∈F,Few x
theorem FewSS.row {F:List (List Tm)} (h:FewSS F) (i:Nat):Few (F.getD i []):=by
 by_cases hi:i<F.length
 ·exact h.2 _ (getD_mem hi)
 ·rw [List.getD_eq_getElem?_getD,List.getElem?_eq_none (by omega)];simp [Few]
def ltr (F:List (List Tm)) (st:List Int):List Int:=tab (fun i=>evl (F.getD i []) st) F.length
def onw (s:Sy):List (List Int):=tab (fun k=>if (steps s).getD k []=[] then [(k:Int)] else (steps s).getD k []) (szn s.1)
def ltrs (s:Sy) (F:List (List Tm)):List (List Int):=tab (fun k=>ltr F (stN s k)) (szn s.1)
theorem C_spec_l20Facts (s:Sy) (F:List (List Tm)) (hs:FewSy s) (hF:FewSS F) (Q:List AV→Prop):mc.C f_spec_l20Facts [⟨L V3,s.1⟩,⟨L TR,s.2⟩,⟨L (L T4),F⟩] Q=Q [⟨B,decide (fOk s F)⟩]:=by
 have hl:F.length≤1048576:=hF.1
 refine Mc.Ends.c (mc.ends F_spec_l20Facts ?_)
 generalize hK:decide (fOk s F)=K
 simp+contextual(maxSteps:=1000000)(disch:=omega)only[↓Sd,↓So,↓Sk,↓den,↓denA,Sa,Sb,Sc,Se,O1.d,O2.d,O3.d,cmI,arI,envOf,putN,↓reduceIte,Nat.reduceLT,Nat.reduceSub,Nat.reduceAdd,Int.reduceAdd,Int.reduceEq,Int.reduceLT,Int.reduceLE,arr_pos,arr_neg,tr_spec_l20Facts]
 refine lp_all (fun i=>[⟨L (L T4),F⟩,⟨I,(i:Int)⟩,⟨L V3,s.1⟩,⟨L TR,s.2⟩]) (fun i=>kf (F.getD i []) s.1.length=2) F.length _ rfl ?_ ?_
 ·intro i hi
  simp+contextual(maxSteps:=1000000)(disch:=omega)only[↓Sd,↓So,↓Sk,↓den,↓denA,Sa,Sb,Sc,Se,O1.d,O2.d,O3.d,cmI,arI,envOf,putN,↓reduceIte,Nat.reduceLT,Nat.reduceSub,Nat.reduceAdd,Int.reduceAdd,Int.reduceEq,Int.reduceLT,Int.reduceLE,arr_pos,arr_neg,C_spec_l2Is (F.getD i []) s.1.length 2 (hF.row i) (by omega)]
  intro g
  rw [←hK,decide_eq_false fun h=>g (h.2.2 i hi)]
 ·intro h
  simp+contextual(maxSteps:=1000000)(disch:=omega)only[↓Sd,↓So,↓Sk,↓den,↓denA,Sa,Sb,Sc,Se,O1.d,O2.d,O3.d,cmI,arI,envOf,putN,↓reduceIte,Nat.reduceLT,Nat.reduceSub,Nat.reduceAdd,Int.reduceAdd,Int.reduceEq,Int.reduceLT,Int.reduceLE,arr_pos,arr_neg,C_spec_SystemValid s hs]
  refine ⟨fun hv=>?_,fun hv=>by rw [←hK,decide_eq_false fun h=>hv h.1]⟩
  rw [←hK]
  exact decide_eq_decide.2 ⟨fun g=>⟨hv,by omega,h⟩,fun g=>by have:=g.2.1;omega⟩
theorem C_impl_factsOk (s:Sy) (F:List (List Tm)) (hs:FewSy s) (hF:FewSS F) (Q:List AV→Prop):mc.C f_impl_factsOk [⟨L V3,s.1⟩,⟨L TR,s.2⟩,⟨L (L T4),F⟩] Q=Q [⟨B,decide (fOk s F)⟩]:=by
 have hl:F.length≤1048576:=hF.1
 refine Mc.Ends.c (mc.ends F_impl_factsOk ?_)
 generalize hK:decide (fOk s F)=K
 simp+contextual(maxSteps:=1000000)(disch:=omega)only[↓Sd,↓So,↓Sk,↓den,↓denA,Sa,Sb,Sc,Se,O1.d,O2.d,O3.d,cmI,arI,envOf,putN,↓reduceIte,Nat.reduceLT,Nat.reduceSub,Nat.reduceAdd,Int.reduceAdd,Int.reduceEq,Int.reduceLT,Int.reduceLE,arr_pos,arr_neg,tr_impl_factsOk,C_impl_SystemValid s hs]
 refine ⟨fun hv=>⟨fun h4=>?_,fun h4=>by rw [←hK,decide_eq_false fun h=>h4 (by have:=h.2.1;omega)]⟩,fun hv=>by rw [←hK,decide_eq_false fun h=>hv h.1]⟩
 refine lp_all (fun i=>[⟨L (L T4),F⟩,⟨I,(F.length:Int)⟩,⟨I,(i:Int)⟩,⟨L V3,s.1⟩,⟨L TR,s.2⟩]) (fun i=>kf (F.getD i []) s.1.length=2) F.length _ rfl ?_ ?_
 ·intro i hi
  simp+contextual(maxSteps:=1000000)(disch:=omega)only[↓Sd,↓So,↓Sk,↓den,↓denA,Sa,Sb,Sc,Se,O1.d,O2.d,O3.d,cmI,arI,envOf,putN,↓reduceIte,Nat.reduceLT,Nat.reduceSub,Nat.reduceAdd,Int.reduceAdd,Int.reduceEq,Int.reduceLT,Int.reduceLE,arr_pos,arr_neg,C_impl_kindOf (F.getD i []) s.1.length (hF.row i)]
  intro g
  have hno:¬fOk s F:=fun h=>g (h.2.2 i hi)
  rw [←hK,decide_eq_false hno]
  simp
 ·intro h
  simp+contextual(maxSteps:=1000000)(disch:=omega)only[↓Sd,↓So,↓Sk,↓den,↓denA,Sa,Sb,Sc,Se,O1.d,O2.d,O3.d,cmI,arI,envOf,putN,↓reduceIte,Nat.reduceLT,Nat.reduceSub,Nat.reduceAdd,Int.reduceAdd,Int.reduceEq,Int.reduceLT,Int.reduceLE,arr_pos,arr_neg,]
  rw [←hK,decide_eq_true (p:=fOk s F) ⟨hv,by omega,h⟩]
  rfl
theorem C_spec_l20Of (F:List (List Tm)) (st:List Int) (hl:F.length≤4) (h:∀i,i<F.length→kf (F.getD i []) st.length=2) (hb:Bds st) (Q:List AV→Prop):mc.C f_spec_l20Of [⟨L (L T4),F⟩,⟨L I,st⟩] Q=Q [⟨L I,ltr F st⟩]:=by
 refine Mc.Ends.c (mc.ends F_spec_l20Of ?_)
 simp+contextual(maxSteps:=1000000)(disch:=omega)only[↓Sd,↓So,↓Sk,↓den,↓denA,Sa,Sb,Sc,Se,O1.d,O2.d,O3.d,cmI,arI,envOf,putN,↓reduceIte,Nat.reduceLT,Nat.reduceSub,Nat.reduceAdd,Int.reduceAdd,Int.reduceEq,Int.reduceLT,Int.reduceLE,arr_pos,arr_neg,tr_spec_l20Of]
 refine mc.lp_for (List Int) (fun i o=>[⟨L (L T4),F⟩,⟨L I,st⟩,⟨I,(i:Int)⟩,⟨L I,o⟩]) (fun i o=>o=tab (fun i=>evl (F.getD i []) st) i) F.length 0 [] _ rfl (Nat.zero_le _) rfl ?_ ?_
 ·rintro i o hi rfl
  have h1:=h i hi
  simp+contextual(maxSteps:=1000000)(disch:=omega)only[↓Sd,↓So,↓Sk,↓den,↓denA,Sa,Sb,Sc,Se,O1.d,O2.d,O3.d,cmI,arI,envOf,putN,↓reduceIte,Nat.reduceLT,Nat.reduceSub,Nat.reduceAdd,Int.reduceAdd,Int.reduceEq,Int.reduceLT,Int.reduceLE,arr_pos,arr_neg,tab_len,C_spec_l2Last (F.getD i []) st st.length (by omega) hb rfl]
  exact tab_next
 ·rintro o rfl
  simp+contextual(maxSteps:=1000000)(disch:=omega)only[↓Sd,↓So,↓Sk,↓den,↓denA,Sa,Sb,Sc,Se,O1.d,O2.d,O3.d,cmI,arI,envOf,putN,↓reduceIte,Nat.reduceLT,Nat.reduceSub,Nat.reduceAdd,Int.reduceAdd,Int.reduceEq,Int.reduceLT,Int.reduceLE,arr_pos,arr_neg,]
  rfl
theorem C_impl_letters (F:List (List Tm)) (st:List Int) (hl:F.length≤4) (h:∀i,i<F.length→kf (F.getD i []) st.length=2) (hb:Bds st) (Q:List AV→Prop):mc.C f_impl_letters [⟨L (L T4),F⟩,⟨L I,st⟩] Q=Q [⟨L I,ltr F st⟩]:=by
 refine Mc.Ends.c (mc.ends F_impl_letters ?_)
 simp+contextual(maxSteps:=1000000)(disch:=omega)only[↓Sd,↓So,↓Sk,↓den,↓denA,Sa,Sb,Sc,Se,O1.d,O2.d,O3.d,cmI,arI,envOf,putN,↓reduceIte,Nat.reduceLT,Nat.reduceSub,Nat.reduceAdd,Int.reduceAdd,Int.reduceEq,Int.reduceLT,Int.reduceLE,arr_pos,arr_neg,tr_impl_letters]
 refine mc.lp_for (List Int) (fun i o=>[⟨L I,st⟩,⟨L (L T4),F⟩,⟨I,(F.length:Int)⟩,⟨I,(i:Int)⟩,⟨L I,o⟩]) (fun i o=>o=tab (fun j=>if j<i then evl (F.getD j []) st else 0) F.length) F.length 0 (List.replicate F.length 0) _ rfl (Nat.zero_le _) (by rw [rep_tab];rfl) ?_ ?_
 ·rintro i o hi rfl
  have h1:=h i hi
  simp+contextual(maxSteps:=1000000)(disch:=omega)only[↓Sd,↓So,↓Sk,↓den,↓denA,Sa,Sb,Sc,Se,O1.d,O2.d,O3.d,cmI,arI,envOf,putN,↓reduceIte,Nat.reduceLT,Nat.reduceSub,Nat.reduceAdd,Int.reduceAdd,Int.reduceEq,Int.reduceLT,Int.reduceLE,arr_pos,arr_neg,tab_len,C_impl_eval (F.getD i []) st st.length (by omega) hb rfl,tab_set']
  refine tab_congr fun k _=>?_
  by_cases e:k=i
  ·subst e;rw [if_pos rfl,if_pos (by omega)]
  ·rw [if_neg e]
   by_cases e2:k<i
   ·rw [if_pos e2,if_pos (by omega)]
   ·rw [if_neg e2,if_neg (by omega)]
 ·rintro o rfl
  simp+contextual(maxSteps:=1000000)(disch:=omega)only[↓Sd,↓So,↓Sk,↓den,↓denA,Sa,Sb,Sc,Se,O1.d,O2.d,O3.d,cmI,arI,envOf,putN,↓reduceIte,Nat.reduceLT,Nat.reduceSub,Nat.reduceAdd,Int.reduceAdd,Int.reduceEq,Int.reduceLT,Int.reduceLE,arr_pos,arr_neg,]
  exact tab_congr fun k hk=>if_pos hk
theorem onw_row {s:Sy} {i:Nat} (hi:i<szn s.1):(onw s).getD i []=if (steps s).getD i []=[] then [(i:Int)] else (steps s).getD i []:=tab_get hi
def onwN (s:Sy) (i:Nat):List (List Int):=tab (fun k=>if k<i∧(steps s).getD k []=[] then [(k:Int)] else (steps s).getD k []) (szn s.1)
theorem onwN_0 {s:Sy}:onwN s 0=steps s:=by
 have hl:(steps s).length=szn s.1:=tab_len
 refine Eq.trans ?_ (tab_self (l:=steps s) (d:=[]))
 rw [onwN,hl]
 exact tab_congr fun k _=>if_neg fun h=>by omega
theorem onwN_n {s:Sy}:onwN s (szn s.1)=onw s:=tab_congr fun k hk=>by
 by_cases g:(steps s).getD k []=[]
 ·rw [if_pos ⟨hk,g⟩,if_pos g]
 ·rw [if_neg fun h=>g h.2,if_neg g]
theorem onwN_get {s:Sy} {i:Nat} (hi:i<szn s.1):(onwN s i).getD i []=(steps s).getD i []:=by
 rw [onwN,tab_get hi,if_neg fun h=>by omega]
theorem onwN_set {s:Sy} {i:Nat} (hi:i<szn s.1) (h:(steps s).getD i []=[]):(onwN s i).set i [(i:Int)]=onwN s (i+1):=by
 rw [onwN,tab_set']
 refine tab_congr fun k _=>?_
 by_cases e:k=i
 ·subst e;rw [if_pos rfl,if_pos ⟨by omega,h⟩]
 ·rw [if_neg e]
  by_cases e2:k<i∧(steps s).getD k []=[]
  ·rw [if_pos e2,if_pos ⟨by omega,e2.2⟩]
  ·rw [if_neg e2,if_neg fun h=>e2 ⟨by omega,h.2⟩]
theorem onwN_keep {s:Sy} {i:Nat} (h:¬(steps s).getD i []=[]):onwN s i=onwN s (i+1):=tab_congr fun k _=>by
 by_cases e:k=i
 ·subst e;rw [if_neg fun g=>h g.2,if_neg fun g=>h g.2]
 ·by_cases e2:k<i∧(steps s).getD k []=[]
  ·rw [if_pos e2,if_pos ⟨by omega,e2.2⟩]
  ·rw [if_neg e2,if_neg fun h=>e2 ⟨by omega,h.2⟩]
theorem nil_len {l:List Int}:((l.length:Int)=0)=(l=[]):=propext ⟨fun h=>List.eq_nil_of_length_eq_zero (by omega),fun h=>by rw [h];rfl⟩
theorem C_spec_l22Onward (s:Sy) (hs:FewSy s) (h:valid s) (Q:List AV→Prop):mc.C f_spec_l22Onward [⟨L V3,s.1⟩,⟨L TR,s.2⟩] Q=Q [⟨L (L I),onw s⟩]:=by
 have hz:=szn_eq h
 have hl:∀i,(onwN s i).length=szn s.1:=fun i=>tab_len
 refine Mc.Ends.c (mc.ends F_spec_l22Onward ?_)
 simp+contextual(maxSteps:=1000000)(disch:=omega)only[↓Sd,↓So,↓Sk,↓den,↓denA,Sa,Sb,Sc,Se,O1.d,O2.d,O3.d,cmI,arI,envOf,putN,↓reduceIte,Nat.reduceLT,Nat.reduceSub,Nat.reduceAdd,Int.reduceAdd,Int.reduceEq,Int.reduceLT,Int.reduceLE,arr_pos,arr_neg,tr_spec_l22Onward,C_spec_l4Steps s hs h]
 refine mc.lp_for (List (List Int)) (fun i o=>[⟨I,(i:Int)⟩,⟨L (L I),o⟩]) (fun i o=>o=onwN s i) (szn s.1) 0 (steps s) _ rfl (Nat.zero_le _) onwN_0.symm ?_ ?_
 ·rintro i o hi rfl
  simp+contextual(maxSteps:=1000000)(disch:=omega)only[↓Sd,↓So,↓Sk,↓den,↓denA,Sa,Sb,Sc,Se,O1.d,O2.d,O3.d,cmI,arI,envOf,putN,↓reduceIte,Nat.reduceLT,Nat.reduceSub,Nat.reduceAdd,Int.reduceAdd,Int.reduceEq,Int.reduceLT,Int.reduceLE,arr_pos,arr_neg,↓wpJoin,hl,onwN_get hi,nil_len]
  exact ⟨fun g=>onwN_set hi g,fun g=>onwN_keep g⟩
 ·rintro o rfl
  simp+contextual(maxSteps:=1000000)(disch:=omega)only[↓Sd,↓So,↓Sk,↓den,↓denA,Sa,Sb,Sc,Se,O1.d,O2.d,O3.d,cmI,arI,envOf,putN,↓reduceIte,Nat.reduceLT,Nat.reduceSub,Nat.reduceAdd,Int.reduceAdd,Int.reduceEq,Int.reduceLT,Int.reduceLE,arr_pos,arr_neg,hl]
  exact onwN_n
theorem C_impl_followers (s:Sy) (h:valid s) (Q:List AV→Prop):mc.C f_impl_followers [⟨L V3,s.1⟩,⟨L TR,s.2⟩] Q=Q [⟨L (L I),onw s⟩]:=by
 have hz:=szn_eq h
 have hl:∀i,(onwN s i).length=szn s.1:=fun i=>tab_len
 have hl0:(steps s).length=szn s.1:=tab_len
 refine Mc.Ends.c (mc.ends F_impl_followers ?_)
 simp+contextual(maxSteps:=1000000)(disch:=omega)only[↓Sd,↓So,↓Sk,↓den,↓denA,Sa,Sb,Sc,Se,O1.d,O2.d,O3.d,cmI,arI,envOf,putN,↓reduceIte,Nat.reduceLT,Nat.reduceSub,Nat.reduceAdd,Int.reduceAdd,Int.reduceEq,Int.reduceLT,Int.reduceLE,arr_pos,arr_neg,tr_impl_followers,C_impl_nexts s h,hl0]
 refine mc.lp_for (List (List Int)) (fun i o=>[⟨I,(szn s.1:Int)⟩,⟨I,(i:Int)⟩,⟨L (L I),o⟩]) (fun i o=>o=onwN s i) (szn s.1) 0 (steps s) _ rfl (Nat.zero_le _) onwN_0.symm ?_ ?_
 ·rintro i o hi rfl
  simp+contextual(maxSteps:=1000000)(disch:=omega)only[↓Sd,↓So,↓Sk,↓den,↓denA,Sa,Sb,Sc,Se,O1.d,O2.d,O3.d,cmI,arI,envOf,putN,↓reduceIte,Nat.reduceLT,Nat.reduceSub,Nat.reduceAdd,Int.reduceAdd,Int.reduceEq,Int.reduceLT,Int.reduceLE,arr_pos,arr_neg,↓wpJoin,hl,onwN_get hi,nil_len]
  exact ⟨fun g=>onwN_set hi g,fun g=>onwN_keep g⟩
 ·rintro o rfl
  simp+contextual(maxSteps:=1000000)(disch:=omega)only[↓Sd,↓So,↓Sk,↓den,↓denA,Sa,Sb,Sc,Se,O1.d,O2.d,O3.d,cmI,arI,envOf,putN,↓reduceIte,Nat.reduceLT,Nat.reduceSub,Nat.reduceAdd,Int.reduceAdd,Int.reduceEq,Int.reduceLT,Int.reduceLE,arr_pos,arr_neg,hl]
  exact onwN_n
theorem fOk_at {s:Sy} {F:List (List Tm)} (h:fOk s F) {k:Nat} (hk:k<szn s.1):(∀i,i<F.length→kf (F.getD i []) (stN s k).length=2)∧Bds (stN s k):=by
 have hst:=stN_in h.1 hk
 exact ⟨fun i hi=>by rw [hst.1];exact h.2.2 i hi,hst.bds h.1.2.2.1⟩
theorem C_impl_lettersAll (s:Sy) (F:List (List Tm)) (h:fOk s F) (Q:List AV→Prop):mc.C f_impl_lettersAll [⟨L V3,s.1⟩,⟨L TR,s.2⟩,⟨L (L T4),F⟩] Q=Q [⟨L (L I),ltrs s F⟩]:=by
 have hv:=h.1
 have hz:=szn_eq hv
 refine Mc.Ends.c (mc.ends F_impl_lettersAll ?_)
 simp+contextual(maxSteps:=1000000)(disch:=omega)only[↓Sd,↓So,↓Sk,↓den,↓denA,Sa,Sb,Sc,Se,O1.d,O2.d,O3.d,cmI,arI,envOf,putN,↓reduceIte,Nat.reduceLT,Nat.reduceSub,Nat.reduceAdd,Int.reduceAdd,Int.reduceEq,Int.reduceLT,Int.reduceLE,arr_pos,arr_neg,tr_impl_lettersAll,C_impl_size s.1 hv.1.2 hv.2.2.1]
 rw [←hz.1]
 refine mc.lp_for (List (List Int)) (fun i o=>[⟨L (L T4),F⟩,⟨I,(szn s.1:Int)⟩,⟨I,(i:Int)⟩,⟨L V3,s.1⟩,⟨L TR,s.2⟩,⟨L (L I),o⟩]) (fun i o=>o=tab (fun k=>ltr F (stN s k)) i) (szn s.1) 0 [] _ rfl (Nat.zero_le _) rfl ?_ ?_
 ·rintro i o hi rfl
  have h1:=fOk_at h hi
  have hst:stAt s.1 (i:Int)=stN s i:=rfl
  simp+contextual(maxSteps:=1000000)(disch:=omega)only[↓Sd,↓So,↓Sk,↓den,↓denA,Sa,Sb,Sc,Se,O1.d,O2.d,O3.d,cmI,arI,envOf,putN,↓reduceIte,Nat.reduceLT,Nat.reduceSub,Nat.reduceAdd,Int.reduceAdd,Int.reduceEq,Int.reduceLT,Int.reduceLE,arr_pos,arr_neg,tab_len,C_impl_stateAt s (i:Int) hv.1.2 hv.2.2.1 (by omega),hst,C_impl_letters F (stN s i) h.2.1 h1.1 h1.2]
  exact tab_next
 ·rintro o rfl
  simp+contextual(maxSteps:=1000000)(disch:=omega)only[↓Sd,↓So,↓Sk,↓den,↓denA,Sa,Sb,Sc,Se,O1.d,O2.d,O3.d,cmI,arI,envOf,putN,↓reduceIte,Nat.reduceLT,Nat.reduceSub,Nat.reduceAdd,Int.reduceAdd,Int.reduceEq,Int.reduceLT,Int.reduceLE,arr_pos,arr_neg,]
  rfl
theorem SmSS.few {l:List (List Int)} (h:SmSS l):l.length≤1048576∧∀x∈l,x.length≤1048576:=⟨by have:=h.1;omega,fun x hx=>by have:=h.2 x hx;omega⟩
abbrev zT:Tm:=(0,0,0,0)
theorem D_l20Asked (b:List Int) (p:Int) (s:Sy) (hb:Rdy b) (hp:0≤p∧p≤600000000) (hs:SmSy s) {Q:List AV→Prop} (h:∀(F:List (List Tm)) (p':Int),p≤p'∧p'≤p+5000→F.length≤4→(∀x∈F,x.length≤16)→Q [⟨L (L T4),F⟩,⟨RD,(b,p')⟩]):mc.C f_spec_l20Asked [⟨RD,(b,p)⟩,⟨L V3,s.1⟩,⟨L TR,s.2⟩] Q:=by
 refine mc.c_of F_spec_l20Asked ?_
 simp+contextual(maxSteps:=1000000)(disch:=omega)only[↓Sd,↓So,↓Sk,↓den,↓denA,Sa,Sb,Sc,Se,O1.d,O2.d,O3.d,cmI,arI,envOf,putN,↓reduceIte,Nat.reduceLT,Nat.reduceSub,Nat.reduceAdd,Int.reduceAdd,Int.reduceEq,Int.reduceLT,Int.reduceLE,arr_pos,arr_neg,tr_spec_l20Asked]
 have h3:=hs.1
 refine mc.wp_join (fun us=>∃(p1:Int) (F:List (List Tm)),us=[⟨L U,b⟩,⟨I,p1⟩,⟨L (L T4),F⟩]∧p≤p1∧p1≤p+5000∧F.length≤4∧∀x∈F,x.length≤16) ?_ ?_
 ·simp+contextual(maxSteps:=1000000)(disch:=omega)only[↓Sd,↓So,↓Sk,↓den,↓denA,Sa,Sb,Sc,Se,O1.d,O2.d,O3.d,cmI,arI,envOf,putN,↓reduceIte,Nat.reduceLT,Nat.reduceSub,Nat.reduceAdd,Int.reduceAdd,Int.reduceEq,Int.reduceLT,Int.reduceLE,arr_pos,arr_neg,]
  refine D_num _ _ _ hb (by omega) (by simp) (by simp) fun n n0=>?_;simp+contextual(maxSteps:=1000000)(disch:=omega)only[↓Sd,↓So,↓Sk,↓den,↓denA,Sa,Sb,Sc,Se,O1.d,O2.d,O3.d,cmI,arI,envOf,putN,↓reduceIte,Nat.reduceLT,Nat.reduceSub,Nat.reduceAdd,Int.reduceAdd,Int.reduceEq,Int.reduceLT,Int.reduceLE,arr_pos,arr_neg,]
  have hn:0≤n∧n≤2:=by simp only [List.mem_append,List.mem_singleton] at n0;omega
  obtain ⟨N,hN⟩:∃N:Nat,n=N:=⟨n.toNat,by omega⟩
  subst hN
  refine mc.lp_inv (fun k us=>∃(p1:Int) (F:List (List Tm)),us=[⟨I,(k:Int)⟩,⟨L U,b⟩,⟨I,p1⟩,⟨L V3,s.1⟩,⟨L TR,s.2⟩,⟨L (L T4),F⟩]∧F.length+k≤2∧p≤p1∧p1+2000 * k≤p+1+4000∧∀x∈F,x.length≤16) N _ ⟨p+1,[],rfl,by simp;omega,by omega,by omega,by simp⟩ ?_
  rintro k us ⟨p1,F,rfl,i1,i2,i3,i4⟩
  have app:∀(x:List Tm),x.length≤16→∀y∈F++[x],y.length≤16:=fun x hx y hy=>(List.mem_append.1 hy).elim (i4 y) fun hy=>by rw [List.mem_singleton.1 hy];exact hx
  cases k with
  | zero =>
   simp+contextual(maxSteps:=1000000)(disch:=omega)only[↓Sd,↓So,↓Sk,↓den,↓denA,Sa,Sb,Sc,Se,O1.d,O2.d,O3.d,cmI,arI,envOf,putN,↓reduceIte,Nat.reduceLT,Nat.reduceSub,Nat.reduceAdd,Int.reduceAdd,Int.reduceEq,Int.reduceLT,Int.reduceLE,arr_pos,arr_neg,]
   exact ⟨_,_,⟨rfl,rfl⟩,by omega,by omega,by omega,i4⟩
  | succ k =>
   simp+contextual(maxSteps:=1000000)(disch:=omega)only[↓Sd,↓So,↓Sk,↓den,↓denA,Sa,Sb,Sc,Se,O1.d,O2.d,O3.d,cmI,arI,envOf,putN,↓reduceIte,Nat.reduceLT,Nat.reduceSub,Nat.reduceAdd,Int.reduceAdd,Int.reduceEq,Int.reduceLT,Int.reduceLE,arr_pos,arr_neg,]
   refine ⟨fun g=>?_,fun g=>⟨_,_,⟨rfl,rfl⟩,by omega,by omega,by omega,i4⟩⟩
   refine mc.wp_join (fun us=>∃(p1:Int) (F:List (List Tm)),us=[⟨I,(k:Int)+1⟩,⟨L U,b⟩,⟨I,p1⟩,⟨L V3,s.1⟩,⟨L TR,s.2⟩,⟨L (L T4),F⟩]∧F.length+k≤2∧p≤p1∧p1+2000 * k≤p+1+4000∧∀x∈F,x.length≤16) ?_ ?_
   ·simp+contextual(maxSteps:=1000000)(disch:=omega)only[↓Sd,↓So,↓Sk,↓den,↓denA,Sa,Sb,Sc,Se,O1.d,O2.d,O3.d,cmI,arI,envOf,putN,↓reduceIte,Nat.reduceLT,Nat.reduceSub,Nat.reduceAdd,Int.reduceAdd,Int.reduceEq,Int.reduceLT,Int.reduceLE,arr_pos,arr_neg,C_spec_l2Var (s.1.getD 0 (0,0,0))]
    refine ⟨fun g1=>?_,fun g1=>?_⟩
    ·refine D_pick1 _ _ _ hb (by omega) (by omega) fun a a0 a1=>?_;simp+contextual(maxSteps:=1000000)(disch:=omega)only[↓Sd,↓So,↓Sk,↓den,↓denA,Sa,Sb,Sc,Se,O1.d,O2.d,O3.d,cmI,arI,envOf,putN,↓reduceIte,Nat.reduceLT,Nat.reduceSub,Nat.reduceAdd,Int.reduceAdd,Int.reduceEq,Int.reduceLT,Int.reduceLE,arr_pos,arr_neg,]
     refine ⟨fun g2=>?_,fun g2=>?_⟩
     ·refine D_l2Cond _ _ (s.1.getD 0 (0,0,0)) _ hb (by omega) fun m p2 hp2 hm=>?_
      simp+contextual(maxSteps:=1000000)(disch:=omega)only[↓Sd,↓So,↓Sk,↓den,↓denA,Sa,Sb,Sc,Se,O1.d,O2.d,O3.d,cmI,arI,envOf,putN,↓reduceIte,Nat.reduceLT,Nat.reduceSub,Nat.reduceAdd,Int.reduceAdd,Int.reduceEq,Int.reduceLT,Int.reduceLE,arr_pos,arr_neg,↓wpJoin,]
      exact ⟨_,_,⟨rfl,rfl⟩,by simp only [List.length_append,List.length_singleton];omega,by omega,by omega,app m (by omega)⟩
     ·refine D_l1Any _ _ _ hb (by omega) (by omega) fun l p2 h1 h2 h4=>?_
      simp+contextual(maxSteps:=1000000)(disch:=omega)only[↓Sd,↓So,↓Sk,↓den,↓denA,Sa,Sb,Sc,Se,O1.d,O2.d,O3.d,cmI,arI,envOf,putN,↓reduceIte,Nat.reduceLT,Nat.reduceSub,Nat.reduceAdd,Int.reduceAdd,Int.reduceEq,Int.reduceLT,Int.reduceLE,arr_pos,arr_neg,↓wpJoin,]
      exact ⟨_,_,⟨rfl,rfl⟩,by simp only [List.length_append,List.length_singleton];omega,by omega,by omega,app l (by omega)⟩
    ·refine D_l1Any _ _ _ hb (by omega) (by omega) fun l p2 h1 h2 h4=>?_
     simp+contextual(maxSteps:=1000000)(disch:=omega)only[↓Sd,↓So,↓Sk,↓den,↓denA,Sa,Sb,Sc,Se,O1.d,O2.d,O3.d,cmI,arI,envOf,putN,↓reduceIte,Nat.reduceLT,Nat.reduceSub,Nat.reduceAdd,Int.reduceAdd,Int.reduceEq,Int.reduceLT,Int.reduceLE,arr_pos,arr_neg,↓wpJoin,]
     exact ⟨_,_,⟨rfl,rfl⟩,by simp only [List.length_append,List.length_singleton];omega,by omega,by omega,app l (by omega)⟩
   ·rintro us ⟨p2,F,rfl,a1,a2,a3,a4⟩
    simp+contextual(maxSteps:=1000000)(disch:=omega)only[↓Sd,↓So,↓Sk,↓den,↓denA,Sa,Sb,Sc,Se,O1.d,O2.d,O3.d,cmI,arI,envOf,putN,↓reduceIte,Nat.reduceLT,Nat.reduceSub,Nat.reduceAdd,Int.reduceAdd,Int.reduceEq,Int.reduceLT,Int.reduceLE,arr_pos,arr_neg,]
    exact ⟨k,by omega,p2,F,⟨rfl,rfl,rfl⟩,a1,a2,a3,a4⟩
 ·rintro us ⟨p1,F,rfl,a1,a2,a3,a4⟩
  simp+contextual(maxSteps:=1000000)(disch:=omega)only[↓Sd,↓So,↓Sk,↓den,↓denA,Sa,Sb,Sc,Se,O1.d,O2.d,O3.d,cmI,arI,envOf,putN,↓reduceIte,Nat.reduceLT,Nat.reduceSub,Nat.reduceAdd,Int.reduceAdd,Int.reduceEq,Int.reduceLT,Int.reduceLE,arr_pos,arr_neg,]
  exact h _ _ (by omega) a3 a4
theorem C_impl_SizeOf (s:Sy) (hs:FewSy s) (h:valid s) (Q:List AV→Prop):mc.C f_impl_SizeOf [⟨L V3,s.1⟩,⟨L TR,s.2⟩] Q=Q [⟨I,sz s.1⟩]:=by
 refine Mc.Ends.c (mc.ends F_impl_SizeOf ?_)
 simp+contextual(maxSteps:=1000000)(disch:=omega)only[↓Sd,↓So,↓Sk,↓den,↓denA,Sa,Sb,Sc,Se,O1.d,O2.d,O3.d,cmI,arI,envOf,putN,↓reduceIte,Nat.reduceLT,Nat.reduceSub,Nat.reduceAdd,Int.reduceAdd,Int.reduceEq,Int.reduceLT,Int.reduceLE,arr_pos,arr_neg,tr_impl_SizeOf,C_impl_SystemValid s hs,h,C_impl_size s.1 h.1.2 h.2.2.1]
noncomputable def aB (T:List (List Int)) (n:Nat) (p:Nat→Bool) (k:Nat):Bool:=dB (ahead T p n k)
theorem aB_iff {T:List (List Int)} {n:Nat} {p:Nat→Bool} {k:Nat}:aB T n p k=true↔∃b,b<n∧p b=true∧(b:Int)∈T.getD k []:=dB_iff
theorem aB_congr {T:List (List Int)} {n:Nat} {p q:Nat→Bool} {k:Nat} (h:∀b,b<n→p b=q b):aB T n p k=aB T n q k :=
 dB_congr ⟨fun ⟨b,h1,h2,h3⟩=>⟨b,h1,by rw [←h b h1];exact h2,h3⟩,fun ⟨b,h1,h2,h3⟩=>⟨b,h1,by rw [h b h1];exact h2,h3⟩⟩
theorem aB_mono {T:List (List Int)} {n:Nat} {p q:Nat→Bool} {k:Nat} (h:∀b,b<n→p b=true→q b=true) (ha:aB T n p k=true):aB T n q k=true:=by
 obtain ⟨b,h1,h2,h3⟩:=aB_iff.1 ha
 exact aB_iff.2 ⟨b,h1,h b h1 h2,h3⟩
def cT (p:Nat→Bool):Nat→Nat
 | 0=>0
 | n+1=>cT p n+(if p n=true then 1 else 0)
theorem cT_le {p:Nat→Bool}:∀{n:Nat},cT p n≤n
 | 0=>Nat.le_refl _
 | n+1=>by
  have:=@cT_le p n
  simp only [cT];split<;>omega
theorem cT_mono {p q:Nat→Bool}:∀{n:Nat},(∀k,k<n→p k=true→q k=true)→cT p n≤cT q n
 | 0,_=>Nat.le_refl _
 | n+1,h=>by
  have ih:=@cT_mono p q n fun k hk=>h k (by omega)
  have hn:=h n (by omega)
  simp only [cT]
  by_cases hp:p n=true
  ·rw [if_pos hp,if_pos (hn hp)];omega
  ·rw [if_neg hp];split<;>omega
theorem cT_lt {p q:Nat→Bool}:∀{n:Nat},(∀k,k<n→p k=true→q k=true)→(∃k,k<n∧p k≠q k)→cT p n+1≤cT q n
 | 0,_,⟨k,hk,_⟩=>absurd hk (Nat.not_lt_zero _)
 | n+1,h,⟨k,hk,hne⟩=>by
  have hn:=h n (by omega)
  simp only [cT]
  by_cases hkn:k=n
  ·subst hkn
   have ih:=@cT_mono p q k fun j hj=>h j (by omega)
   cases hp:p k with
   | true=>rw [hp] at hne;exact absurd (hn hp).symm hne
   | false =>
    cases hq:q k with
    | true=>simp;omega
    | false=>rw [hp,hq] at hne;exact absurd rfl hne
  ·have ih:=@cT_lt p q n (fun j hj=>h j (by omega)) ⟨k,by omega,hne⟩
   by_cases hp:p n=true
   ·rw [if_pos hp,if_pos (hn hp)];omega
   ·rw [if_neg hp];split<;>omega
theorem up_fix {z:Nat→Nat→Bool} {n:Nat} (hm:∀i k,k<n→z i k=true→z (i+1) k=true) (hs:∀i,(∀k,k<n→z (i+1) k=z i k)→∀k,k<n→z (i+2) k=z (i+1) k) :
  (∀k,k<n→z (n+1) k=z n k)∧∀j,j≤n→(∀k,k<n→z (j+1) k=z j k)→∀k,k<n→z n k=z j k:=by
 have later:∀j,(∀k,k<n→z (j+1) k=z j k)→∀d,(∀k,k<n→z (j+d+1) k=z (j+d) k)∧∀k,k<n→z (j+d) k=z j k:=by
  intro j hj d
  induction d with
  | zero=>exact ⟨hj,fun k _=>rfl⟩
  | succ d ih=>exact ⟨hs (j+d) ih.1,fun k hk=>by rw [←ih.2 k hk];exact ih.1 k hk⟩
 refine ⟨?_,fun j hj hst k hk=>?_⟩
 ·apply Classical.byContradiction
  intro hno
  have hall:∀i,i≤n→¬ ∀k,k<n→z (i+1) k=z i k:=fun i hi h=>hno (by
   have:=(later i h (n - i)).1
   rw [show i+(n - i)=n by omega] at this
   exact this)
  have hc:∀i,i≤n+1→i≤cT (z i) n:=by
   intro i
   induction i with
   | zero=>intro _;exact Nat.zero_le _
   | succ i ih =>
    intro hi
    have h1:=ih (by omega)
    have h2:=hall i (by omega)
    have h3:∃k,k<n∧z i k≠z (i+1) k:=Classical.byContradiction fun hh=>h2 fun k hk=>Classical.byContradiction fun hne=>hh ⟨k,hk,fun e=>hne e.symm⟩
    have:=cT_lt (hm i) h3
    omega
  have:=hc (n+1) (Nat.le_refl _)
  have:=@cT_le (z (n+1)) n
  omega
 ·have:=(later j hst (n - j)).2 k hk
  rwa [show j+(n - j)=n by omega] at this
theorem down_fix {z:Nat→Nat→Bool} {n:Nat} (hm:∀i k,k<n→z (i+1) k=true→z i k=true) (hs:∀i,(∀k,k<n→z (i+1) k=z i k)→∀k,k<n→z (i+2) k=z (i+1) k) :
  (∀k,k<n→z (n+1) k=z n k)∧∀j,j≤n→(∀k,k<n→z (j+1) k=z j k)→∀k,k<n→z n k=z j k:=by
 have nn:∀{a b:Bool},(!a)=(!b)→a=b:=fun {a b} h=>by cases a<;>cases b<;>simp_all
 obtain ⟨h1,h2⟩:=up_fix (z:=fun i k=>!z i k) (n:=n) (fun i k hk h=>by
  simp only [Bool.not_eq_true'] at h ⊢
  cases hz:z (i+1) k with
  | false=>rfl
  | true=>rw [hm i k hk hz] at h;cases h) (fun i h k hk=>by
  rw [hs i (fun k hk=>nn (h k hk)) k hk])
 exact ⟨fun k hk=>nn (h1 k hk),fun j hj hst k hk=>nn (h2 j hj (fun k hk=>by rw [hst k hk]) k hk)⟩
noncomputable def euI (T:List (List Int)) (n:Nat) (p q:Nat→Bool):Nat→Nat→Bool
 | 0,k=>q k
 | i+1,k=>euI T n p q i k||(p k&&aB T n (euI T n p q i) k)
noncomputable def egI (T:List (List Int)) (n:Nat) (p:Nat→Bool):Nat→Nat→Bool
 | 0,k=>p k
 | i+1,k=>egI T n p i k&&aB T n (egI T n p i) k
noncomputable def nxB (T:List (List Int)) (n:Nat) (all:Bool) (z:Nat→Bool) (k:Nat):Bool:=if all=true then !aB T n (fun k=>!z k) k else aB T n z k
noncomputable def fuI (T:List (List Int)) (n:Nat) (all:Bool) (p q:Nat→Bool):Nat→Nat→Bool
 | 0,k=>q k
 | i+1,k=>q k||(p k&&nxB T n all (fuI T n all p q i) k)
noncomputable def gaI (T:List (List Int)) (n:Nat) (all:Bool) (p:Nat→Bool):Nat→Nat→Bool
 | 0,k=>p k
 | i+1,k=>p k&&nxB T n all (gaI T n all p i) k
theorem nxB_congr {T:List (List Int)} {n:Nat} {all:Bool} {p q:Nat→Bool} {k:Nat} (h:∀b,b<n→p b=q b):nxB T n all p k=nxB T n all q k:=by
 unfold nxB
 rw [aB_congr h,aB_congr (p:=fun k=>!p k) (q:=fun k=>!q k) fun b hb=>by rw [h b hb]]
theorem nxB_mono {T:List (List Int)} {n:Nat} {all:Bool} {p q:Nat→Bool} {k:Nat} (h:∀b,b<n→p b=true→q b=true) (ha:nxB T n all p k=true):nxB T n all q k=true:=by
 unfold nxB at ha ⊢
 cases all with
 | false=>exact aB_mono h ha
 | true =>
  simp only [if_true,Bool.not_eq_true'] at ha ⊢
  cases hq:aB T n (fun k=>!q k) k with
  | false=>rfl
  | true =>
   have:=aB_mono (p:=fun k=>!q k) (q:=fun k=>!p k) (fun b hb hqb=>by
    simp only [Bool.not_eq_true'] at hqb ⊢
    cases hp:p b with
    | false=>rfl
    | true=>rw [h b hb hp] at hqb;cases hqb) hq
   rw [this] at ha;cases ha
theorem fuI_q {T:List (List Int)} {n:Nat} {all:Bool} {p q:Nat→Bool} {i k:Nat} (h:q k=true):fuI T n all p q i k=true:=by
 cases i with
 | zero=>exact h
 | succ i=>simp only [fuI,h,Bool.true_or]
theorem fuI_up {T:List (List Int)} {n:Nat} {all:Bool} {p q:Nat→Bool}:∀(i k:Nat),k<n→fuI T n all p q i k=true→fuI T n all p q (i+1) k=true
 | 0,k,hk,h=>by simp only [fuI] at h ⊢;rw [h];rfl
 | i+1,k,hk,h=>by
  rw [fuI] at h ⊢
  simp only [Bool.or_eq_true,Bool.and_eq_true] at h ⊢
  rcases h with h | ⟨h1,h2⟩
  ·exact .inl h
  ·exact .inr ⟨h1,nxB_mono (fun b hb=>fuI_up i b hb) h2⟩
theorem gaI_down {T:List (List Int)} {n:Nat} {all:Bool} {p:Nat→Bool}:∀(i k:Nat),k<n→gaI T n all p (i+1) k=true→gaI T n all p i k=true
 | 0,k,hk,h=>by simp only [gaI,Bool.and_eq_true] at h ⊢;exact h.1
 | i+1,k,hk,h=>by
  rw [gaI] at h ⊢
  simp only [Bool.and_eq_true] at h ⊢
  exact ⟨h.1,nxB_mono (fun b hb=>gaI_down i b hb) h.2⟩
theorem fuI_fix {T:List (List Int)} {n:Nat} {all:Bool} {p q:Nat→Bool}:(∀k,k<n→fuI T n all p q (n+1) k=fuI T n all p q n k) ∧
  ∀j,j≤n→(∀k,k<n→fuI T n all p q (j+1) k=fuI T n all p q j k)→∀k,k<n→fuI T n all p q n k=fuI T n all p q j k :=
 up_fix fuI_up fun i h k hk=>by
  show (q k||(p k&&nxB T n all (fuI T n all p q (i+1)) k))=(q k||(p k&&nxB T n all (fuI T n all p q i) k))
  rw [nxB_congr h]
theorem gaI_fix {T:List (List Int)} {n:Nat} {all:Bool} {p:Nat→Bool}:(∀k,k<n→gaI T n all p (n+1) k=gaI T n all p n k) ∧
  ∀j,j≤n→(∀k,k<n→gaI T n all p (j+1) k=gaI T n all p j k)→∀k,k<n→gaI T n all p n k=gaI T n all p j k :=
 down_fix gaI_down fun i h k hk=>by
  show (p k&&nxB T n all (gaI T n all p (i+1)) k)=(p k&&nxB T n all (gaI T n all p i) k)
  rw [nxB_congr h]
theorem euI_fu {T:List (List Int)} {n:Nat} {p q:Nat→Bool}:∀(i k:Nat),k<n→euI T n p q i k=fuI T n false p q i k
 | 0,k,hk=>rfl
 | i+1,k,hk=>by
  have ih:=fun b hb=>euI_fu (T:=T) (n:=n) (p:=p) (q:=q) i b hb
  rw [euI,ih k hk,aB_congr ih]
  have hn:nxB T n false (fuI T n false p q i) k=aB T n (fuI T n false p q i) k:=by simp [nxB]
  cases hz:fuI T n false p q i k with
  | true=>rw [fuI_up i k hk hz];rfl
  | false =>
   rw [fuI,hn,Bool.false_or]
   cases hq:q k with
   | true=>rw [fuI_q hq] at hz;cases hz
   | false=>rfl
theorem egI_ga {T:List (List Int)} {n:Nat} {p:Nat→Bool}:∀(i k:Nat),k<n→egI T n p i k=gaI T n false p i k
 | 0,k,hk=>rfl
 | i+1,k,hk=>by
  have ih:=fun b hb=>egI_ga (T:=T) (n:=n) (p:=p) i b hb
  rw [egI,ih k hk,aB_congr ih]
  have hn:nxB T n false (gaI T n false p i) k=aB T n (gaI T n false p i) k:=by simp [nxB]
  have hd:=@gaI_down T n false p i k hk
  cases hz:gaI T n false p i k with
  | true =>
   rw [gaI,hn,Bool.true_and]
   cases hp:p k with
   | true=>rfl
   | false =>
    exfalso
    cases i with
    | zero=>rw [gaI,hp] at hz;cases hz
    | succ i=>rw [gaI,hp] at hz;cases hz
  | false =>
   rw [Bool.false_and]
   cases hz1:gaI T n false p (i+1) k with
   | false=>rfl
   | true=>rw [hd hz1] at hz;cases hz
theorem gaI_all {T:List (List Int)} {n:Nat} {p:Nat→Bool}:∀(i k:Nat),k<n→gaI T n true p i k=!fuI T n false (fun _=>true) (fun k=>!p k) i k
 | 0,k,hk=>by simp [gaI,fuI]
 | i+1,k,hk=>by
  have ih:=fun b hb=>gaI_all (T:=T) (n:=n) (p:=p) i b hb
  rw [gaI,fuI]
  have h1:nxB T n true (gaI T n true p i) k=!aB T n (fuI T n false (fun _=>true) (fun k=>!p k) i) k:=by
   unfold nxB
   rw [if_pos rfl,aB_congr (q:=fuI T n false (fun _=>true) (fun k=>!p k) i) fun b hb=>by rw [ih b hb,Bool.not_not]]
  have h2:nxB T n false (fuI T n false (fun _=>true) (fun k=>!p k) i) k=aB T n (fuI T n false (fun _=>true) (fun k=>!p k) i) k:=by simp [nxB]
  rw [h1,h2]
  simp
noncomputable def auS (T:List (List Int)) (n:Nat) (p q:Nat→Bool) (k:Nat):Bool:=!(euI T n (fun k=>!q k) (fun k=>!q k&&!p k) n k)&&!(egI T n (fun k=>!q k) n k)
theorem auS_fu {T:List (List Int)} {n:Nat} {p q:Nat→Bool} {k:Nat} (hk:k<n):fuI T n true p q n k=auS T n p q k:=by
 obtain ⟨bad,hbad⟩:∃bad,euI T n (fun k=>!q k) (fun k=>!q k&&!p k) n=bad:=⟨_,rfl⟩
 obtain ⟨st,hst⟩:∃st,egI T n (fun k=>!q k) n=st:=⟨_,rfl⟩
 have hb:∀k,k<n→(bad k=true↔(q k=false∧p k=false)∨(q k=false∧aB T n bad k=true)):=by
  intro k hk
  have h1:=(@fuI_fix T n false (fun k=>!q k) (fun k=>!q k&&!p k)).1 k hk
  have e:=fun k hk=>@euI_fu T n (fun k=>!q k) (fun k=>!q k&&!p k) n k hk
  rw [hbad] at e
  rw [←e k hk] at h1
  rw [←h1,fuI]
  have hn:nxB T n false (fuI T n false (fun k=>!q k) (fun k=>!q k&&!p k) n) k=aB T n bad k:=by
   simp only [nxB,Bool.false_eq_true,if_false]
   exact aB_congr fun b hb=>(e b hb).symm
  rw [hn]
  simp
 have hsq:∀i k,egI T n (fun k=>!q k) i k=true→q k=false:=by
  intro i
  induction i with
  | zero=>intro k h;simpa [egI] using h
  | succ i ih=>intro k h;simp only [egI,Bool.and_eq_true] at h;exact ih k h.1
 have hs:∀k,k<n→st k=true→q k=false∧aB T n st k=true:=by
  intro k hk h
  refine ⟨hsq n k (by rw [hst];exact h),?_⟩
  have h1:=(@gaI_fix T n false (fun k=>!q k)).1 k hk
  have e:=fun k hk=>@egI_ga T n (fun k=>!q k) n k hk
  rw [hst] at e
  rw [←e k hk,gaI] at h1
  rw [h] at h1
  simp only [Bool.and_eq_true,nxB,Bool.false_eq_true,if_false] at h1
  rw [aB_congr (q:=gaI T n false (fun k=>!q k) n) e]
  exact h1.2
 have hz0:∀i k,k<n→(bad k=true∨st k=true)→fuI T n true p q i k=false:=by
  intro i
  induction i with
  | zero =>
   intro k hk h
   rcases h with h | h
   ·rcases (hb k hk).1 h with h | h<;>exact h.1
   ·exact (hs k hk h).1
  | succ i ih =>
   intro k hk h
   rw [fuI]
   have go:∀m,m<n→(bad m=true∨st m=true)→(m:Int)∈T.getD k []→nxB T n true (fuI T n true p q i) k=false:=by
    intro m hm h1 h2
    simp only [nxB,if_true,Bool.not_eq_false']
    exact aB_iff.2 ⟨m,hm,by rw [ih m hm h1];rfl,h2⟩
   rcases h with h | h
   ·rcases (hb k hk).1 h with ⟨h1,h2⟩ | ⟨h1,h2⟩
    ·rw [h1,h2];rfl
    ·obtain ⟨m,hm,h3,h4⟩:=aB_iff.1 h2
     rw [h1,go m hm (.inl h3) h4];simp
   ·obtain ⟨h1,h2⟩:=hs k hk h
    obtain ⟨m,hm,h3,h4⟩:=aB_iff.1 h2
    rw [h1,go m hm (.inr h3) h4];simp
 have hy:∀k,k<n→fuI T n true p q n k=false→q k=false∧(p k=false∨∃m,m<n∧fuI T n true p q n m=false∧(m:Int)∈T.getD k []):=by
  intro k hk h
  have h1:=(@fuI_fix T n true p q).1 k hk
  rw [h,fuI] at h1
  simp only [Bool.or_eq_false_iff,Bool.and_eq_false_iff] at h1
  refine ⟨h1.1,?_⟩
  rcases h1.2 with h2 | h2
  ·exact .inl h2
  ·simp only [nxB,if_true,Bool.not_eq_false'] at h2
   obtain ⟨m,hm,h3,h4⟩:=aB_iff.1 h2
   exact .inr ⟨m,hm,by simpa using h3,h4⟩
 have hin:∀i k,k<n→fuI T n true p q n k=false→bad k=false→egI T n (fun k=>!q k) i k=true:=by
  intro i
  induction i with
  | zero=>intro k hk h _;simp only [egI];rw [(hy k hk h).1];rfl
  | succ i ih =>
   intro k hk h hbk
   rw [egI,ih k hk h hbk,Bool.true_and]
   obtain ⟨h1,h2⟩:=hy k hk h
   rcases h2 with h2 | ⟨m,hm,h3,h4⟩
   ·rw [(hb k hk).2 (.inl ⟨h1,h2⟩)] at hbk;cases hbk
   ·have hbm:bad m=false:=by
     cases hm2:bad m with
     | false=>rfl
     | true=>rw [(hb k hk).2 (.inr ⟨h1,aB_iff.2 ⟨m,hm,hm2,h4⟩⟩)] at hbk;cases hbk
    exact aB_iff.2 ⟨m,hm,ih m hm h3 hbm,h4⟩
 unfold auS
 rw [hbad,hst]
 cases hz:fuI T n true p q n k with
 | true =>
  cases hbk:bad k with
  | true=>rw [hz0 n k hk (.inl hbk)] at hz;cases hz
  | false =>
   cases hsk:st k with
   | true=>rw [hz0 n k hk (.inr hsk)] at hz;cases hz
   | false=>rfl
 | false =>
  cases hbk:bad k with
  | true=>rfl
  | false =>
   have:=hin n k hk hz hbk
   rw [hst] at this
   rw [this];rfl
noncomputable def trR (T:List (List Int)) (n:Nat) (LT:List (List Int)) (t:Tm) (P:Nat→Nat→Bool) (k:Nat):Bool :=
 if t.1=0 then true
 else if t.1=1 then decide ((LT.getD k []).getD t.2.1.toNat 0=1)
 else if t.1=2 then !P t.2.2.1.toNat k
 else if t.1=3 then P t.2.2.1.toNat k&&P t.2.2.2.toNat k
 else if t.1=4 then P t.2.2.1.toNat k||P t.2.2.2.toNat k
 else if t.1=5 then aB T n (P t.2.2.1.toNat) k
 else if t.1=6 then euI T n (P t.2.2.1.toNat) (P t.2.2.2.toNat) n k
 else if t.1=7 then egI T n (P t.2.2.1.toNat) n k
 else if t.1=8 then !aB T n (fun k=>!P t.2.2.1.toNat k) k
 else if t.1=9 then auS T n (P t.2.2.1.toNat) (P t.2.2.2.toNat) k
 else !(euI T n (fun _=>true) (fun k=>!P t.2.2.1.toNat k) n k)
noncomputable def trP (T:List (List Int)) (n:Nat) (LT:List (List Int)) (l:List Tm):Nat→Nat→Nat→Bool
 | 0,_,_=>false
 | i+1,a,k=>if a=i then trR T n LT (l.getD i zT) (trP T n LT l i) k else trP T n LT l i a k
def uO (t:Tm) (i n:Int):Prop :=
 (t.1=0∧t.2.1=0∧t.2.2.1=0∧t.2.2.2=0)∨(t.1=1∧0≤t.2.1∧t.2.1≤n - 1∧t.2.2.1=0∧t.2.2.2=0) ∨
 (2≤t.1∧t.1≤10∧t.2.1=0∧0≤t.2.2.1∧t.2.2.1≤i - 1∧0≤t.2.2.2∧t.2.2.2≤i - 1∧(t.2.2.2=t.2.2.1∨t.1=3∨t.1=4∨t.1=6∨t.1=9))
instance (t : Tm) (i n : Int) : Decidable (uO t i n) := by unfold uO; infer_instance
def uV (l:List Tm) (n:Int):Prop:=(0≤n∧n≤4)∧(1≤l.length∧l.length≤24)∧∀i,i<l.length→uO (l.getD i zT) i n
instance (l : List Tm) (n : Int) : Decidable (uV l n) := by unfold uV; infer_instance
theorem bld_0 {f:Nat→Bool} {n:Nat}:List.replicate n false=tab (fun j=>if j<0 then f j else false) n:=by
 rw [rep_tab];exact tab_congr fun k _=>by rw [if_neg (Nat.not_lt_zero k)]
theorem bld_s {f:Nat→Bool} {n i:Nat} {x:Bool} (h:x=f i):(tab (fun j=>if j<i then f j else false) n).set i x=tab (fun j=>if j<i+1 then f j else false) n:=by
 rw [tab_set']
 refine tab_congr fun k _=>?_
 by_cases e:k=i
 ·subst e;rw [if_pos rfl,if_pos (by omega),h]
 ·rw [if_neg e]
  by_cases e2:k<i
  ·rw [if_pos e2,if_pos (by omega)]
  ·rw [if_neg e2,if_neg (by omega)]
theorem bld_n {f:Nat→Bool} {n:Nat}:tab (fun j=>if j<n then f j else false) n=tab f n:=tab_congr fun k hk=>if_pos hk
theorem ovw_0 {f z:Nat→Bool} {n:Nat}:tab z n=tab (fun j=>if j<0 then f j else z j) n:=tab_congr fun k _=>by rw [if_neg (Nat.not_lt_zero k)]
theorem ovw_s {f z:Nat→Bool} {n i:Nat} {x:Bool} (h:x=f i):(tab (fun j=>if j<i then f j else z j) n).set i x=tab (fun j=>if j<i+1 then f j else z j) n:=by
 rw [tab_set']
 refine tab_congr fun k _=>?_
 by_cases e:k=i
 ·subst e;rw [if_pos rfl,if_pos (by omega),h]
 ·rw [if_neg e]
  by_cases e2:k<i
  ·rw [if_pos e2,if_pos (by omega)]
  ·rw [if_neg e2,if_neg (by omega)]
theorem ovw_n {f z:Nat→Bool} {n:Nat}:tab (fun j=>if j<n then f j else z j) n=tab f n:=tab_congr fun k hk=>if_pos hk
theorem C_l4Ahead_b (T:List (List Int)) (p:Nat→Bool) (n:Nat) (hn:n≤1048576) (ht:Tbl T n) (Q:List AV→Prop):mc.C f_spec_l4Ahead [⟨L (L I),T⟩,⟨L B,tab p n⟩] Q=Q [⟨L B,tab (aB T n p) n⟩]:=C_spec_l4Ahead T p n hn ht Q
theorem C_spec_l24Not (p:Nat→Bool) (n:Nat) (hn:n≤1048576) (Q:List AV→Prop):mc.C f_spec_l24Not [⟨L B,tab p n⟩] Q=Q [⟨L B,tab (fun k=>!p k) n⟩]:=by
 refine Mc.Ends.c (mc.ends F_spec_l24Not ?_)
 simp+contextual(maxSteps:=1000000)(disch:=omega)only[↓Sd,↓So,↓Sk,↓den,↓denA,Sa,Sb,Sc,Se,O1.d,O2.d,O3.d,cmI,arI,envOf,putN,↓reduceIte,Nat.reduceLT,Nat.reduceSub,Nat.reduceAdd,Int.reduceAdd,Int.reduceEq,Int.reduceLT,Int.reduceLE,arr_pos,arr_neg,tr_spec_l24Not,tab_len]
 refine mc.lp_for (List Bool) (fun i o=>[⟨L B,tab p n⟩,⟨I,(i:Int)⟩,⟨L B,o⟩]) (fun i o=>o=tab (fun j=>if j<i then !p j else false) n) n 0 (List.replicate n false) _ rfl (Nat.zero_le _) bld_0 ?_ ?_
 ·rintro i o hi rfl
  simp+contextual(maxSteps:=1000000)(disch:=omega)only[↓Sd,↓So,↓Sk,↓den,↓denA,Sa,Sb,Sc,Se,O1.d,O2.d,O3.d,cmI,arI,envOf,putN,↓reduceIte,Nat.reduceLT,Nat.reduceSub,Nat.reduceAdd,Int.reduceAdd,Int.reduceEq,Int.reduceLT,Int.reduceLE,arr_pos,arr_neg,tab_len,tab_get hi]
  exact bld_s rfl
 ·rintro o rfl
  simp+contextual(maxSteps:=1000000)(disch:=omega)only[↓Sd,↓So,↓Sk,↓den,↓denA,Sa,Sb,Sc,Se,O1.d,O2.d,O3.d,cmI,arI,envOf,putN,↓reduceIte,Nat.reduceLT,Nat.reduceSub,Nat.reduceAdd,Int.reduceAdd,Int.reduceEq,Int.reduceLT,Int.reduceLE,arr_pos,arr_neg,tab_len]
  exact bld_n
theorem C_impl_not (p:Nat→Bool) (n:Nat) (hn:n≤1048576) (Q:List AV→Prop):mc.C f_impl_not [⟨L B,tab p n⟩] Q=Q [⟨L B,tab (fun k=>!p k) n⟩]:=by
 refine Mc.Ends.c (mc.ends F_impl_not ?_)
 simp+contextual(maxSteps:=1000000)(disch:=omega)only[↓Sd,↓So,↓Sk,↓den,↓denA,Sa,Sb,Sc,Se,O1.d,O2.d,O3.d,cmI,arI,envOf,putN,↓reduceIte,Nat.reduceLT,Nat.reduceSub,Nat.reduceAdd,Int.reduceAdd,Int.reduceEq,Int.reduceLT,Int.reduceLE,arr_pos,arr_neg,tr_impl_not,tab_len]
 refine mc.lp_for (List Bool) (fun i o=>[⟨L B,tab p n⟩,⟨L B,tab p n⟩,⟨I,(n:Int)⟩,⟨I,(i:Int)⟩,⟨L B,o⟩]) (fun i o=>o=tab (fun j=>if j<i then !p j else false) n) n 0 (List.replicate n false) _ rfl (Nat.zero_le _) bld_0 ?_ ?_
 ·rintro i o hi rfl
  simp+contextual(maxSteps:=1000000)(disch:=omega)only[↓Sd,↓So,↓Sk,↓den,↓denA,Sa,Sb,Sc,Se,O1.d,O2.d,O3.d,cmI,arI,envOf,putN,↓reduceIte,Nat.reduceLT,Nat.reduceSub,Nat.reduceAdd,Int.reduceAdd,Int.reduceEq,Int.reduceLT,Int.reduceLE,arr_pos,arr_neg,tab_len,tab_get hi]
  exact bld_s rfl
 ·rintro o rfl
  simp+contextual(maxSteps:=1000000)(disch:=omega)only[↓Sd,↓So,↓Sk,↓den,↓denA,Sa,Sb,Sc,Se,O1.d,O2.d,O3.d,cmI,arI,envOf,putN,↓reduceIte,Nat.reduceLT,Nat.reduceSub,Nat.reduceAdd,Int.reduceAdd,Int.reduceEq,Int.reduceLT,Int.reduceLE,arr_pos,arr_neg,tab_len]
  exact bld_n
theorem C_spec_l24Both (p q:Nat→Bool) (n:Nat) (hn:n≤1048576) (Q:List AV→Prop):mc.C f_spec_l24Both [⟨L B,tab p n⟩,⟨L B,tab q n⟩] Q=Q [⟨L B,tab (fun k=>p k&&q k) n⟩]:=by
 refine Mc.Ends.c (mc.ends F_spec_l24Both ?_)
 simp+contextual(maxSteps:=1000000)(disch:=omega)only[↓Sd,↓So,↓Sk,↓den,↓denA,Sa,Sb,Sc,Se,O1.d,O2.d,O3.d,cmI,arI,envOf,putN,↓reduceIte,Nat.reduceLT,Nat.reduceSub,Nat.reduceAdd,Int.reduceAdd,Int.reduceEq,Int.reduceLT,Int.reduceLE,arr_pos,arr_neg,tr_spec_l24Both,tab_len]
 refine mc.lp_for (List Bool) (fun i o=>[⟨L B,tab p n⟩,⟨L B,tab q n⟩,⟨I,(i:Int)⟩,⟨L B,o⟩]) (fun i o=>o=tab (fun j=>if j<i then p j&&q j else false) n) n 0 (List.replicate n false) _ rfl (Nat.zero_le _) bld_0 ?_ ?_
 ·rintro i o hi rfl
  simp+contextual(maxSteps:=1000000)(disch:=omega)only[↓Sd,↓So,↓Sk,↓den,↓denA,Sa,Sb,Sc,Se,O1.d,O2.d,O3.d,cmI,arI,envOf,putN,↓reduceIte,Nat.reduceLT,Nat.reduceSub,Nat.reduceAdd,Int.reduceAdd,Int.reduceEq,Int.reduceLT,Int.reduceLE,arr_pos,arr_neg,↓wpJoin,tab_len,tab_get hi]
  refine ⟨fun g=>bld_s ?_,fun g=>bld_s ?_⟩<;>simp [g]
 ·rintro o rfl
  simp+contextual(maxSteps:=1000000)(disch:=omega)only[↓Sd,↓So,↓Sk,↓den,↓denA,Sa,Sb,Sc,Se,O1.d,O2.d,O3.d,cmI,arI,envOf,putN,↓reduceIte,Nat.reduceLT,Nat.reduceSub,Nat.reduceAdd,Int.reduceAdd,Int.reduceEq,Int.reduceLT,Int.reduceLE,arr_pos,arr_neg,tab_len]
  exact bld_n
theorem C_spec_l24Until (T:List (List Int)) (p q:Nat→Bool) (n:Nat) (hn:n≤1048576) (ht:Tbl T n) (Q:List AV→Prop):mc.C f_spec_l24Until [⟨L (L I),T⟩,⟨L B,tab p n⟩,⟨L B,tab q n⟩] Q=Q [⟨L B,tab (euI T n p q n) n⟩]:=by
 refine Mc.Ends.c (mc.ends F_spec_l24Until ?_)
 simp+contextual(maxSteps:=1000000)(disch:=omega)only[↓Sd,↓So,↓Sk,↓den,↓denA,Sa,Sb,Sc,Se,O1.d,O2.d,O3.d,cmI,arI,envOf,putN,↓reduceIte,Nat.reduceLT,Nat.reduceSub,Nat.reduceAdd,Int.reduceAdd,Int.reduceEq,Int.reduceLT,Int.reduceLE,arr_pos,arr_neg,tr_spec_l24Until,tab_len]
 refine mc.lp_for (List Bool) (fun i o=>[⟨L (L I),T⟩,⟨L B,tab p n⟩,⟨L B,tab q n⟩,⟨I,(i:Int)⟩,⟨L B,o⟩]) (fun i o=>o=tab (fun j=>if j<i then q j else false) n) n 0 (List.replicate n false) _ rfl (Nat.zero_le _) bld_0 ?_ ?_
 ·rintro i o hi rfl
  simp+contextual(maxSteps:=1000000)(disch:=omega)only[↓Sd,↓So,↓Sk,↓den,↓denA,Sa,Sb,Sc,Se,O1.d,O2.d,O3.d,cmI,arI,envOf,putN,↓reduceIte,Nat.reduceLT,Nat.reduceSub,Nat.reduceAdd,Int.reduceAdd,Int.reduceEq,Int.reduceLT,Int.reduceLE,arr_pos,arr_neg,tab_len,tab_get hi]
  exact bld_s rfl
 rintro o rfl
 rw [bld_n]
 simp+contextual(maxSteps:=1000000)(disch:=omega)only[↓Sd,↓So,↓Sk,↓den,↓denA,Sa,Sb,Sc,Se,O1.d,O2.d,O3.d,cmI,arI,envOf,putN,↓reduceIte,Nat.reduceLT,Nat.reduceSub,Nat.reduceAdd,Int.reduceAdd,Int.reduceEq,Int.reduceLT,Int.reduceLE,arr_pos,arr_neg,tab_len]
 refine mc.lp_for (List Bool) (fun i o=>[⟨L (L I),T⟩,⟨L B,tab p n⟩,⟨I,(i:Int)⟩,⟨L B,o⟩]) (fun i o=>o=tab (euI T n p q i) n) n 0 (tab q n) _ rfl (Nat.zero_le _) rfl ?_ ?_
 ·rintro i o hi rfl
  have hz1:euI T n p q (i+1)=fun k=>euI T n p q i k||(p k&&aB T n (euI T n p q i) k):=funext fun k=>rfl
  rw [hz1]
  generalize euI T n p q i=z
  simp+contextual(maxSteps:=1000000)(disch:=omega)only[↓Sd,↓So,↓Sk,↓den,↓denA,Sa,Sb,Sc,Se,O1.d,O2.d,O3.d,cmI,arI,envOf,putN,↓reduceIte,Nat.reduceLT,Nat.reduceSub,Nat.reduceAdd,Int.reduceAdd,Int.reduceEq,Int.reduceLT,Int.reduceLE,arr_pos,arr_neg,tab_len,C_l4Ahead_b T z n hn ht]
  refine mc.lp_for (List Bool) (fun j o=>[⟨L (L I),T⟩,⟨L B,tab p n⟩,⟨I,(i:Int)⟩,⟨I,(j:Int)⟩,⟨L B,o⟩,⟨L B,tab (aB T n z) n⟩]) (fun j o=>o=tab (fun k=>if k<j then (z k||(p k&&aB T n z k)) else z k) n) n 0 (tab z n) _ rfl (Nat.zero_le _) ovw_0 ?_ ?_
  ·rintro j o hj rfl
   simp+contextual(maxSteps:=1000000)(disch:=omega)only[↓Sd,↓So,↓Sk,↓den,↓denA,Sa,Sb,Sc,Se,O1.d,O2.d,O3.d,cmI,arI,envOf,putN,↓reduceIte,Nat.reduceLT,Nat.reduceSub,Nat.reduceAdd,Int.reduceAdd,Int.reduceEq,Int.reduceLT,Int.reduceLE,arr_pos,arr_neg,↓wpJoin,tab_len,tab_get hj,Nat.lt_irrefl]
   refine ⟨fun g=>ovw_s ?_,fun g=>⟨fun g2=>ovw_s ?_,fun g2=>ovw_s ?_⟩⟩
   ·rw [g];rfl
   ·rw [g2];cases hz:z j with
    | true=>exact absurd hz g
    | false=>rfl
   ·cases hz:z j with
    | true=>exact absurd hz g
    | false=>cases hp:p j with
     | true=>exact absurd hp g2
     | false=>rfl
  ·rintro o rfl
   rw [ovw_n]
   simp+contextual(maxSteps:=1000000)(disch:=omega)only[↓Sd,↓So,↓Sk,↓den,↓denA,Sa,Sb,Sc,Se,O1.d,O2.d,O3.d,cmI,arI,envOf,putN,↓reduceIte,Nat.reduceLT,Nat.reduceSub,Nat.reduceAdd,Int.reduceAdd,Int.reduceEq,Int.reduceLT,Int.reduceLE,arr_pos,arr_neg,tab_len]
 ·rintro o rfl
  simp+contextual(maxSteps:=1000000)(disch:=omega)only[↓Sd,↓So,↓Sk,↓den,↓denA,Sa,Sb,Sc,Se,O1.d,O2.d,O3.d,cmI,arI,envOf,putN,↓reduceIte,Nat.reduceLT,Nat.reduceSub,Nat.reduceAdd,Int.reduceAdd,Int.reduceEq,Int.reduceLT,Int.reduceLE,arr_pos,arr_neg,tab_len]
theorem C_spec_l24Stay (T:List (List Int)) (p:Nat→Bool) (n:Nat) (hn:n≤1048576) (ht:Tbl T n) (Q:List AV→Prop):mc.C f_spec_l24Stay [⟨L (L I),T⟩,⟨L B,tab p n⟩] Q=Q [⟨L B,tab (egI T n p n) n⟩]:=by
 refine Mc.Ends.c (mc.ends F_spec_l24Stay ?_)
 simp+contextual(maxSteps:=1000000)(disch:=omega)only[↓Sd,↓So,↓Sk,↓den,↓denA,Sa,Sb,Sc,Se,O1.d,O2.d,O3.d,cmI,arI,envOf,putN,↓reduceIte,Nat.reduceLT,Nat.reduceSub,Nat.reduceAdd,Int.reduceAdd,Int.reduceEq,Int.reduceLT,Int.reduceLE,arr_pos,arr_neg,tr_spec_l24Stay,tab_len]
 refine mc.lp_for (List Bool) (fun i o=>[⟨L (L I),T⟩,⟨L B,tab p n⟩,⟨I,(i:Int)⟩,⟨L B,o⟩]) (fun i o=>o=tab (fun j=>if j<i then p j else false) n) n 0 (List.replicate n false) _ rfl (Nat.zero_le _) bld_0 ?_ ?_
 ·rintro i o hi rfl
  simp+contextual(maxSteps:=1000000)(disch:=omega)only[↓Sd,↓So,↓Sk,↓den,↓denA,Sa,Sb,Sc,Se,O1.d,O2.d,O3.d,cmI,arI,envOf,putN,↓reduceIte,Nat.reduceLT,Nat.reduceSub,Nat.reduceAdd,Int.reduceAdd,Int.reduceEq,Int.reduceLT,Int.reduceLE,arr_pos,arr_neg,tab_len,tab_get hi]
  exact bld_s rfl
 rintro o rfl
 rw [bld_n]
 simp+contextual(maxSteps:=1000000)(disch:=omega)only[↓Sd,↓So,↓Sk,↓den,↓denA,Sa,Sb,Sc,Se,O1.d,O2.d,O3.d,cmI,arI,envOf,putN,↓reduceIte,Nat.reduceLT,Nat.reduceSub,Nat.reduceAdd,Int.reduceAdd,Int.reduceEq,Int.reduceLT,Int.reduceLE,arr_pos,arr_neg,tab_len]
 refine mc.lp_for (List Bool) (fun i o=>[⟨L (L I),T⟩,⟨L B,tab p n⟩,⟨I,(i:Int)⟩,⟨L B,o⟩]) (fun i o=>o=tab (egI T n p i) n) n 0 (tab p n) _ rfl (Nat.zero_le _) rfl ?_ ?_
 ·rintro i o hi rfl
  have hz1:egI T n p (i+1)=fun k=>egI T n p i k&&aB T n (egI T n p i) k:=funext fun k=>rfl
  rw [hz1]
  generalize egI T n p i=z
  simp+contextual(maxSteps:=1000000)(disch:=omega)only[↓Sd,↓So,↓Sk,↓den,↓denA,Sa,Sb,Sc,Se,O1.d,O2.d,O3.d,cmI,arI,envOf,putN,↓reduceIte,Nat.reduceLT,Nat.reduceSub,Nat.reduceAdd,Int.reduceAdd,Int.reduceEq,Int.reduceLT,Int.reduceLE,arr_pos,arr_neg,tab_len,C_l4Ahead_b T z n hn ht]
  refine mc.lp_for (List Bool) (fun j o=>[⟨L (L I),T⟩,⟨L B,tab p n⟩,⟨I,(i:Int)⟩,⟨I,(j:Int)⟩,⟨L B,o⟩,⟨L B,tab (aB T n z) n⟩]) (fun j o=>o=tab (fun k=>if k<j then (z k&&aB T n z k) else z k) n) n 0 (tab z n) _ rfl (Nat.zero_le _) ovw_0 ?_ ?_
  ·rintro j o hj rfl
   simp+contextual(maxSteps:=1000000)(disch:=omega)only[↓Sd,↓So,↓Sk,↓den,↓denA,Sa,Sb,Sc,Se,O1.d,O2.d,O3.d,cmI,arI,envOf,putN,↓reduceIte,Nat.reduceLT,Nat.reduceSub,Nat.reduceAdd,Int.reduceAdd,Int.reduceEq,Int.reduceLT,Int.reduceLE,arr_pos,arr_neg,↓wpJoin,tab_len,tab_get hj,Nat.lt_irrefl]
   refine ⟨fun g=>ovw_s ?_,fun g=>ovw_s ?_⟩
   ·rw [g];rfl
   ·cases hz:z j with
    | true=>exact absurd hz g
    | false=>rfl
  ·rintro o rfl
   rw [ovw_n]
   simp+contextual(maxSteps:=1000000)(disch:=omega)only[↓Sd,↓So,↓Sk,↓den,↓denA,Sa,Sb,Sc,Se,O1.d,O2.d,O3.d,cmI,arI,envOf,putN,↓reduceIte,Nat.reduceLT,Nat.reduceSub,Nat.reduceAdd,Int.reduceAdd,Int.reduceEq,Int.reduceLT,Int.reduceLE,arr_pos,arr_neg,tab_len]
 ·rintro o rfl
  simp+contextual(maxSteps:=1000000)(disch:=omega)only[↓Sd,↓So,↓Sk,↓den,↓denA,Sa,Sb,Sc,Se,O1.d,O2.d,O3.d,cmI,arI,envOf,putN,↓reduceIte,Nat.reduceLT,Nat.reduceSub,Nat.reduceAdd,Int.reduceAdd,Int.reduceEq,Int.reduceLT,Int.reduceLE,arr_pos,arr_neg,tab_len]
theorem C_spec_l24All (T:List (List Int)) (p q:Nat→Bool) (n:Nat) (hn:n≤1048576) (ht:Tbl T n) (Q:List AV→Prop):mc.C f_spec_l24All [⟨L (L I),T⟩,⟨L B,tab p n⟩,⟨L B,tab q n⟩] Q=Q [⟨L B,tab (auS T n p q) n⟩]:=by
 refine Mc.Ends.c (mc.ends F_spec_l24All ?_)
 have e:auS T n p q=fun k=>!(euI T n (fun k=>!q k) (fun k=>!q k&&!p k) n k)&&!(egI T n (fun k=>!q k) n k):=funext fun k=>rfl
 rw [e]
 simp+contextual(maxSteps:=1000000)(disch:=omega)only[↓Sd,↓So,↓Sk,↓den,↓denA,Sa,Sb,Sc,Se,O1.d,O2.d,O3.d,cmI,arI,envOf,putN,↓reduceIte,Nat.reduceLT,Nat.reduceSub,Nat.reduceAdd,Int.reduceAdd,Int.reduceEq,Int.reduceLT,Int.reduceLE,arr_pos,arr_neg,tr_spec_l24All,C_spec_l24Not q n hn,C_spec_l24Not p n hn,C_spec_l24Both (fun k=>!q k) (fun k=>!p k) n hn,C_spec_l24Until T (fun k=>!q k) (fun k=>!q k&&!p k) n hn ht,C_spec_l24Stay T (fun k=>!q k) n hn ht,tab_len]
 generalize euI T n (fun k=>!q k) (fun k=>!q k&&!p k) n=x
 generalize egI T n (fun k=>!q k) n=y
 refine mc.lp_for (List Bool) (fun i o=>[⟨L B,tab p n⟩,⟨I,(i:Int)⟩,⟨L B,tab x n⟩,⟨L B,tab y n⟩,⟨L B,o⟩]) (fun i o=>o=tab (fun j=>if j<i then (!x j&&!y j) else false) n) n 0 (List.replicate n false) _ rfl (Nat.zero_le _) bld_0 ?_ ?_
 ·rintro i o hi rfl
  simp+contextual(maxSteps:=1000000)(disch:=omega)only[↓Sd,↓So,↓Sk,↓den,↓denA,Sa,Sb,Sc,Se,O1.d,O2.d,O3.d,cmI,arI,envOf,putN,↓reduceIte,Nat.reduceLT,Nat.reduceSub,Nat.reduceAdd,Int.reduceAdd,Int.reduceEq,Int.reduceLT,Int.reduceLE,arr_pos,arr_neg,↓wpJoin,tab_len,tab_get hi]
  refine ⟨fun g=>bld_s ?_,fun g=>bld_s ?_⟩
  ·cases hx:x i with
   | true=>simp [hx] at g
   | false=>rfl
  ·cases hx:x i with
   | true=>rfl
   | false=>simp [hx] at g
 ·rintro o rfl
  simp+contextual(maxSteps:=1000000)(disch:=omega)only[↓Sd,↓So,↓Sk,↓den,↓denA,Sa,Sb,Sc,Se,O1.d,O2.d,O3.d,cmI,arI,envOf,putN,↓reduceIte,Nat.reduceLT,Nat.reduceSub,Nat.reduceAdd,Int.reduceAdd,Int.reduceEq,Int.reduceLT,Int.reduceLE,arr_pos,arr_neg,tab_len]
  exact bld_n
theorem C_slices_Equal_b (p q:Nat→Bool) (n:Nat) (hn:n≤1048576) (Q:List AV→Prop):mc.C f_slices_Equal_Sbool_bool [⟨L B,tab p n⟩,⟨L B,tab q n⟩] Q=Q [⟨B,decide (∀k,k<n→p k=q k)⟩]:=by
 refine Mc.Ends.c (mc.ends F_slices_Equal_Sbool_bool ?_)
 generalize hK:decide (∀k,k<n→p k=q k)=K
 simp+contextual(maxSteps:=1000000)(disch:=omega)only[↓Sd,↓So,↓Sk,↓den,↓denA,Sa,Sb,Sc,Se,O1.d,O2.d,O3.d,cmI,arI,envOf,putN,↓reduceIte,Nat.reduceLT,Nat.reduceSub,Nat.reduceAdd,Int.reduceAdd,Int.reduceEq,Int.reduceLT,Int.reduceLE,arr_pos,arr_neg,tr_slices_Equal_Sbool_bool,tab_len]
 refine lp_all (fun i=>[⟨L B,tab p n⟩,⟨L B,tab q n⟩,⟨I,(n:Int)⟩,⟨I,(i:Int)⟩]) (fun i=>p i=q i) n _ rfl ?_ ?_
 ·intro i hi
  simp+contextual(maxSteps:=1000000)(disch:=omega)only[↓Sd,↓So,↓Sk,↓den,↓denA,Sa,Sb,Sc,Se,O1.d,O2.d,O3.d,cmI,arI,envOf,putN,↓reduceIte,Nat.reduceLT,Nat.reduceSub,Nat.reduceAdd,Int.reduceAdd,Int.reduceEq,Int.reduceLT,Int.reduceLE,arr_pos,arr_neg,tab_len,tab_get hi]
  intro g
  rw [←hK,decide_eq_false fun h=>g (h i hi)]
 ·intro h
  simp+contextual(maxSteps:=1000000)(disch:=omega)only[↓Sd,↓So,↓Sk,↓den,↓denA,Sa,Sb,Sc,Se,O1.d,O2.d,O3.d,cmI,arI,envOf,putN,↓reduceIte,Nat.reduceLT,Nat.reduceSub,Nat.reduceAdd,Int.reduceAdd,Int.reduceEq,Int.reduceLT,Int.reduceLE,arr_pos,arr_neg,tab_len]
  rw [←hK,decide_eq_true h]
theorem C_impl_some (T:List (List Int)) (p:Nat→Bool) (n:Nat) (hn:n≤1048576) (ht:Tbl T n) (Q:List AV→Prop):mc.C f_impl_some [⟨L (L I),T⟩,⟨L B,tab p n⟩] Q=Q [⟨L B,tab (aB T n p) n⟩]:=by
 have hT:=ht.1
 refine Mc.Ends.c (mc.ends F_impl_some ?_)
 simp+contextual(maxSteps:=1000000)(disch:=omega)only[↓Sd,↓So,↓Sk,↓den,↓denA,Sa,Sb,Sc,Se,O1.d,O2.d,O3.d,cmI,arI,envOf,putN,↓reduceIte,Nat.reduceLT,Nat.reduceSub,Nat.reduceAdd,Int.reduceAdd,Int.reduceEq,Int.reduceLT,Int.reduceLE,arr_pos,arr_neg,tr_impl_some,hT]
 refine mc.lp_for (List Bool) (fun i o=>[⟨L (L I),T⟩,⟨I,(n:Int)⟩,⟨I,(i:Int)⟩,⟨L B,tab p n⟩,⟨L B,o⟩]) (fun i o=>o=tab (fun j=>if j<i then aB T n p j else false) n) n 0 (List.replicate n false) _ rfl (Nat.zero_le _) bld_0 ?_ ?_
 ·rintro i o hi rfl
  have hrow:=ht.row (i:=i)
  have hrl:(T.getD i []).length≤1048576:=(ht.2 _ (getD_mem (by omega))).1
  have hset:=@bld_s (aB T n p) n i
  generalize hrw:T.getD i []=row at *
  generalize hO:tab (fun j=>if j<i then aB T n p j else false) n=O at *
  have hOl:O.length=n:=by rw [←hO,tab_len]
  simp+contextual(maxSteps:=1000000)(disch:=omega)only[↓Sd,↓So,↓Sk,↓den,↓denA,Sa,Sb,Sc,Se,O1.d,O2.d,O3.d,cmI,arI,envOf,putN,↓reduceIte,Nat.reduceLT,Nat.reduceSub,Nat.reduceAdd,Int.reduceAdd,Int.reduceEq,Int.reduceLT,Int.reduceLE,arr_pos,arr_neg,hT]
  refine mc.wp_join (fun us=>us=[⟨L (L I),T⟩,⟨I,(n:Int)⟩,⟨I,(i:Int)⟩,⟨L B,tab p n⟩,⟨L B,O.set i (aB T n p i)⟩]) ?_ ?_
  ·simp+contextual(maxSteps:=1000000)(disch:=omega)only[↓Sd,↓So,↓Sk,↓den,↓denA,Sa,Sb,Sc,Se,O1.d,O2.d,O3.d,cmI,arI,envOf,putN,↓reduceIte,Nat.reduceLT,Nat.reduceSub,Nat.reduceAdd,Int.reduceAdd,Int.reduceEq,Int.reduceLT,Int.reduceLE,arr_pos,arr_neg,hT,hrw]
   refine lp_all (fun j=>[⟨L I,row⟩,⟨I,(row.length:Int)⟩,⟨I,(j:Int)⟩,⟨L (L I),T⟩,⟨I,(n:Int)⟩,⟨I,(i:Int)⟩,⟨I,(i:Int)⟩,⟨L B,tab p n⟩,⟨L B,O⟩]) (fun j=>p (row.getD j 0).toNat=false) row.length _ rfl ?_ ?_
   ·intro j hj
    have hy:=hrow _ (getD_mem (d:=0) hj)
    obtain ⟨y,hye⟩:∃y:Nat,row.getD j 0=y:=⟨(row.getD j 0).toNat,by omega⟩
    have hyn:y<n:=by omega
    simp+contextual(maxSteps:=1000000)(disch:=omega)only[↓Sd,↓So,↓Sk,↓den,↓denA,Sa,Sb,Sc,Se,O1.d,O2.d,O3.d,cmI,arI,envOf,putN,↓reduceIte,Nat.reduceLT,Nat.reduceSub,Nat.reduceAdd,Int.reduceAdd,Int.reduceEq,Int.reduceLT,Int.reduceLE,arr_pos,arr_neg,hye,tab_len,tab_get hyn,hOl]
    intro g
    have:aB T n p i=true:=aB_iff.2 ⟨y,hyn,g,by rw [hrw,←hye];exact getD_mem hj⟩
    rw [this,decide_eq_true (show (j:Int)≥0 by omega)]
   ·intro h
    have:aB T n p i=false:=by
     cases ha:aB T n p i with
     | false=>rfl
     | true =>
      obtain ⟨b,h1,h2,h3⟩:=aB_iff.1 ha
      rw [hrw] at h3
      obtain ⟨j,hj,he⟩:=List.getElem_of_mem h3
      have:=h j hj
      rw [getD_lt hj,he,Int.toNat_natCast,h2] at this
      cases this
    rw [this]
    simp+contextual(maxSteps:=1000000)(disch:=omega)only[↓Sd,↓So,↓Sk,↓den,↓denA,Sa,Sb,Sc,Se,O1.d,O2.d,O3.d,cmI,arI,envOf,putN,↓reduceIte,Nat.reduceLT,Nat.reduceSub,Nat.reduceAdd,Int.reduceAdd,Int.reduceEq,Int.reduceLT,Int.reduceLE,arr_pos,arr_neg,hOl]
    rfl
  ·rintro _ rfl
   simp+contextual(maxSteps:=1000000)(disch:=omega)only[↓Sd,↓So,↓Sk,↓den,↓denA,Sa,Sb,Sc,Se,O1.d,O2.d,O3.d,cmI,arI,envOf,putN,↓reduceIte,Nat.reduceLT,Nat.reduceSub,Nat.reduceAdd,Int.reduceAdd,Int.reduceEq,Int.reduceLT,Int.reduceLE,arr_pos,arr_neg,]
   exact hset rfl
 ·rintro o rfl
  simp+contextual(maxSteps:=1000000)(disch:=omega)only[↓Sd,↓So,↓Sk,↓den,↓denA,Sa,Sb,Sc,Se,O1.d,O2.d,O3.d,cmI,arI,envOf,putN,↓reduceIte,Nat.reduceLT,Nat.reduceSub,Nat.reduceAdd,Int.reduceAdd,Int.reduceEq,Int.reduceLT,Int.reduceLE,arr_pos,arr_neg,hT]
  exact bld_n
theorem C_spec_l24One (n:Int) (Q:List AV→Prop):mc.C f_spec_l24One [⟨I,n⟩] Q=Q [⟨B,decide (n=2∨n=5∨n=7∨n=8∨n=10)⟩]:=by
 refine Mc.Ends.c (mc.ends F_spec_l24One ?_)
 generalize hK:decide (n=2∨n=5∨n=7∨n=8∨n=10)=K
 simp+contextual(maxSteps:=1000000)(disch:=omega)only[↓Sd,↓So,↓Sk,↓den,↓denA,Sa,Sb,Sc,Se,O1.d,O2.d,O3.d,cmI,arI,envOf,putN,↓reduceIte,Nat.reduceLT,Nat.reduceSub,Nat.reduceAdd,Int.reduceAdd,Int.reduceEq,Int.reduceLT,Int.reduceLE,arr_pos,arr_neg,tr_spec_l24One]
 have e:∀{x y:Int},(x==y)=decide (x=y):=fun {x y}=>by rw [beq_dB,dB_eq]
 simp only [e]
 rw [←hK]
 repeat' first | apply And.intro | intro _
 all_goals first
  | (exact (decide_eq_true (by omega)).symm)
  | (exact decide_eq_decide.2 (by omega))
theorem C_impl_treeParts (n:Int) (Q:List AV→Prop):mc.C f_impl_treeParts [⟨I,n⟩] Q=Q [⟨I,if n=3∨n=4∨n=6∨n=9 then 2 else if n=0∨n=1 then 0 else 1⟩]:=by
 refine Mc.Ends.c (mc.ends F_impl_treeParts ?_)
 generalize hK:(if n=3∨n=4∨n=6∨n=9 then (2:Int) else if n=0∨n=1 then 0 else 1)=K
 simp+contextual(maxSteps:=1000000)(disch:=omega)only[↓Sd,↓So,↓Sk,↓den,↓denA,Sa,Sb,Sc,Se,O1.d,O2.d,O3.d,cmI,arI,envOf,putN,↓reduceIte,Nat.reduceLT,Nat.reduceSub,Nat.reduceAdd,Int.reduceAdd,Int.reduceEq,Int.reduceLT,Int.reduceLE,arr_pos,arr_neg,tr_impl_treeParts]
 by_cases h1:n=3∨n=4∨n=6∨n=9
 ·rw [if_pos h1] at hK
  subst hK
  repeat' first | apply And.intro | intro _
  all_goals first
   | rfl
   | omega
 ·rw [if_neg h1] at hK
  by_cases h2:n=0∨n=1
  ·rw [if_pos h2] at hK
   subst hK
   repeat' first | apply And.intro | intro _
   all_goals first
    | rfl
    | omega
  ·rw [if_neg h2] at hK
   subst hK
   repeat' first | apply And.intro | intro _
   all_goals first
    | rfl
    | omega
end Go.Proofs.YtifkpliahhodoaaGreat
namespace Go.Proofs.YtifkpliahhodoaaGreat
open Go Go.Sm Go.Sm.Q
set_option linter.unusedSimpArgs false
set_option linter.unusedVariables false
theorem C_spec_l24Step (t:Tm) (i n:Int) (hi:0≤i∧i≤100) (hn:0≤n∧n≤4) (Q:List AV→Prop):mc.C f_spec_l24Step [⟨I,t.1⟩,⟨I,t.2.1⟩,⟨I,t.2.2.1⟩,⟨I,t.2.2.2⟩,⟨I,i⟩,⟨I,n⟩] Q=Q [⟨B,decide (uO t i n)⟩]:=by
 refine Mc.Ends.c (mc.ends F_spec_l24Step ?_)
 generalize hK:decide (uO t i n)=K
 obtain ⟨o,m,a,b⟩:=t
 simp+contextual(maxSteps:=1000000)(disch:=omega)only[↓Sd,↓So,↓Sk,↓den,↓denA,Sa,Sb,Sc,Se,O1.d,O2.d,O3.d,cmI,arI,envOf,putN,↓reduceIte,Nat.reduceLT,Nat.reduceSub,Nat.reduceAdd,Int.reduceAdd,Int.reduceEq,Int.reduceLT,Int.reduceLE,arr_pos,arr_neg,tr_spec_l24Step,C_spec_l1In,C_spec_l24One]
 have e:∀{x y:Int},(x==y)=decide (x=y):=fun {x y}=>by rw [beq_dB,dB_eq]
 simp only [e]
 unfold uO at hK
 simp only at hK
 cases K with
 | true =>
  have hp:=of_decide_eq_true hK
  simp only [decide_eq_true_eq,Bool.false_eq_true]
  repeat' first | apply And.intro | intro _
  all_goals first
   | trivial
   | omega
 | false =>
  have hp:=of_decide_eq_false hK
  simp only [decide_eq_false_iff_not,Bool.true_eq_false]
  repeat' first | apply And.intro | intro _
  all_goals first
   | trivial
   | omega
theorem C_spec_TreesValid (l:List Tm) (n:Int) (hl:Few l) (Q:List AV→Prop):mc.C f_spec_TreesValid [⟨L T4,l⟩,⟨I,n⟩] Q=Q [⟨B,decide (uV l n)⟩]:=by
 refine Mc.Ends.c (mc.ends F_spec_TreesValid ?_)
 generalize hK:decide (uV l n)=K
 simp+contextual(maxSteps:=1000000)(disch:=omega)only[↓Sd,↓So,↓Sk,↓den,↓denA,Sa,Sb,Sc,Se,O1.d,O2.d,O3.d,cmI,arI,envOf,putN,↓reduceIte,Nat.reduceLT,Nat.reduceSub,Nat.reduceAdd,Int.reduceAdd,Int.reduceEq,Int.reduceLT,Int.reduceLE,arr_pos,arr_neg,tr_spec_TreesValid,C_spec_l1In]
 refine ⟨fun g=>?_,fun g=>⟨fun g2=>?_,fun g2=>?_⟩⟩
 ·rw [←hK,decide_eq_false fun h=>g h.1]
 ·rw [←hK,decide_eq_false fun h=>g2 (by have:=h.2.1;omega)]
 ·refine lp_all (fun i=>[⟨L T4,l⟩,⟨I,n⟩,⟨I,(i:Int)⟩]) (fun i=>uO (l.getD i zT) i n) l.length _ rfl ?_ ?_
  ·intro i hi
   simp+contextual(maxSteps:=1000000)(disch:=omega)only[↓Sd,↓So,↓Sk,↓den,↓denA,Sa,Sb,Sc,Se,O1.d,O2.d,O3.d,cmI,arI,envOf,putN,↓reduceIte,Nat.reduceLT,Nat.reduceSub,Nat.reduceAdd,Int.reduceAdd,Int.reduceEq,Int.reduceLT,Int.reduceLE,arr_pos,arr_neg,C_spec_l24Step (l.getD i (0,0,0,0)) (i:Int) n (by omega) g]
   exact fun h=>by rw [←hK,decide_eq_false fun g=>h (g.2.2 i hi)]
  ·intro h
   simp+contextual(maxSteps:=1000000)(disch:=omega)only[↓Sd,↓So,↓Sk,↓den,↓denA,Sa,Sb,Sc,Se,O1.d,O2.d,O3.d,cmI,arI,envOf,putN,↓reduceIte,Nat.reduceLT,Nat.reduceSub,Nat.reduceAdd,Int.reduceAdd,Int.reduceEq,Int.reduceLT,Int.reduceLE,arr_pos,arr_neg,]
   rw [←hK,decide_eq_true (p:=uV l n) ⟨g,by omega,h⟩]
theorem C_impl_TreesValid (l:List Tm) (n:Int) (hl:Few l) (Q:List AV→Prop):mc.C f_impl_TreesValid [⟨L T4,l⟩,⟨I,n⟩] Q=Q [⟨B,decide (uV l n)⟩]:=by
 refine Mc.Ends.c (mc.ends F_impl_TreesValid ?_)
 generalize hK:decide (uV l n)=K
 simp+contextual(maxSteps:=1000000)(disch:=omega)only[↓Sd,↓So,↓Sk,↓den,↓denA,Sa,Sb,Sc,Se,O1.d,O2.d,O3.d,cmI,arI,envOf,putN,↓reduceIte,Nat.reduceLT,Nat.reduceSub,Nat.reduceAdd,Int.reduceAdd,Int.reduceEq,Int.reduceLT,Int.reduceLE,arr_pos,arr_neg,tr_impl_TreesValid,C_impl_in]
 refine ⟨fun g=>?_,fun g=>⟨fun g2=>?_,fun g2=>?_⟩⟩
 ·rw [←hK,decide_eq_false fun h=>g h.1]
 ·rw [←hK,decide_eq_false fun h=>g2 (by have:=h.2.1;omega)]
 ·refine lp_all (fun i=>[⟨I,n⟩,⟨L T4,l⟩,⟨I,(l.length:Int)⟩,⟨I,(i:Int)⟩]) (fun i=>uO (l.getD i zT) i n) l.length _ rfl ?_ ?_
  ·intro i hi
   have hno:¬uO (l.getD i zT) i n→false=K:=fun h=>by rw [←hK,decide_eq_false fun g=>h (g.2.2 i hi)]
   simp+contextual(maxSteps:=1000000)(disch:=omega)only[↓Sd,↓So,↓Sk,↓den,↓denA,Sa,Sb,Sc,Se,O1.d,O2.d,O3.d,cmI,arI,envOf,putN,↓reduceIte,Nat.reduceLT,Nat.reduceSub,Nat.reduceAdd,Int.reduceAdd,Int.reduceEq,Int.reduceLT,Int.reduceLE,arr_pos,arr_neg,C_impl_in]
   refine mc.wp_join (fun us=>us=[⟨I,n⟩,⟨B,decide (uO (l.getD i zT) i n)⟩,⟨L T4,l⟩,⟨I,(l.length:Int)⟩,⟨I,(i:Int)⟩]) ?_ ?_
   ·generalize hq:decide (uO (l.getD i zT) i n)=q
    obtain ⟨t,ht⟩:∃t,l.getD i (0,0,0,0)=t:=⟨_,rfl⟩
    have hq':decide (uO t i n)=q:=by rw [←ht];exact hq
    clear hq hno
    simp+contextual(maxSteps:=1000000)(disch:=omega)only[↓Sd,↓So,↓Sk,↓den,↓denA,Sa,Sb,Sc,Se,O1.d,O2.d,O3.d,cmI,arI,envOf,putN,↓reduceIte,Nat.reduceLT,Nat.reduceSub,Nat.reduceAdd,Int.reduceAdd,Int.reduceEq,Int.reduceLT,Int.reduceLE,arr_pos,arr_neg,C_impl_in,C_impl_treeParts,ht]
    clear ht
    obtain ⟨o,m,a,b⟩:=t
    have hq:=hq'
    clear hq'
    simp only
    have e:∀{x y:Int},(x==y)=decide (x=y):=fun {x y}=>by rw [beq_dB,dB_eq]
    simp only [e]
    unfold uO at hq
    simp only at hq
    have hpt:∀{P:Prop} [Decidable P] {Q:Prop} [Decidable Q],(decide ((if P then (2:Int) else if Q then 0 else 1)=2))=decide P:=by
     intro P _ Q _
     by_cases hP:P
     ·rw [if_pos hP,decide_eq_true hP];rfl
     ·rw [if_neg hP,decide_eq_false hP];split<;>rfl
    simp only [hpt]
    cases q with
    | true =>
     have hp:=of_decide_eq_true hq
     repeat' first | apply And.intro | intro _
     all_goals first
      | rfl
      | omega
      | (simp only [decide_true,Bool.true_and,Bool.and_eq_true,decide_eq_true_eq,Bool.not_eq_true',decide_eq_false_iff_not];omega)
    | false =>
     have hp:=of_decide_eq_false hq
     repeat' first | apply And.intro | intro _
     all_goals first
      | rfl
      | omega
      | (simp only [decide_true,Bool.true_and,Bool.and_eq_false_iff,decide_eq_false_iff_not,Bool.not_eq_false',decide_eq_true_eq];omega)
   ·rintro us rfl
    simp+contextual(maxSteps:=1000000)(disch:=omega)only[↓Sd,↓So,↓Sk,↓den,↓denA,Sa,Sb,Sc,Se,O1.d,O2.d,O3.d,cmI,arI,envOf,putN,↓reduceIte,Nat.reduceLT,Nat.reduceSub,Nat.reduceAdd,Int.reduceAdd,Int.reduceEq,Int.reduceLT,Int.reduceLE,arr_pos,arr_neg,]
    exact hno
  ·intro h
   simp+contextual(maxSteps:=1000000)(disch:=omega)only[↓Sd,↓So,↓Sk,↓den,↓denA,Sa,Sb,Sc,Se,O1.d,O2.d,O3.d,cmI,arI,envOf,putN,↓reduceIte,Nat.reduceLT,Nat.reduceSub,Nat.reduceAdd,Int.reduceAdd,Int.reduceEq,Int.reduceLT,Int.reduceLE,arr_pos,arr_neg,]
   rw [←hK,decide_eq_true (p:=uV l n) ⟨g,by omega,h⟩]
def uAsk (s:Sy) (F:List (List Tm)) (l:List Tm):Prop:=fOk s F∧uV l F.length
instance (s : Sy) (F : List (List Tm)) (l : List Tm) : Decidable (uAsk s F l) := by unfold uAsk; infer_instance
theorem C_spec_l24Asked (s:Sy) (F:List (List Tm)) (l:List Tm) (hs:FewSy s) (hF:FewSS F) (hl:Few l) (Q:List AV→Prop):mc.C f_spec_l24Asked [⟨L V3,s.1⟩,⟨L TR,s.2⟩,⟨L (L T4),F⟩,⟨L T4,l⟩] Q=Q [⟨B,decide (uAsk s F l)⟩]:=by
 refine Mc.Ends.c (mc.ends F_spec_l24Asked ?_)
 generalize hK:decide (uAsk s F l)=K
 simp+contextual(maxSteps:=1000000)(disch:=omega)only[↓Sd,↓So,↓Sk,↓den,↓denA,Sa,Sb,Sc,Se,O1.d,O2.d,O3.d,cmI,arI,envOf,putN,↓reduceIte,Nat.reduceLT,Nat.reduceSub,Nat.reduceAdd,Int.reduceAdd,Int.reduceEq,Int.reduceLT,Int.reduceLE,arr_pos,arr_neg,tr_spec_l24Asked,C_spec_l20Facts s F hs hF,C_spec_TreesValid l (F.length:Int) hl]
 refine ⟨fun g=>?_,fun g=>?_⟩
 ·rw [←hK];exact decide_eq_decide.2 ⟨fun h=>⟨g,h⟩,fun h=>h.2⟩
 ·rw [←hK,decide_eq_false fun h=>g h.1]
theorem C_impl_askTree (s:Sy) (F:List (List Tm)) (l:List Tm) (hs:FewSy s) (hF:FewSS F) (hl:Few l) (Q:List AV→Prop):mc.C f_impl_askTree [⟨L V3,s.1⟩,⟨L TR,s.2⟩,⟨L (L T4),F⟩,⟨L T4,l⟩] Q=Q [⟨B,decide (uAsk s F l)⟩]:=by
 refine Mc.Ends.c (mc.ends F_impl_askTree ?_)
 generalize hK:decide (uAsk s F l)=K
 simp+contextual(maxSteps:=1000000)(disch:=omega)only[↓Sd,↓So,↓Sk,↓den,↓denA,Sa,Sb,Sc,Se,O1.d,O2.d,O3.d,cmI,arI,envOf,putN,↓reduceIte,Nat.reduceLT,Nat.reduceSub,Nat.reduceAdd,Int.reduceAdd,Int.reduceEq,Int.reduceLT,Int.reduceLE,arr_pos,arr_neg,tr_impl_askTree,C_impl_factsOk s F hs hF,C_impl_TreesValid l (F.length:Int) hl]
 refine ⟨fun g=>?_,fun g=>?_⟩
 ·rw [←hK];exact decide_eq_decide.2 ⟨fun h=>⟨g,h⟩,fun h=>h.2⟩
 ·rw [←hK,decide_eq_false fun h=>g h.1]
set_option maxHeartbeats 2000000 in
theorem C_spec_l24Row (t:Tm) (T LT:List (List Int)) (P:Nat→Nat→Bool) (n F i:Nat) (hn:n≤1048576) (ht:Tbl T n) (hLl:LT.length=n) (hLr:∀k,k<n→(LT.getD k []).length=F) (h:uO t (i:Int) (F:Int)) (Q:List AV→Prop) :
  mc.C f_spec_l24Row [⟨I,t.1⟩,⟨I,t.2.1⟩,⟨I,t.2.2.1⟩,⟨I,t.2.2.2⟩,⟨L (L B),tab (fun a=>tab (P a) n) i⟩,⟨L (L I),T⟩,⟨L (L I),LT⟩] Q=Q [⟨L B,tab (trR T n LT t P) n⟩]:=by
 have hT:=ht.1
 refine Mc.Ends.c (mc.ends F_spec_l24Row ?_)
 obtain ⟨o,m,x,y⟩:=t
 unfold uO at h
 simp only at h ⊢
 rcases h with ⟨rfl,-⟩ | ⟨rfl,h1,h2,-⟩ | ⟨h1,h2,-,h3,h4,h5,h6,-⟩
 ·have e:tab (trR T n LT (0,m,x,y) P) n=tab (fun _=>true) n:=tab_congr fun k _=>by simp [trR]
  rw [e]
  simp+contextual(maxSteps:=1000000)(disch:=omega)only[↓Sd,↓So,↓Sk,↓den,↓denA,Sa,Sb,Sc,Se,O1.d,O2.d,O3.d,cmI,arI,envOf,putN,↓reduceIte,Nat.reduceLT,Nat.reduceSub,Nat.reduceAdd,Int.reduceAdd,Int.reduceEq,Int.reduceLT,Int.reduceLE,arr_pos,arr_neg,tr_spec_l24Row,hT]
  refine mc.lp_for (List Bool) (fun j o=>[⟨L (L I),T⟩,⟨L (L I),LT⟩,⟨I,(j:Int)⟩,⟨I,(0:Int)⟩,⟨I,m⟩,⟨I,x⟩,⟨I,y⟩,⟨L B,o⟩]) (fun j o=>o=tab (fun k=>if k<j then true else false) n) n 0 (List.replicate n false) _ rfl (Nat.zero_le _) bld_0 ?_ ?_
  ·rintro j o hj rfl
   simp+contextual(maxSteps:=1000000)(disch:=omega)only[↓Sd,↓So,↓Sk,↓den,↓denA,Sa,Sb,Sc,Se,O1.d,O2.d,O3.d,cmI,arI,envOf,putN,↓reduceIte,Nat.reduceLT,Nat.reduceSub,Nat.reduceAdd,Int.reduceAdd,Int.reduceEq,Int.reduceLT,Int.reduceLE,arr_pos,arr_neg,↓wpJoin,hT,tab_len]
   exact bld_s (f:=fun _=>true) rfl
  ·rintro o rfl
   simp+contextual(maxSteps:=1000000)(disch:=omega)only[↓Sd,↓So,↓Sk,↓den,↓denA,Sa,Sb,Sc,Se,O1.d,O2.d,O3.d,cmI,arI,envOf,putN,↓reduceIte,Nat.reduceLT,Nat.reduceSub,Nat.reduceAdd,Int.reduceAdd,Int.reduceEq,Int.reduceLT,Int.reduceLE,arr_pos,arr_neg,hT]
   exact bld_n (f:=fun _=>true)
 ·have e:tab (trR T n LT (1,m,x,y) P) n=tab (fun k=>decide ((LT.getD k []).getD m.toNat 0=1)) n:=tab_congr fun k _=>by simp [trR]
  rw [e]
  simp+contextual(maxSteps:=1000000)(disch:=omega)only[↓Sd,↓So,↓Sk,↓den,↓denA,Sa,Sb,Sc,Se,O1.d,O2.d,O3.d,cmI,arI,envOf,putN,↓reduceIte,Nat.reduceLT,Nat.reduceSub,Nat.reduceAdd,Int.reduceAdd,Int.reduceEq,Int.reduceLT,Int.reduceLE,arr_pos,arr_neg,tr_spec_l24Row,hT]
  refine mc.lp_for (List Bool) (fun j o=>[⟨L (L I),T⟩,⟨L (L I),LT⟩,⟨I,(j:Int)⟩,⟨I,(1:Int)⟩,⟨I,m⟩,⟨I,x⟩,⟨I,y⟩,⟨L B,o⟩]) (fun j o=>o=tab (fun k=>if k<j then decide ((LT.getD k []).getD m.toNat 0=1) else false) n) n 0 (List.replicate n false) _ rfl (Nat.zero_le _) bld_0 ?_ ?_
  ·rintro j o hj rfl
   have:=hLr j hj
   simp+contextual(maxSteps:=1000000)(disch:=omega)only[↓Sd,↓So,↓Sk,↓den,↓denA,Sa,Sb,Sc,Se,O1.d,O2.d,O3.d,cmI,arI,envOf,putN,↓reduceIte,Nat.reduceLT,Nat.reduceSub,Nat.reduceAdd,Int.reduceAdd,Int.reduceEq,Int.reduceLT,Int.reduceLE,arr_pos,arr_neg,↓wpJoin,hT,tab_len,hLl]
   exact bld_s (f:=fun k=>decide ((LT.getD k []).getD m.toNat 0=1)) rfl
  ·rintro o rfl
   simp+contextual(maxSteps:=1000000)(disch:=omega)only[↓Sd,↓So,↓Sk,↓den,↓denA,Sa,Sb,Sc,Se,O1.d,O2.d,O3.d,cmI,arI,envOf,putN,↓reduceIte,Nat.reduceLT,Nat.reduceSub,Nat.reduceAdd,Int.reduceAdd,Int.reduceEq,Int.reduceLT,Int.reduceLE,arr_pos,arr_neg,hT]
   exact bld_n (f:=fun k=>decide ((LT.getD k []).getD m.toNat 0=1))
 ·obtain ⟨a,rfl⟩:∃a:Nat,x=a:=⟨x.toNat,by omega⟩
  obtain ⟨b,rfl⟩:∃b:Nat,y=b:=⟨y.toNat,by omega⟩
  have ha:a<i:=by omega
  have hb:b<i:=by omega
  have ho:o=2∨o=3∨o=4∨o=5∨o=6∨o=7∨o=8∨o=9∨o=10:=by omega
  rcases ho with rfl | rfl | rfl | rfl | rfl | rfl | rfl | rfl | rfl
  ·simp+contextual(maxSteps:=1000000)(disch:=omega)only[↓Sd,↓So,↓Sk,↓den,↓denA,Sa,Sb,Sc,Se,O1.d,O2.d,O3.d,cmI,arI,envOf,putN,↓reduceIte,Nat.reduceLT,Nat.reduceSub,Nat.reduceAdd,Int.reduceAdd,Int.reduceEq,Int.reduceLT,Int.reduceLE,arr_pos,arr_neg,tr_spec_l24Row,tab_len,tab_get ha,tab_get hb,C_spec_l24Not (P a) n hn]
   exact tab_congr fun k _=>by simp [trR]
  ·simp+contextual(maxSteps:=1000000)(disch:=omega)only[↓Sd,↓So,↓Sk,↓den,↓denA,Sa,Sb,Sc,Se,O1.d,O2.d,O3.d,cmI,arI,envOf,putN,↓reduceIte,Nat.reduceLT,Nat.reduceSub,Nat.reduceAdd,Int.reduceAdd,Int.reduceEq,Int.reduceLT,Int.reduceLE,arr_pos,arr_neg,tr_spec_l24Row,tab_len,tab_get ha,tab_get hb,C_spec_l24Both (P a) (P b) n hn]
   exact tab_congr fun k _=>by simp [trR]
  ·simp+contextual(maxSteps:=1000000)(disch:=omega)only[↓Sd,↓So,↓Sk,↓den,↓denA,Sa,Sb,Sc,Se,O1.d,O2.d,O3.d,cmI,arI,envOf,putN,↓reduceIte,Nat.reduceLT,Nat.reduceSub,Nat.reduceAdd,Int.reduceAdd,Int.reduceEq,Int.reduceLT,Int.reduceLE,arr_pos,arr_neg,tr_spec_l24Row,tab_len,tab_get ha,tab_get hb,C_spec_l24Not (P a) n hn,C_spec_l24Not (P b) n hn,C_spec_l24Both (fun k=>!P a k) (fun k=>!P b k) n hn,C_spec_l24Not (fun k=>!P a k&&!P b k) n hn]
   exact tab_congr fun k _=>by simp [trR]
  ·simp+contextual(maxSteps:=1000000)(disch:=omega)only[↓Sd,↓So,↓Sk,↓den,↓denA,Sa,Sb,Sc,Se,O1.d,O2.d,O3.d,cmI,arI,envOf,putN,↓reduceIte,Nat.reduceLT,Nat.reduceSub,Nat.reduceAdd,Int.reduceAdd,Int.reduceEq,Int.reduceLT,Int.reduceLE,arr_pos,arr_neg,tr_spec_l24Row,tab_len,tab_get ha,tab_get hb,C_l4Ahead_b T (P a) n hn ht]
   exact tab_congr fun k _=>by simp [trR]
  ·simp+contextual(maxSteps:=1000000)(disch:=omega)only[↓Sd,↓So,↓Sk,↓den,↓denA,Sa,Sb,Sc,Se,O1.d,O2.d,O3.d,cmI,arI,envOf,putN,↓reduceIte,Nat.reduceLT,Nat.reduceSub,Nat.reduceAdd,Int.reduceAdd,Int.reduceEq,Int.reduceLT,Int.reduceLE,arr_pos,arr_neg,tr_spec_l24Row,tab_len,tab_get ha,tab_get hb,C_spec_l24Until T (P a) (P b) n hn ht]
   exact tab_congr fun k _=>by simp [trR]
  ·simp+contextual(maxSteps:=1000000)(disch:=omega)only[↓Sd,↓So,↓Sk,↓den,↓denA,Sa,Sb,Sc,Se,O1.d,O2.d,O3.d,cmI,arI,envOf,putN,↓reduceIte,Nat.reduceLT,Nat.reduceSub,Nat.reduceAdd,Int.reduceAdd,Int.reduceEq,Int.reduceLT,Int.reduceLE,arr_pos,arr_neg,tr_spec_l24Row,tab_len,tab_get ha,tab_get hb,C_spec_l24Stay T (P a) n hn ht]
   exact tab_congr fun k _=>by simp [trR]
  ·simp+contextual(maxSteps:=1000000)(disch:=omega)only[↓Sd,↓So,↓Sk,↓den,↓denA,Sa,Sb,Sc,Se,O1.d,O2.d,O3.d,cmI,arI,envOf,putN,↓reduceIte,Nat.reduceLT,Nat.reduceSub,Nat.reduceAdd,Int.reduceAdd,Int.reduceEq,Int.reduceLT,Int.reduceLE,arr_pos,arr_neg,tr_spec_l24Row,tab_len,tab_get ha,tab_get hb,C_spec_l24Not (P a) n hn,C_l4Ahead_b T (fun k=>!P a k) n hn ht,C_spec_l24Not (aB T n fun k=>!P a k) n hn]
   exact tab_congr fun k _=>by simp [trR]
  ·simp+contextual(maxSteps:=1000000)(disch:=omega)only[↓Sd,↓So,↓Sk,↓den,↓denA,Sa,Sb,Sc,Se,O1.d,O2.d,O3.d,cmI,arI,envOf,putN,↓reduceIte,Nat.reduceLT,Nat.reduceSub,Nat.reduceAdd,Int.reduceAdd,Int.reduceEq,Int.reduceLT,Int.reduceLE,arr_pos,arr_neg,tr_spec_l24Row,tab_len,tab_get ha,tab_get hb,C_spec_l24All T (P a) (P b) n hn ht]
   exact tab_congr fun k _=>by simp [trR]
  ·simp+contextual(maxSteps:=1000000)(disch:=omega)only[↓Sd,↓So,↓Sk,↓den,↓denA,Sa,Sb,Sc,Se,O1.d,O2.d,O3.d,cmI,arI,envOf,putN,↓reduceIte,Nat.reduceLT,Nat.reduceSub,Nat.reduceAdd,Int.reduceAdd,Int.reduceEq,Int.reduceLT,Int.reduceLE,arr_pos,arr_neg,tr_spec_l24Row,tab_len,tab_get ha,tab_get hb,hT]
   refine mc.lp_for (List Bool) (fun j o=>[⟨L (L I),T⟩,⟨L B,tab (P a) n⟩,⟨I,(j:Int)⟩,⟨L B,o⟩]) (fun j o=>o=tab (fun k=>if k<j then true else false) n) n 0 (List.replicate n false) _ rfl (Nat.zero_le _) bld_0 ?_ ?_
   ·rintro j o hj rfl
    simp+contextual(maxSteps:=1000000)(disch:=omega)only[↓Sd,↓So,↓Sk,↓den,↓denA,Sa,Sb,Sc,Se,O1.d,O2.d,O3.d,cmI,arI,envOf,putN,↓reduceIte,Nat.reduceLT,Nat.reduceSub,Nat.reduceAdd,Int.reduceAdd,Int.reduceEq,Int.reduceLT,Int.reduceLE,arr_pos,arr_neg,hT,tab_len]
    exact bld_s (f:=fun _=>true) rfl
   ·rintro o rfl
    rw [bld_n (f:=fun _=>true)]
    simp+contextual(maxSteps:=1000000)(disch:=omega)only[↓Sd,↓So,↓Sk,↓den,↓denA,Sa,Sb,Sc,Se,O1.d,O2.d,O3.d,cmI,arI,envOf,putN,↓reduceIte,Nat.reduceLT,Nat.reduceSub,Nat.reduceAdd,Int.reduceAdd,Int.reduceEq,Int.reduceLT,Int.reduceLE,arr_pos,arr_neg,hT,tab_len,C_spec_l24Not (P a) n hn,C_spec_l24Until T (fun _=>true) (fun k=>!P a k) n hn ht,C_spec_l24Not (euI T n (fun _=>true) (fun k=>!P a k) n) n hn]
    exact tab_congr fun k _=>by simp [trR]
theorem onw_tbl {s:Sy} (h:valid s):Tbl (onw s) (szn s.1):=by
 have h8:=steps_tb8 h
 have hl0:(steps s).length=szn s.1:=tab_len
 refine ⟨tab_len,fun r hr=>?_⟩
 obtain ⟨k,hk,rfl⟩:=List.mem_map.1 hr
 have hk:=List.mem_range.1 hk
 split
 ·refine ⟨by simp,fun x hx=>?_⟩
  simp only [List.mem_singleton] at hx
  omega
 ·exact ⟨(h8.1.2 _ (getD_mem (by omega))).1,fun x hx=>h8.1.row x hx⟩
theorem ltrs_row {s:Sy} {F:List (List Tm)} {k:Nat} (hk:k<szn s.1):((ltrs s F).getD k []).length=F.length:=by
 rw [ltrs,tab_get hk,ltr,tab_len]
theorem trP_next {T LT:List (List Int)} {n i:Nat} {l:List Tm}:tab (fun a=>tab (trP T n LT l i a) n) i++[tab (trR T n LT (l.getD i zT) (trP T n LT l i)) n]=tab (fun a=>tab (trP T n LT l (i+1) a) n) (i+1):=by
 rw [←tab_next]
 congr 1
 ·exact tab_congr fun a ha=>tab_congr fun k _=>by simp only [trP];rw [if_neg (by omega)]
 ·congr 1
  exact tab_congr fun k _=>by simp only [trP];rw [if_pos trivial]
theorem C_spec_l24Rows (s:Sy) (F:List (List Tm)) (l:List Tm) (hs:FewSy s) (h:fOk s F) (hl:uV l F.length) (Q:List AV→Prop) :
  mc.C f_spec_l24Rows [⟨L V3,s.1⟩,⟨L TR,s.2⟩,⟨L (L T4),F⟩,⟨L T4,l⟩] Q=Q [⟨L (L B),tab (fun a=>tab (trP (onw s) (szn s.1) (ltrs s F) l l.length a) (szn s.1)) l.length⟩]:=by
 have hv:=h.1
 have hz:=szn_eq hv
 have ho:(onw s).length=szn s.1:=tab_len
 have hml:=hl.2.1
 refine Mc.Ends.c (mc.ends F_spec_l24Rows ?_)
 simp+contextual(maxSteps:=1000000)(disch:=omega)only[↓Sd,↓So,↓Sk,↓den,↓denA,Sa,Sb,Sc,Se,O1.d,O2.d,O3.d,cmI,arI,envOf,putN,↓reduceIte,Nat.reduceLT,Nat.reduceSub,Nat.reduceAdd,Int.reduceAdd,Int.reduceEq,Int.reduceLT,Int.reduceLE,arr_pos,arr_neg,tr_spec_l24Rows,C_spec_l22Onward s hs hv]
 refine mc.lp_for (List (List Int)) (fun i o=>[⟨L (L T4),F⟩,⟨L T4,l⟩,⟨I,(i:Int)⟩,⟨L V3,s.1⟩,⟨L TR,s.2⟩,⟨L (L I),onw s⟩,⟨L (L I),o⟩]) (fun i o=>o=tab (fun k=>ltr F (stN s k)) i) (szn s.1) 0 [] _ rfl (Nat.zero_le _) rfl ?_ ?_
 ·rintro i o hi rfl
  have h1:=fOk_at h hi
  have hst:stAt s.1 (i:Int)=stN s i:=rfl
  simp+contextual(maxSteps:=1000000)(disch:=omega)only[↓Sd,↓So,↓Sk,↓den,↓denA,Sa,Sb,Sc,Se,O1.d,O2.d,O3.d,cmI,arI,envOf,putN,↓reduceIte,Nat.reduceLT,Nat.reduceSub,Nat.reduceAdd,Int.reduceAdd,Int.reduceEq,Int.reduceLT,Int.reduceLE,arr_pos,arr_neg,ho,tab_len,C_spec_l4State s (i:Int) hs hv (by omega),hst,C_spec_l20Of F (stN s i) h.2.1 h1.1 h1.2]
  exact tab_next
 ·rintro o rfl
  have eL:tab (fun k=>ltr F (stN s k)) (szn s.1)=ltrs s F:=rfl
  rw [eL]
  simp+contextual(maxSteps:=1000000)(disch:=omega)only[↓Sd,↓So,↓Sk,↓den,↓denA,Sa,Sb,Sc,Se,O1.d,O2.d,O3.d,cmI,arI,envOf,putN,↓reduceIte,Nat.reduceLT,Nat.reduceSub,Nat.reduceAdd,Int.reduceAdd,Int.reduceEq,Int.reduceLT,Int.reduceLE,arr_pos,arr_neg,ho]
  refine mc.lp_for (List (List Bool)) (fun i o=>[⟨L T4,l⟩,⟨I,(i:Int)⟩,⟨L (L I),onw s⟩,⟨L (L I),ltrs s F⟩,⟨L (L B),o⟩]) (fun i o=>o=tab (fun a=>tab (trP (onw s) (szn s.1) (ltrs s F) l i a) (szn s.1)) i) l.length 0 [] _ rfl (Nat.zero_le _) rfl ?_ ?_
  ·rintro i o hi rfl
   have h1:=hl.2.2 i hi
   simp+contextual(maxSteps:=1000000)(disch:=omega)only[↓Sd,↓So,↓Sk,↓den,↓denA,Sa,Sb,Sc,Se,O1.d,O2.d,O3.d,cmI,arI,envOf,putN,↓reduceIte,Nat.reduceLT,Nat.reduceSub,Nat.reduceAdd,Int.reduceAdd,Int.reduceEq,Int.reduceLT,Int.reduceLE,arr_pos,arr_neg,tab_len,C_spec_l24Row (l.getD i (0,0,0,0)) (onw s) (ltrs s F) (trP (onw s) (szn s.1) (ltrs s F) l i) (szn s.1) F.length i (by omega) (onw_tbl hv) tab_len (fun k hk=>ltrs_row hk) h1]
   exact trP_next
  ·rintro o rfl
   simp+contextual(maxSteps:=1000000)(disch:=omega)only[↓Sd,↓So,↓Sk,↓den,↓denA,Sa,Sb,Sc,Se,O1.d,O2.d,O3.d,cmI,arI,envOf,putN,↓reduceIte,Nat.reduceLT,Nat.reduceSub,Nat.reduceAdd,Int.reduceAdd,Int.reduceEq,Int.reduceLT,Int.reduceLE,arr_pos,arr_neg,]
noncomputable def trO (T LT:List (List Int)) (n:Nat) (l:List Tm) (i:Nat):List (List Bool):=tab (fun a=>if a<i then tab (trP T n LT l i a) n else []) l.length
theorem trO_len {T LT:List (List Int)} {n:Nat} {l:List Tm} {i:Nat}:(trO T LT n l i).length=l.length:=tab_len
theorem trO_0 {T LT:List (List Int)} {n:Nat} {l:List Tm}:List.replicate l.length ([]:List Bool)=trO T LT n l 0:=by
 rw [rep_tab];exact tab_congr fun k _=>by rw [if_neg (Nat.not_lt_zero k)]
theorem trO_get {T LT:List (List Int)} {n:Nat} {l:List Tm} {i a:Nat} (ha:a<i) (hi:i≤l.length):(trO T LT n l i).getD a []=tab (trP T n LT l i a) n:=by
 rw [trO,tab_get (by omega),if_pos ha]
theorem trO_set {T LT:List (List Int)} {n:Nat} {l:List Tm} {i:Nat} {row:List Bool} (hi:i<l.length) (h:row=tab (trR T n LT (l.getD i zT) (trP T n LT l i)) n):(trO T LT n l i).set i row=trO T LT n l (i+1):=by
 rw [trO,tab_set',h]
 refine tab_congr fun k _=>?_
 by_cases e:k=i
 ·subst e
  rw [if_pos rfl,if_pos (by omega)]
  exact tab_congr fun j _=>by simp only [trP];rw [if_pos trivial]
 ·rw [if_neg e]
  by_cases e2:k<i
  ·rw [if_pos e2,if_pos (by omega)]
   exact tab_congr fun j _=>by simp only [trP];rw [if_neg e]
  ·rw [if_neg e2,if_neg (by omega)]
theorem trO_n {T LT:List (List Int)} {n:Nat} {l:List Tm}:trO T LT n l l.length=tab (fun a=>tab (trP T n LT l l.length a) n) l.length:=tab_congr fun k hk=>if_pos hk
set_option maxHeartbeats 8000000 in
theorem C_impl_treeRows (l:List Tm) (T LT:List (List Int)) (n F:Nat) (hn:n≤1048576) (ht:Tbl T n) (hLl:LT.length=n) (hLr:∀k,k<n→(LT.getD k []).length=F) (hl:uV l (F:Int)) (Q:List AV→Prop) :
  mc.C f_impl_treeRows [⟨L T4,l⟩,⟨L (L I),T⟩,⟨L (L I),LT⟩] Q=Q [⟨L (L B),tab (fun a=>tab (trP T n LT l l.length a) n) l.length⟩]:=by
 have hT:=ht.1
 have hml:=hl.2.1
 refine Mc.Ends.c (mc.ends F_impl_treeRows ?_)
 simp+contextual(maxSteps:=1000000)(disch:=omega)only[↓Sd,↓So,↓Sk,↓den,↓denA,Sa,Sb,Sc,Se,O1.d,O2.d,O3.d,cmI,arI,envOf,putN,↓reduceIte,Nat.reduceLT,Nat.reduceSub,Nat.reduceAdd,Int.reduceAdd,Int.reduceEq,Int.reduceLT,Int.reduceLE,arr_pos,arr_neg,tr_impl_treeRows]
 refine mc.lp_for (List (List Bool)) (fun i o=>[⟨L (L I),LT⟩,⟨L T4,l⟩,⟨I,(l.length:Int)⟩,⟨I,(i:Int)⟩,⟨L (L I),T⟩,⟨L (L B),o⟩]) (fun i o=>o=trO T LT n l i) l.length 0 (List.replicate l.length []) _ rfl (Nat.zero_le _) trO_0 ?_ ?_
 ·rintro i o hi rfl
  have h:=hl.2.2 i hi
  have hset:=fun row=>@trO_set T LT n l i row hi
  have hOl:=@trO_len T LT n l i
  have hOg:=fun a ha=>@trO_get T LT n l i a ha (by omega)
  generalize trO T LT n l i=O at *
  generalize trO T LT n l (i+1)=On at *
  generalize trP T n LT l i=P at *
  obtain ⟨t,hti⟩:∃t,l.getD i (0,0,0,0)=t:=⟨_,rfl⟩
  have hti':l.getD i zT=t:=hti
  rw [hti'] at h
  simp only [hti'] at hset
  obtain ⟨o,m,x,y⟩:=t
  unfold uO at h
  simp only at h
  rcases h with ⟨rfl,-⟩ | ⟨rfl,h1,h2,-⟩ | ⟨h1,h2,-,h3,h4,h5,h6,-⟩
  ·have e:tab (trR T n LT (0,m,x,y) P) n=tab (fun _=>true) n:=tab_congr fun k _=>by simp [trR]
   rw [e] at hset
   simp+contextual(maxSteps:=1000000)(disch:=omega)only[↓Sd,↓So,↓Sk,↓den,↓denA,Sa,Sb,Sc,Se,O1.d,O2.d,O3.d,cmI,arI,envOf,putN,↓reduceIte,Nat.reduceLT,Nat.reduceSub,Nat.reduceAdd,Int.reduceAdd,Int.reduceEq,Int.reduceLT,Int.reduceLE,arr_pos,arr_neg,↓wpJoin,hti,hT,hOl,List.length_replicate]
   refine mc.lp_for (List Bool) (fun j o=>[⟨L (L I),LT⟩,⟨I,(i:Int)⟩,⟨L T4,l⟩,⟨I,(l.length:Int)⟩,⟨I,(i:Int)⟩,⟨I,(n:Int)⟩,⟨I,(j:Int)⟩,⟨L (L I),T⟩,⟨L (L B),O⟩,⟨I,(i:Int)⟩,⟨L B,o⟩,⟨I,(0:Int)⟩,⟨I,m⟩,⟨I,x⟩,⟨I,y⟩]) (fun j o=>o=tab (fun k=>if k<j then true else false) n) n 0 (List.replicate n false) _ rfl (Nat.zero_le _) bld_0 ?_ ?_
   ·rintro j o hj rfl
    simp+contextual(maxSteps:=1000000)(disch:=omega)only[↓Sd,↓So,↓Sk,↓den,↓denA,Sa,Sb,Sc,Se,O1.d,O2.d,O3.d,cmI,arI,envOf,putN,↓reduceIte,Nat.reduceLT,Nat.reduceSub,Nat.reduceAdd,Int.reduceAdd,Int.reduceEq,Int.reduceLT,Int.reduceLE,arr_pos,arr_neg,↓wpJoin,hT,tab_len,hOl]
    exact bld_s (f:=fun _=>true) rfl
   ·rintro o rfl
    rw [bld_n (f:=fun _=>true)]
    simp+contextual(maxSteps:=1000000)(disch:=omega)only[↓Sd,↓So,↓Sk,↓den,↓denA,Sa,Sb,Sc,Se,O1.d,O2.d,O3.d,cmI,arI,envOf,putN,↓reduceIte,Nat.reduceLT,Nat.reduceSub,Nat.reduceAdd,Int.reduceAdd,Int.reduceEq,Int.reduceLT,Int.reduceLE,arr_pos,arr_neg,↓wpJoin,hT,hOl]
    exact hset _ rfl
  ·have e:tab (trR T n LT (1,m,x,y) P) n=tab (fun k=>decide ((LT.getD k []).getD m.toNat 0=1)) n:=tab_congr fun k _=>by simp [trR]
   rw [e] at hset
   simp+contextual(maxSteps:=1000000)(disch:=omega)only[↓Sd,↓So,↓Sk,↓den,↓denA,Sa,Sb,Sc,Se,O1.d,O2.d,O3.d,cmI,arI,envOf,putN,↓reduceIte,Nat.reduceLT,Nat.reduceSub,Nat.reduceAdd,Int.reduceAdd,Int.reduceEq,Int.reduceLT,Int.reduceLE,arr_pos,arr_neg,↓wpJoin,hti,hT,hOl,List.length_replicate]
   refine mc.lp_for (List Bool) (fun j o=>[⟨L (L I),LT⟩,⟨I,(i:Int)⟩,⟨L T4,l⟩,⟨I,(l.length:Int)⟩,⟨I,(i:Int)⟩,⟨I,(n:Int)⟩,⟨I,(j:Int)⟩,⟨L (L I),T⟩,⟨L (L B),O⟩,⟨I,(i:Int)⟩,⟨L B,o⟩,⟨I,(1:Int)⟩,⟨I,m⟩,⟨I,x⟩,⟨I,y⟩]) (fun j o=>o=tab (fun k=>if k<j then decide ((LT.getD k []).getD m.toNat 0=1) else false) n) n 0 (List.replicate n false) _ rfl (Nat.zero_le _) bld_0 ?_ ?_
   ·rintro j o hj rfl
    have:=hLr j hj
    simp+contextual(maxSteps:=1000000)(disch:=omega)only[↓Sd,↓So,↓Sk,↓den,↓denA,Sa,Sb,Sc,Se,O1.d,O2.d,O3.d,cmI,arI,envOf,putN,↓reduceIte,Nat.reduceLT,Nat.reduceSub,Nat.reduceAdd,Int.reduceAdd,Int.reduceEq,Int.reduceLT,Int.reduceLE,arr_pos,arr_neg,↓wpJoin,hT,tab_len,hLl,hOl]
    exact bld_s (f:=fun k=>decide ((LT.getD k []).getD m.toNat 0=1)) rfl
   ·rintro o rfl
    rw [bld_n (f:=fun k=>decide ((LT.getD k []).getD m.toNat 0=1))]
    simp+contextual(maxSteps:=1000000)(disch:=omega)only[↓Sd,↓So,↓Sk,↓den,↓denA,Sa,Sb,Sc,Se,O1.d,O2.d,O3.d,cmI,arI,envOf,putN,↓reduceIte,Nat.reduceLT,Nat.reduceSub,Nat.reduceAdd,Int.reduceAdd,Int.reduceEq,Int.reduceLT,Int.reduceLE,arr_pos,arr_neg,↓wpJoin,hT,hOl]
    exact hset _ rfl
  ·obtain ⟨a,rfl⟩:∃a:Nat,x=a:=⟨x.toNat,by omega⟩
   obtain ⟨b,rfl⟩:∃b:Nat,y=b:=⟨y.toNat,by omega⟩
   have ha:a<i:=by omega
   have hb:b<i:=by omega
   have hga:=hOg a ha
   have hgb:=hOg b hb
   clear hOg
   obtain ⟨p,hp⟩:∃p,P a=p:=⟨_,rfl⟩
   obtain ⟨q,hq⟩:∃q,P b=q:=⟨_,rfl⟩
   rw [hp] at hga
   rw [hq] at hgb
   have hao:¬(a:Int)<0:=by omega
   have ho:o=2∨o=3∨o=4∨o=5∨o=6∨o=7∨o=8∨o=9∨o=10:=by omega
   rcases ho with rfl | rfl | rfl | rfl | rfl | rfl | rfl | rfl | rfl
   ·simp+contextual(maxSteps:=1000000)(disch:=omega)only[↓Sd,↓So,↓Sk,↓den,↓denA,Sa,Sb,Sc,Se,O1.d,O2.d,O3.d,cmI,arI,envOf,putN,↓reduceIte,Nat.reduceLT,Nat.reduceSub,Nat.reduceAdd,Int.reduceAdd,Int.reduceEq,Int.reduceLT,Int.reduceLE,arr_pos,arr_neg,↓wpJoin,hti,hOl,hga,hgb,C_impl_not p n hn]
    exact hset _ (tab_congr fun k _=>by simp [trR,hp])
   ·simp+contextual(maxSteps:=1000000)(disch:=omega)only[↓Sd,↓So,↓Sk,↓den,↓denA,Sa,Sb,Sc,Se,O1.d,O2.d,O3.d,cmI,arI,envOf,putN,↓reduceIte,Nat.reduceLT,Nat.reduceSub,Nat.reduceAdd,Int.reduceAdd,Int.reduceEq,Int.reduceLT,Int.reduceLE,arr_pos,arr_neg,↓wpJoin,hti,hOl,hga,hgb,tab_len]
    refine mc.lp_for (List Bool) (fun j o=>[⟨L B,tab p n⟩,⟨L B,tab q n⟩,⟨I,(n:Int)⟩,⟨I,(j:Int)⟩,⟨L (L I),LT⟩,⟨L T4,l⟩,⟨I,(l.length:Int)⟩,⟨I,(i:Int)⟩,⟨I,(i:Int)⟩,⟨L B,o⟩,⟨L (L I),T⟩,⟨L (L B),O⟩]) (fun j o=>o=tab (fun k=>if k<j then p k&&q k else false) n) n 0 (List.replicate n false) _ rfl (Nat.zero_le _) bld_0 ?_ ?_
    ·rintro j o hj rfl
     simp+contextual(maxSteps:=1000000)(disch:=omega)only[↓Sd,↓So,↓Sk,↓den,↓denA,Sa,Sb,Sc,Se,O1.d,O2.d,O3.d,cmI,arI,envOf,putN,↓reduceIte,Nat.reduceLT,Nat.reduceSub,Nat.reduceAdd,Int.reduceAdd,Int.reduceEq,Int.reduceLT,Int.reduceLE,arr_pos,arr_neg,↓wpJoin,tab_len,tab_get hj]
     refine ⟨fun g=>bld_s ?_,fun g=>bld_s ?_⟩<;>simp [g]
    ·rintro o rfl
     rw [bld_n]
     simp+contextual(maxSteps:=1000000)(disch:=omega)only[↓Sd,↓So,↓Sk,↓den,↓denA,Sa,Sb,Sc,Se,O1.d,O2.d,O3.d,cmI,arI,envOf,putN,↓reduceIte,Nat.reduceLT,Nat.reduceSub,Nat.reduceAdd,Int.reduceAdd,Int.reduceEq,Int.reduceLT,Int.reduceLE,arr_pos,arr_neg,↓wpJoin,tab_len,hOl]
     exact hset _ (tab_congr fun k _=>by simp [trR,hp,hq])
   ·simp+contextual(maxSteps:=1000000)(disch:=omega)only[↓Sd,↓So,↓Sk,↓den,↓denA,Sa,Sb,Sc,Se,O1.d,O2.d,O3.d,cmI,arI,envOf,putN,↓reduceIte,Nat.reduceLT,Nat.reduceSub,Nat.reduceAdd,Int.reduceAdd,Int.reduceEq,Int.reduceLT,Int.reduceLE,arr_pos,arr_neg,↓wpJoin,hti,hOl,hga,hgb,tab_len]
    refine mc.lp_for (List Bool) (fun j o=>[⟨L B,tab p n⟩,⟨L B,tab q n⟩,⟨I,(n:Int)⟩,⟨I,(j:Int)⟩,⟨L (L I),LT⟩,⟨L T4,l⟩,⟨I,(l.length:Int)⟩,⟨I,(i:Int)⟩,⟨I,(i:Int)⟩,⟨L B,o⟩,⟨L (L I),T⟩,⟨L (L B),O⟩]) (fun j o=>o=tab (fun k=>if k<j then p k||q k else false) n) n 0 (List.replicate n false) _ rfl (Nat.zero_le _) bld_0 ?_ ?_
    ·rintro j o hj rfl
     simp+contextual(maxSteps:=1000000)(disch:=omega)only[↓Sd,↓So,↓Sk,↓den,↓denA,Sa,Sb,Sc,Se,O1.d,O2.d,O3.d,cmI,arI,envOf,putN,↓reduceIte,Nat.reduceLT,Nat.reduceSub,Nat.reduceAdd,Int.reduceAdd,Int.reduceEq,Int.reduceLT,Int.reduceLE,arr_pos,arr_neg,↓wpJoin,tab_len,tab_get hj]
     refine ⟨fun g=>bld_s ?_,fun g=>bld_s ?_⟩<;>simp [g]
    ·rintro o rfl
     rw [bld_n]
     simp+contextual(maxSteps:=1000000)(disch:=omega)only[↓Sd,↓So,↓Sk,↓den,↓denA,Sa,Sb,Sc,Se,O1.d,O2.d,O3.d,cmI,arI,envOf,putN,↓reduceIte,Nat.reduceLT,Nat.reduceSub,Nat.reduceAdd,Int.reduceAdd,Int.reduceEq,Int.reduceLT,Int.reduceLE,arr_pos,arr_neg,↓wpJoin,tab_len,hOl]
     exact hset _ (tab_congr fun k _=>by simp [trR,hp,hq])
   ·simp+contextual(maxSteps:=1000000)(disch:=omega)only[↓Sd,↓So,↓Sk,↓den,↓denA,Sa,Sb,Sc,Se,O1.d,O2.d,O3.d,cmI,arI,envOf,putN,↓reduceIte,Nat.reduceLT,Nat.reduceSub,Nat.reduceAdd,Int.reduceAdd,Int.reduceEq,Int.reduceLT,Int.reduceLE,arr_pos,arr_neg,↓wpJoin,hti,hOl,hga,hgb,C_impl_some T p n hn ht]
    exact hset _ (tab_congr fun k _=>by simp [trR,hp])
   ·simp+contextual(maxSteps:=1000000)(disch:=omega)only[↓Sd,↓So,↓Sk,↓den,↓denA,Sa,Sb,Sc,Se,O1.d,O2.d,O3.d,cmI,arI,envOf,putN,↓reduceIte,Nat.reduceLT,Nat.reduceSub,Nat.reduceAdd,Int.reduceAdd,Int.reduceEq,Int.reduceLT,Int.reduceLE,arr_pos,arr_neg,↓wpJoin,hti,hOl,hga,hgb]
    have htr:∀k,k<n→trR T n LT (6,m,(a:Int),(b:Int)) P k=fuI T n false p q n k:=fun k hk=>by
     have e1:=@euI_fu T n p q n k hk
     simp [trR,hp,hq,e1]
    refine mc.lp_inv (fun μ us=>∃j,j≤n∧μ=n - j∧us=[⟨L B,tab (fuI T n false p q j) n⟩,⟨L (L I),LT⟩,⟨L T4,l⟩,⟨I,(l.length:Int)⟩,⟨I,(i:Int)⟩,⟨I,(i:Int)⟩,⟨L (L I),T⟩,⟨B,false⟩,⟨L B,tab q n⟩,⟨L B,tab p n⟩,⟨L (L B),O⟩]) n _ ⟨0,Nat.zero_le _,rfl,rfl⟩ ?_
    rintro μ us ⟨j,hj,rfl,rfl⟩
    have hfix:=@fuI_fix T n false p q
    have hz1:fuI T n false p q (j+1)=fun k=>q k||(p k&&nxB T n false (fuI T n false p q j) k):=funext fun k=>rfl
    have hfin:(∀k,k<n→fuI T n false p q (j+1) k=fuI T n false p q j k)→tab (fuI T n false p q j) n=tab (trR T n LT (6,m,(a:Int),(b:Int)) P) n:=fun hh=>tab_congr fun k hk=>by rw [htr k hk,hfix.2 j hj hh k hk]
    have hgo:¬(∀k,k<n→fuI T n false p q (j+1) k=fuI T n false p q j k)→j+1≤n:=fun hh=>Classical.byContradiction fun h2=>hh (by
     have:j=n:=by omega
     subst this
     exact hfix.1)
    have hnext:∀x,x=tab (fuI T n false p q (j+1)) n→¬(∀k,k<n→fuI T n false p q (j+1) k=fuI T n false p q j k)→∃k',k'<n - j∧∃j',j'≤n∧k'=n - j'∧x=tab (fuI T n false p q j') n:=fun x hx hh=>⟨n - (j+1),by have:=hgo hh;omega,j+1,hgo hh,rfl,hx⟩
    clear hfix hgo htr
    obtain ⟨z,hz⟩:∃z,fuI T n false p q j=z:=⟨_,rfl⟩
    obtain ⟨ah,hah⟩:∃ah,(aB T n z)=ah:=⟨_,rfl⟩
    have hna:∀k,nxB T n false z k=ah k:=fun k=>by rw [←hah];simp [nxB]
    obtain ⟨z1,hz1e⟩:∃z1,fuI T n false p q (j+1)=z1:=⟨_,rfl⟩
    rw [hz1e] at hfin hnext hz1
    rw [hz] at hfin hnext hz1 ⊢
    simp only [hna] at hz1
    simp+contextual(maxSteps:=1000000)(disch:=omega)only[↓Sd,↓So,↓Sk,↓den,↓denA,Sa,Sb,Sc,Se,O1.d,O2.d,O3.d,cmI,arI,envOf,putN,↓reduceIte,Nat.reduceLT,Nat.reduceSub,Nat.reduceAdd,Int.reduceAdd,Int.reduceEq,Int.reduceLT,Int.reduceLE,arr_pos,arr_neg,↓wpJoin,C_impl_some T z n hn ht,tab_len,hah]
    refine mc.lp_for (List Bool) (fun j o=>[⟨L B,tab p n⟩,⟨I,(n:Int)⟩,⟨I,(j:Int)⟩,⟨L B,tab q n⟩,⟨L B,tab z n⟩,⟨L (L I),LT⟩,⟨L T4,l⟩,⟨I,(l.length:Int)⟩,⟨I,(i:Int)⟩,⟨I,(i:Int)⟩,⟨L B,tab ah n⟩,⟨L B,o⟩,⟨L (L I),T⟩,⟨B,false⟩,⟨L B,tab q n⟩,⟨L B,tab p n⟩,⟨L (L B),O⟩]) (fun j o=>o=tab (fun k=>if k<j then p k&&ah k else false) n) n 0 (List.replicate n false) _ rfl (Nat.zero_le _) bld_0 ?_ ?_
    ·rintro j o hj rfl
     simp+contextual(maxSteps:=1000000)(disch:=omega)only[↓Sd,↓So,↓Sk,↓den,↓denA,Sa,Sb,Sc,Se,O1.d,O2.d,O3.d,cmI,arI,envOf,putN,↓reduceIte,Nat.reduceLT,Nat.reduceSub,Nat.reduceAdd,Int.reduceAdd,Int.reduceEq,Int.reduceLT,Int.reduceLE,arr_pos,arr_neg,↓wpJoin,tab_len,tab_get hj]
     refine ⟨fun g=>bld_s ?_,fun g=>bld_s ?_⟩<;>simp [g]
    rintro o rfl
    rw [bld_n]
    simp+contextual(maxSteps:=1000000)(disch:=omega)only[↓Sd,↓So,↓Sk,↓den,↓denA,Sa,Sb,Sc,Se,O1.d,O2.d,O3.d,cmI,arI,envOf,putN,↓reduceIte,Nat.reduceLT,Nat.reduceSub,Nat.reduceAdd,Int.reduceAdd,Int.reduceEq,Int.reduceLT,Int.reduceLE,arr_pos,arr_neg,↓wpJoin,tab_len]
    refine mc.lp_for (List Bool) (fun j o=>[⟨L B,tab q n⟩,⟨I,(n:Int)⟩,⟨I,(j:Int)⟩,⟨L B,tab z n⟩,⟨L (L I),LT⟩,⟨L T4,l⟩,⟨I,(l.length:Int)⟩,⟨I,(i:Int)⟩,⟨I,(i:Int)⟩,⟨L B,tab (fun k=>p k&&ah k) n⟩,⟨L B,o⟩,⟨L (L I),T⟩,⟨B,false⟩,⟨L B,tab q n⟩,⟨L B,tab p n⟩,⟨L (L B),O⟩]) (fun j o=>o=tab (fun k=>if k<j then q k||(p k&&ah k) else false) n) n 0 (List.replicate n false) _ rfl (Nat.zero_le _) bld_0 ?_ ?_
    ·rintro j o hj rfl
     simp+contextual(maxSteps:=1000000)(disch:=omega)only[↓Sd,↓So,↓Sk,↓den,↓denA,Sa,Sb,Sc,Se,O1.d,O2.d,O3.d,cmI,arI,envOf,putN,↓reduceIte,Nat.reduceLT,Nat.reduceSub,Nat.reduceAdd,Int.reduceAdd,Int.reduceEq,Int.reduceLT,Int.reduceLE,arr_pos,arr_neg,↓wpJoin,tab_len,tab_get hj]
     refine ⟨fun g=>bld_s ?_,fun g=>bld_s ?_⟩<;>simp [g]
    rintro o rfl
    rw [bld_n,←hz1]
    simp+contextual(maxSteps:=1000000)(disch:=omega)only[↓Sd,↓So,↓Sk,↓den,↓denA,Sa,Sb,Sc,Se,O1.d,O2.d,O3.d,cmI,arI,envOf,putN,↓reduceIte,Nat.reduceLT,Nat.reduceSub,Nat.reduceAdd,Int.reduceAdd,Int.reduceEq,Int.reduceLT,Int.reduceLE,arr_pos,arr_neg,↓wpJoin,tab_len,C_slices_Equal_b z1 z n hn,hOl,decide_eq_true_eq]
    exact ⟨fun g=>hset _ (hfin g),fun g=>hnext _ rfl g⟩
   ·simp+contextual(maxSteps:=1000000)(disch:=omega)only[↓Sd,↓So,↓Sk,↓den,↓denA,Sa,Sb,Sc,Se,O1.d,O2.d,O3.d,cmI,arI,envOf,putN,↓reduceIte,Nat.reduceLT,Nat.reduceSub,Nat.reduceAdd,Int.reduceAdd,Int.reduceEq,Int.reduceLT,Int.reduceLE,arr_pos,arr_neg,↓wpJoin,hti,hOl,hga,hgb]
    have htr:∀k,k<n→trR T n LT (7,m,(a:Int),(b:Int)) P k=gaI T n false p n k:=fun k hk=>by
     have e1:=@egI_ga T n p n k hk
     simp [trR,hp,e1]
    refine mc.lp_inv (fun μ us=>∃j,j≤n∧μ=n - j∧us=[⟨L B,tab (gaI T n false p j) n⟩,⟨L (L I),LT⟩,⟨L T4,l⟩,⟨I,(l.length:Int)⟩,⟨I,(i:Int)⟩,⟨I,(i:Int)⟩,⟨L (L I),T⟩,⟨B,false⟩,⟨L B,tab p n⟩,⟨L (L B),O⟩]) n _ ⟨0,Nat.zero_le _,rfl,rfl⟩ ?_
    rintro μ us ⟨j,hj,rfl,rfl⟩
    have hfix:=@gaI_fix T n false p
    have hz1:gaI T n false p (j+1)=fun k=>p k&&nxB T n false (gaI T n false p j) k:=funext fun k=>rfl
    have hfin:(∀k,k<n→gaI T n false p (j+1) k=gaI T n false p j k)→tab (gaI T n false p j) n=tab (trR T n LT (7,m,(a:Int),(b:Int)) P) n:=fun hh=>tab_congr fun k hk=>by rw [htr k hk,hfix.2 j hj hh k hk]
    have hgo:¬(∀k,k<n→gaI T n false p (j+1) k=gaI T n false p j k)→j+1≤n:=fun hh=>Classical.byContradiction fun h2=>hh (by
     have:j=n:=by omega
     subst this
     exact hfix.1)
    have hnext:∀x,x=tab (gaI T n false p (j+1)) n→¬(∀k,k<n→gaI T n false p (j+1) k=gaI T n false p j k)→∃k',k'<n - j∧∃j',j'≤n∧k'=n - j'∧x=tab (gaI T n false p j') n:=fun x hx hh=>⟨n - (j+1),by have:=hgo hh;omega,j+1,hgo hh,rfl,hx⟩
    clear hfix hgo htr
    obtain ⟨z,hz⟩:∃z,gaI T n false p j=z:=⟨_,rfl⟩
    obtain ⟨ah,hah⟩:∃ah,(aB T n z)=ah:=⟨_,rfl⟩
    have hna:∀k,nxB T n false z k=ah k:=fun k=>by rw [←hah];simp [nxB]
    obtain ⟨z1,hz1e⟩:∃z1,gaI T n false p (j+1)=z1:=⟨_,rfl⟩
    rw [hz1e] at hfin hnext hz1
    rw [hz] at hfin hnext hz1 ⊢
    simp only [hna] at hz1
    simp+contextual(maxSteps:=1000000)(disch:=omega)only[↓Sd,↓So,↓Sk,↓den,↓denA,Sa,Sb,Sc,Se,O1.d,O2.d,O3.d,cmI,arI,envOf,putN,↓reduceIte,Nat.reduceLT,Nat.reduceSub,Nat.reduceAdd,Int.reduceAdd,Int.reduceEq,Int.reduceLT,Int.reduceLE,arr_pos,arr_neg,↓wpJoin,C_impl_some T z n hn ht,tab_len,hah]
    refine mc.lp_for (List Bool) (fun j o=>[⟨L B,tab p n⟩,⟨I,(n:Int)⟩,⟨I,(j:Int)⟩,⟨L B,tab z n⟩,⟨L (L I),LT⟩,⟨L T4,l⟩,⟨I,(l.length:Int)⟩,⟨I,(i:Int)⟩,⟨I,(i:Int)⟩,⟨L B,tab ah n⟩,⟨L B,o⟩,⟨L (L I),T⟩,⟨B,false⟩,⟨L B,tab p n⟩,⟨L (L B),O⟩]) (fun j o=>o=tab (fun k=>if k<j then p k&&ah k else false) n) n 0 (List.replicate n false) _ rfl (Nat.zero_le _) bld_0 ?_ ?_
    ·rintro j o hj rfl
     simp+contextual(maxSteps:=1000000)(disch:=omega)only[↓Sd,↓So,↓Sk,↓den,↓denA,Sa,Sb,Sc,Se,O1.d,O2.d,O3.d,cmI,arI,envOf,putN,↓reduceIte,Nat.reduceLT,Nat.reduceSub,Nat.reduceAdd,Int.reduceAdd,Int.reduceEq,Int.reduceLT,Int.reduceLE,arr_pos,arr_neg,↓wpJoin,tab_len,tab_get hj]
     refine ⟨fun g=>bld_s ?_,fun g=>bld_s ?_⟩<;>simp [g]
    rintro o rfl
    rw [bld_n,←hz1]
    simp+contextual(maxSteps:=1000000)(disch:=omega)only[↓Sd,↓So,↓Sk,↓den,↓denA,Sa,Sb,Sc,Se,O1.d,O2.d,O3.d,cmI,arI,envOf,putN,↓reduceIte,Nat.reduceLT,Nat.reduceSub,Nat.reduceAdd,Int.reduceAdd,Int.reduceEq,Int.reduceLT,Int.reduceLE,arr_pos,arr_neg,↓wpJoin,tab_len,C_slices_Equal_b z1 z n hn,hOl,decide_eq_true_eq]
    exact ⟨fun g=>hset _ (hfin g),fun g=>hnext _ rfl g⟩
   ·simp+contextual(maxSteps:=1000000)(disch:=omega)only[↓Sd,↓So,↓Sk,↓den,↓denA,Sa,Sb,Sc,Se,O1.d,O2.d,O3.d,cmI,arI,envOf,putN,↓reduceIte,Nat.reduceLT,Nat.reduceSub,Nat.reduceAdd,Int.reduceAdd,Int.reduceEq,Int.reduceLT,Int.reduceLE,arr_pos,arr_neg,↓wpJoin,hti,hOl,hga,hgb,C_impl_not p n hn,C_impl_some T (fun k=>!p k) n hn ht,C_impl_not (aB T n fun k=>!p k) n hn]
    exact hset _ (tab_congr fun k _=>by simp [trR,hp])
   ·simp+contextual(maxSteps:=1000000)(disch:=omega)only[↓Sd,↓So,↓Sk,↓den,↓denA,Sa,Sb,Sc,Se,O1.d,O2.d,O3.d,cmI,arI,envOf,putN,↓reduceIte,Nat.reduceLT,Nat.reduceSub,Nat.reduceAdd,Int.reduceAdd,Int.reduceEq,Int.reduceLT,Int.reduceLE,arr_pos,arr_neg,↓wpJoin,hti,hOl,hga,hgb]
    have htr:∀k,k<n→trR T n LT (9,m,(a:Int),(b:Int)) P k=fuI T n true p q n k:=fun k hk=>by
     have e1:=@auS_fu T n p q k hk
     simp [trR,hp,hq,←e1]
    refine mc.lp_inv (fun μ us=>∃j,j≤n∧μ=n - j∧us=[⟨L B,tab (fuI T n true p q j) n⟩,⟨L (L I),LT⟩,⟨L T4,l⟩,⟨I,(l.length:Int)⟩,⟨I,(i:Int)⟩,⟨I,(i:Int)⟩,⟨L (L I),T⟩,⟨B,true⟩,⟨L B,tab q n⟩,⟨L B,tab p n⟩,⟨L (L B),O⟩]) n _ ⟨0,Nat.zero_le _,rfl,rfl⟩ ?_
    rintro μ us ⟨j,hj,rfl,rfl⟩
    have hfix:=@fuI_fix T n true p q
    have hz1:fuI T n true p q (j+1)=fun k=>q k||(p k&&nxB T n true (fuI T n true p q j) k):=funext fun k=>rfl
    have hfin:(∀k,k<n→fuI T n true p q (j+1) k=fuI T n true p q j k)→tab (fuI T n true p q j) n=tab (trR T n LT (9,m,(a:Int),(b:Int)) P) n:=fun hh=>tab_congr fun k hk=>by rw [htr k hk,hfix.2 j hj hh k hk]
    have hgo:¬(∀k,k<n→fuI T n true p q (j+1) k=fuI T n true p q j k)→j+1≤n:=fun hh=>Classical.byContradiction fun h2=>hh (by
     have:j=n:=by omega
     subst this
     exact hfix.1)
    have hnext:∀x,x=tab (fuI T n true p q (j+1)) n→¬(∀k,k<n→fuI T n true p q (j+1) k=fuI T n true p q j k)→∃k',k'<n - j∧∃j',j'≤n∧k'=n - j'∧x=tab (fuI T n true p q j') n:=fun x hx hh=>⟨n - (j+1),by have:=hgo hh;omega,j+1,hgo hh,rfl,hx⟩
    clear hfix hgo htr
    obtain ⟨z,hz⟩:∃z,fuI T n true p q j=z:=⟨_,rfl⟩
    obtain ⟨ah,hah⟩:∃ah,(fun k=>!aB T n (fun k=>!z k) k)=ah:=⟨_,rfl⟩
    have hna:∀k,nxB T n true z k=ah k:=fun k=>by rw [←hah];simp [nxB]
    obtain ⟨z1,hz1e⟩:∃z1,fuI T n true p q (j+1)=z1:=⟨_,rfl⟩
    rw [hz1e] at hfin hnext hz1
    rw [hz] at hfin hnext hz1 ⊢
    simp only [hna] at hz1
    simp+contextual(maxSteps:=1000000)(disch:=omega)only[↓Sd,↓So,↓Sk,↓den,↓denA,Sa,Sb,Sc,Se,O1.d,O2.d,O3.d,cmI,arI,envOf,putN,↓reduceIte,Nat.reduceLT,Nat.reduceSub,Nat.reduceAdd,Int.reduceAdd,Int.reduceEq,Int.reduceLT,Int.reduceLE,arr_pos,arr_neg,↓wpJoin,C_impl_some T z n hn ht,C_impl_not z n hn,C_impl_some T (fun k=>!z k) n hn ht,C_impl_not (aB T n fun k=>!z k) n hn,tab_len,hah]
    refine mc.lp_for (List Bool) (fun j o=>[⟨L B,tab p n⟩,⟨I,(n:Int)⟩,⟨I,(j:Int)⟩,⟨L B,tab q n⟩,⟨L B,tab z n⟩,⟨L (L I),LT⟩,⟨L T4,l⟩,⟨I,(l.length:Int)⟩,⟨I,(i:Int)⟩,⟨I,(i:Int)⟩,⟨L B,tab ah n⟩,⟨L B,o⟩,⟨L (L I),T⟩,⟨B,true⟩,⟨L B,tab q n⟩,⟨L B,tab p n⟩,⟨L (L B),O⟩]) (fun j o=>o=tab (fun k=>if k<j then p k&&ah k else false) n) n 0 (List.replicate n false) _ rfl (Nat.zero_le _) bld_0 ?_ ?_
    ·rintro j o hj rfl
     simp+contextual(maxSteps:=1000000)(disch:=omega)only[↓Sd,↓So,↓Sk,↓den,↓denA,Sa,Sb,Sc,Se,O1.d,O2.d,O3.d,cmI,arI,envOf,putN,↓reduceIte,Nat.reduceLT,Nat.reduceSub,Nat.reduceAdd,Int.reduceAdd,Int.reduceEq,Int.reduceLT,Int.reduceLE,arr_pos,arr_neg,↓wpJoin,tab_len,tab_get hj]
     refine ⟨fun g=>bld_s ?_,fun g=>bld_s ?_⟩<;>simp [g]
    rintro o rfl
    rw [bld_n]
    simp+contextual(maxSteps:=1000000)(disch:=omega)only[↓Sd,↓So,↓Sk,↓den,↓denA,Sa,Sb,Sc,Se,O1.d,O2.d,O3.d,cmI,arI,envOf,putN,↓reduceIte,Nat.reduceLT,Nat.reduceSub,Nat.reduceAdd,Int.reduceAdd,Int.reduceEq,Int.reduceLT,Int.reduceLE,arr_pos,arr_neg,↓wpJoin,tab_len]
    refine mc.lp_for (List Bool) (fun j o=>[⟨L B,tab q n⟩,⟨I,(n:Int)⟩,⟨I,(j:Int)⟩,⟨L B,tab z n⟩,⟨L (L I),LT⟩,⟨L T4,l⟩,⟨I,(l.length:Int)⟩,⟨I,(i:Int)⟩,⟨I,(i:Int)⟩,⟨L B,tab (fun k=>p k&&ah k) n⟩,⟨L B,o⟩,⟨L (L I),T⟩,⟨B,true⟩,⟨L B,tab q n⟩,⟨L B,tab p n⟩,⟨L (L B),O⟩]) (fun j o=>o=tab (fun k=>if k<j then q k||(p k&&ah k) else false) n) n 0 (List.replicate n false) _ rfl (Nat.zero_le _) bld_0 ?_ ?_
    ·rintro j o hj rfl
     simp+contextual(maxSteps:=1000000)(disch:=omega)only[↓Sd,↓So,↓Sk,↓den,↓denA,Sa,Sb,Sc,Se,O1.d,O2.d,O3.d,cmI,arI,envOf,putN,↓reduceIte,Nat.reduceLT,Nat.reduceSub,Nat.reduceAdd,Int.reduceAdd,Int.reduceEq,Int.reduceLT,Int.reduceLE,arr_pos,arr_neg,↓wpJoin,tab_len,tab_get hj]
     refine ⟨fun g=>bld_s ?_,fun g=>bld_s ?_⟩<;>simp [g]
    rintro o rfl
    rw [bld_n,←hz1]
    simp+contextual(maxSteps:=1000000)(disch:=omega)only[↓Sd,↓So,↓Sk,↓den,↓denA,Sa,Sb,Sc,Se,O1.d,O2.d,O3.d,cmI,arI,envOf,putN,↓reduceIte,Nat.reduceLT,Nat.reduceSub,Nat.reduceAdd,Int.reduceAdd,Int.reduceEq,Int.reduceLT,Int.reduceLE,arr_pos,arr_neg,↓wpJoin,tab_len,C_slices_Equal_b z1 z n hn,hOl,decide_eq_true_eq]
    exact ⟨fun g=>hset _ (hfin g),fun g=>hnext _ rfl g⟩
   ·simp+contextual(maxSteps:=1000000)(disch:=omega)only[↓Sd,↓So,↓Sk,↓den,↓denA,Sa,Sb,Sc,Se,O1.d,O2.d,O3.d,cmI,arI,envOf,putN,↓reduceIte,Nat.reduceLT,Nat.reduceSub,Nat.reduceAdd,Int.reduceAdd,Int.reduceEq,Int.reduceLT,Int.reduceLE,arr_pos,arr_neg,↓wpJoin,hti,hOl,hga,hgb]
    have htr:∀k,k<n→trR T n LT (10,m,(a:Int),(b:Int)) P k=gaI T n true p n k:=fun k hk=>by
     have e1:=@gaI_all T n p n k hk
     have e2:=@euI_fu T n (fun _=>true) (fun k=>!p k) n k hk
     simp [trR,hp,e1,e2]
    refine mc.lp_inv (fun μ us=>∃j,j≤n∧μ=n - j∧us=[⟨L B,tab (gaI T n true p j) n⟩,⟨L (L I),LT⟩,⟨L T4,l⟩,⟨I,(l.length:Int)⟩,⟨I,(i:Int)⟩,⟨I,(i:Int)⟩,⟨L (L I),T⟩,⟨B,true⟩,⟨L B,tab p n⟩,⟨L (L B),O⟩]) n _ ⟨0,Nat.zero_le _,rfl,rfl⟩ ?_
    rintro μ us ⟨j,hj,rfl,rfl⟩
    have hfix:=@gaI_fix T n true p
    have hz1:gaI T n true p (j+1)=fun k=>p k&&nxB T n true (gaI T n true p j) k:=funext fun k=>rfl
    have hfin:(∀k,k<n→gaI T n true p (j+1) k=gaI T n true p j k)→tab (gaI T n true p j) n=tab (trR T n LT (10,m,(a:Int),(b:Int)) P) n:=fun hh=>tab_congr fun k hk=>by rw [htr k hk,hfix.2 j hj hh k hk]
    have hgo:¬(∀k,k<n→gaI T n true p (j+1) k=gaI T n true p j k)→j+1≤n:=fun hh=>Classical.byContradiction fun h2=>hh (by
     have:j=n:=by omega
     subst this
     exact hfix.1)
    have hnext:∀x,x=tab (gaI T n true p (j+1)) n→¬(∀k,k<n→gaI T n true p (j+1) k=gaI T n true p j k)→∃k',k'<n - j∧∃j',j'≤n∧k'=n - j'∧x=tab (gaI T n true p j') n:=fun x hx hh=>⟨n - (j+1),by have:=hgo hh;omega,j+1,hgo hh,rfl,hx⟩
    clear hfix hgo htr
    obtain ⟨z,hz⟩:∃z,gaI T n true p j=z:=⟨_,rfl⟩
    obtain ⟨ah,hah⟩:∃ah,(fun k=>!aB T n (fun k=>!z k) k)=ah:=⟨_,rfl⟩
    have hna:∀k,nxB T n true z k=ah k:=fun k=>by rw [←hah];simp [nxB]
    obtain ⟨z1,hz1e⟩:∃z1,gaI T n true p (j+1)=z1:=⟨_,rfl⟩
    rw [hz1e] at hfin hnext hz1
    rw [hz] at hfin hnext hz1 ⊢
    simp only [hna] at hz1
    simp+contextual(maxSteps:=1000000)(disch:=omega)only[↓Sd,↓So,↓Sk,↓den,↓denA,Sa,Sb,Sc,Se,O1.d,O2.d,O3.d,cmI,arI,envOf,putN,↓reduceIte,Nat.reduceLT,Nat.reduceSub,Nat.reduceAdd,Int.reduceAdd,Int.reduceEq,Int.reduceLT,Int.reduceLE,arr_pos,arr_neg,↓wpJoin,C_impl_some T z n hn ht,C_impl_not z n hn,C_impl_some T (fun k=>!z k) n hn ht,C_impl_not (aB T n fun k=>!z k) n hn,tab_len,hah]
    refine mc.lp_for (List Bool) (fun j o=>[⟨L B,tab p n⟩,⟨I,(n:Int)⟩,⟨I,(j:Int)⟩,⟨L B,tab z n⟩,⟨L (L I),LT⟩,⟨L T4,l⟩,⟨I,(l.length:Int)⟩,⟨I,(i:Int)⟩,⟨I,(i:Int)⟩,⟨L B,tab ah n⟩,⟨L B,o⟩,⟨L (L I),T⟩,⟨B,true⟩,⟨L B,tab p n⟩,⟨L (L B),O⟩]) (fun j o=>o=tab (fun k=>if k<j then p k&&ah k else false) n) n 0 (List.replicate n false) _ rfl (Nat.zero_le _) bld_0 ?_ ?_
    ·rintro j o hj rfl
     simp+contextual(maxSteps:=1000000)(disch:=omega)only[↓Sd,↓So,↓Sk,↓den,↓denA,Sa,Sb,Sc,Se,O1.d,O2.d,O3.d,cmI,arI,envOf,putN,↓reduceIte,Nat.reduceLT,Nat.reduceSub,Nat.reduceAdd,Int.reduceAdd,Int.reduceEq,Int.reduceLT,Int.reduceLE,arr_pos,arr_neg,↓wpJoin,tab_len,tab_get hj]
     refine ⟨fun g=>bld_s ?_,fun g=>bld_s ?_⟩<;>simp [g]
    rintro o rfl
    rw [bld_n,←hz1]
    simp+contextual(maxSteps:=1000000)(disch:=omega)only[↓Sd,↓So,↓Sk,↓den,↓denA,Sa,Sb,Sc,Se,O1.d,O2.d,O3.d,cmI,arI,envOf,putN,↓reduceIte,Nat.reduceLT,Nat.reduceSub,Nat.reduceAdd,Int.reduceAdd,Int.reduceEq,Int.reduceLT,Int.reduceLE,arr_pos,arr_neg,↓wpJoin,tab_len,C_slices_Equal_b z1 z n hn,hOl,decide_eq_true_eq]
    exact ⟨fun g=>hset _ (hfin g),fun g=>hnext _ rfl g⟩
 ·rintro o rfl
  rw [trO_n]
  simp+contextual(maxSteps:=1000000)(disch:=omega)only[↓Sd,↓So,↓Sk,↓den,↓denA,Sa,Sb,Sc,Se,O1.d,O2.d,O3.d,cmI,arI,envOf,putN,↓reduceIte,Nat.reduceLT,Nat.reduceSub,Nat.reduceAdd,Int.reduceAdd,Int.reduceEq,Int.reduceLT,Int.reduceLE,arr_pos,arr_neg,]
noncomputable def trT (s:Sy) (F:List (List Tm)) (l:List Tm):List (List Int):=tab (fun a=>upTo (trP (onw s) (szn s.1) (ltrs s F) l l.length a) (szn s.1)) l.length
noncomputable def trT0 (s:Sy) (F:List (List Tm)) (l:List Tm):List (List Int):=if uAsk s F l then trT s F l else []
noncomputable def trU (s:Sy) (F:List (List Tm)) (l:List Tm):List Int:=if uAsk s F l then upTo (trP (onw s) (szn s.1) (ltrs s F) l l.length (l.length - 1)) (szn s.1) else []
theorem C_spec_TreeSets_t (s:Sy) (F:List (List Tm)) (l:List Tm) (hs:FewSy s) (hF:FewSS F) (hl:Few l) (Q:List AV→Prop) :
  mc.C f_spec_TreeSets [⟨L V3,s.1⟩,⟨L TR,s.2⟩,⟨L (L T4),F⟩,⟨L T4,l⟩] Q=Q [⟨L (L I),trT0 s F l⟩]:=by
 refine Mc.Ends.c (mc.ends F_spec_TreeSets ?_)
 unfold trT0
 by_cases h:uAsk s F l
 ·have hz:=szn_eq h.1.1
  have hml:=h.2.2.1
  rw [if_pos h]
  simp+contextual(maxSteps:=1000000)(disch:=omega)only[↓Sd,↓So,↓Sk,↓den,↓denA,Sa,Sb,Sc,Se,O1.d,O2.d,O3.d,cmI,arI,envOf,putN,↓reduceIte,Nat.reduceLT,Nat.reduceSub,Nat.reduceAdd,Int.reduceAdd,Int.reduceEq,Int.reduceLT,Int.reduceLE,arr_pos,arr_neg,tr_spec_TreeSets,C_spec_l24Asked s F l hs hF hl,decide_eq_true h,C_spec_l24Rows s F l hs h.1 h.2]
  refine mc.lp_for (List (List Int)) (fun i o=>[⟨I,(i:Int)⟩,⟨L (L I),o⟩,⟨L (L B),tab (fun a=>tab (trP (onw s) (szn s.1) (ltrs s F) l l.length a) (szn s.1)) l.length⟩]) (fun i o=>o=tab (fun a=>upTo (trP (onw s) (szn s.1) (ltrs s F) l l.length a) (szn s.1)) i) l.length 0 [] _ rfl (Nat.zero_le _) rfl ?_ ?_
  ·rintro i o hi rfl
   simp+contextual(maxSteps:=1000000)(disch:=omega)only[↓Sd,↓So,↓Sk,↓den,↓denA,Sa,Sb,Sc,Se,O1.d,O2.d,O3.d,cmI,arI,envOf,putN,↓reduceIte,Nat.reduceLT,Nat.reduceSub,Nat.reduceAdd,Int.reduceAdd,Int.reduceEq,Int.reduceLT,Int.reduceLE,arr_pos,arr_neg,tab_len,tab_get hi,C_spec_l4List_tab _ (szn s.1) (by omega:szn s.1≤1048576)]
   exact tab_next
  ·rintro o rfl
   simp+contextual(maxSteps:=1000000)(disch:=omega)only[↓Sd,↓So,↓Sk,↓den,↓denA,Sa,Sb,Sc,Se,O1.d,O2.d,O3.d,cmI,arI,envOf,putN,↓reduceIte,Nat.reduceLT,Nat.reduceSub,Nat.reduceAdd,Int.reduceAdd,Int.reduceEq,Int.reduceLT,Int.reduceLE,arr_pos,arr_neg,tab_len]
   rfl
 ·rw [if_neg h]
  simp+contextual(maxSteps:=1000000)(disch:=omega)only[↓Sd,↓So,↓Sk,↓den,↓denA,Sa,Sb,Sc,Se,O1.d,O2.d,O3.d,cmI,arI,envOf,putN,↓reduceIte,Nat.reduceLT,Nat.reduceSub,Nat.reduceAdd,Int.reduceAdd,Int.reduceEq,Int.reduceLT,Int.reduceLE,arr_pos,arr_neg,tr_spec_TreeSets,C_spec_l24Asked s F l hs hF hl,decide_eq_false h]
theorem C_impl_TreeSets_t (s:Sy) (F:List (List Tm)) (l:List Tm) (hs:FewSy s) (hF:FewSS F) (hl:Few l) (Q:List AV→Prop) :
  mc.C f_impl_TreeSets [⟨L V3,s.1⟩,⟨L TR,s.2⟩,⟨L (L T4),F⟩,⟨L T4,l⟩] Q=Q [⟨N (L I),trT0 s F l⟩]:=by
 refine Mc.Ends.c (mc.ends F_impl_TreeSets ?_)
 unfold trT0
 by_cases h:uAsk s F l
 ·have hz:=szn_eq h.1.1
  have hml:=h.2.2.1
  rw [if_pos h]
  simp+contextual(maxSteps:=1000000)(disch:=omega)only[↓Sd,↓So,↓Sk,↓den,↓denA,Sa,Sb,Sc,Se,O1.d,O2.d,O3.d,cmI,arI,envOf,putN,↓reduceIte,Nat.reduceLT,Nat.reduceSub,Nat.reduceAdd,Int.reduceAdd,Int.reduceEq,Int.reduceLT,Int.reduceLE,arr_pos,arr_neg,tr_impl_TreeSets,C_impl_askTree s F l hs hF hl,decide_eq_true h,C_impl_followers s h.1.1,C_impl_lettersAll s F h.1,C_impl_treeRows l (onw s) (ltrs s F) (szn s.1) F.length (by omega) (onw_tbl h.1.1) tab_len (fun k hk=>ltrs_row hk) h.2,tab_len]
  refine mc.lp_for (List (List Int)) (fun i o=>[⟨I,(l.length:Int)⟩,⟨I,(i:Int)⟩,⟨L (L I),o⟩,⟨L (L B),tab (fun a=>tab (trP (onw s) (szn s.1) (ltrs s F) l l.length a) (szn s.1)) l.length⟩]) (fun i o=>o=tab (fun a=>upTo (trP (onw s) (szn s.1) (ltrs s F) l l.length a) (szn s.1)) i) l.length 0 [] _ rfl (Nat.zero_le _) rfl ?_ ?_
  ·rintro i o hi rfl
   simp+contextual(maxSteps:=1000000)(disch:=omega)only[↓Sd,↓So,↓Sk,↓den,↓denA,Sa,Sb,Sc,Se,O1.d,O2.d,O3.d,cmI,arI,envOf,putN,↓reduceIte,Nat.reduceLT,Nat.reduceSub,Nat.reduceAdd,Int.reduceAdd,Int.reduceEq,Int.reduceLT,Int.reduceLE,arr_pos,arr_neg,tab_len,tab_get hi,C_impl_listOf_tab _ (szn s.1) (by omega:szn s.1≤1048576)]
   exact tab_next
  ·rintro o rfl
   have hne:(tab (fun a=>upTo (trP (onw s) (szn s.1) (ltrs s F) l l.length a) (szn s.1)) l.length).isEmpty=false:=by
    cases h0:tab (fun a=>upTo (trP (onw s) (szn s.1) (ltrs s F) l l.length a) (szn s.1)) l.length with
    | cons x t=>rfl
    | nil =>
     have h1:=congrArg List.length h0
     rw [tab_len] at h1
     simp only [List.length_nil] at h1
     omega
   simp+contextual(maxSteps:=1000000)(disch:=omega)only[↓Sd,↓So,↓Sk,↓den,↓denA,Sa,Sb,Sc,Se,O1.d,O2.d,O3.d,cmI,arI,envOf,putN,↓reduceIte,Nat.reduceLT,Nat.reduceSub,Nat.reduceAdd,Int.reduceAdd,Int.reduceEq,Int.reduceLT,Int.reduceLE,arr_pos,arr_neg,C_impl_clone_Sint (tab (fun a=>upTo (trP (onw s) (szn s.1) (ltrs s F) l l.length a) (szn s.1)) l.length) (by rw [tab_len];omega),hne]
   rfl
 ·rw [if_neg h]
  simp+contextual(maxSteps:=1000000)(disch:=omega)only[↓Sd,↓So,↓Sk,↓den,↓denA,Sa,Sb,Sc,Se,O1.d,O2.d,O3.d,cmI,arI,envOf,putN,↓reduceIte,Nat.reduceLT,Nat.reduceSub,Nat.reduceAdd,Int.reduceAdd,Int.reduceEq,Int.reduceLT,Int.reduceLE,arr_pos,arr_neg,tr_impl_TreeSets,C_impl_askTree s F l hs hF hl,decide_eq_false h]
theorem trT0_last {s:Sy} {F:List (List Tm)} {l:List Tm} (h:uAsk s F l):(trT0 s F l).length=l.length∧1≤l.length∧l.length≤24∧(trT0 s F l).getD (l.length - 1) []=trU s F l:=by
 have hml:=h.2.2.1
 unfold trT0 trU
 rw [if_pos h,if_pos h]
 exact ⟨tab_len,by omega,by omega,tab_get (by omega)⟩
theorem D_l24Draw (b:List Int) (p facts:Int) (hb:Rdy b) (hp:0≤p∧p≤600000000) {Q:List AV→Prop} (h:∀(l:List Tm) (p':Int),p≤p'∧p'≤p+1000→2≤l.length→l.length≤8→Q [⟨L T4,l⟩,⟨RD,(b,p')⟩]):mc.C f_spec_l24Draw [⟨RD,(b,p)⟩,⟨I,facts⟩] Q:=by
 refine mc.c_of F_spec_l24Draw ?_
 simp+contextual(maxSteps:=1000000)(disch:=omega)only[↓Sd,↓So,↓Sk,↓den,↓denA,Sa,Sb,Sc,Se,O1.d,O2.d,O3.d,cmI,arI,envOf,putN,↓reduceIte,Nat.reduceLT,Nat.reduceSub,Nat.reduceAdd,Int.reduceAdd,Int.reduceEq,Int.reduceLT,Int.reduceLE,arr_pos,arr_neg,tr_spec_l24Draw]
 refine D_pick1 _ _ _ hb (by omega) (by omega) fun n n0 n1=>?_;simp+contextual(maxSteps:=1000000)(disch:=omega)only[↓Sd,↓So,↓Sk,↓den,↓denA,Sa,Sb,Sc,Se,O1.d,O2.d,O3.d,cmI,arI,envOf,putN,↓reduceIte,Nat.reduceLT,Nat.reduceSub,Nat.reduceAdd,Int.reduceAdd,Int.reduceEq,Int.reduceLT,Int.reduceLE,arr_pos,arr_neg,]
 obtain ⟨N,hN⟩:∃N:Nat,n=N:=⟨n.toNat,by omega⟩
 subst hN
 refine mc.lp_inv (fun k us=>∃(p1:Int) (l:List Tm),us=[⟨I,facts⟩,⟨I,(k:Int)⟩,⟨L U,b⟩,⟨I,p1⟩,⟨L T4,l⟩]∧l.length+k=2+N∧p≤p1∧p1+20 * k≤p+1+20 * (2+N)) (2+N) _ ⟨p+1,[],by simp,by simp,by omega,by omega⟩ ?_
 rintro k us ⟨p1,l,rfl,i1,i2,i3⟩
 cases k with
 | zero =>
  simp+contextual(maxSteps:=1000000)(disch:=omega)only[↓Sd,↓So,↓Sk,↓den,↓denA,Sa,Sb,Sc,Se,O1.d,O2.d,O3.d,cmI,arI,envOf,putN,↓reduceIte,Nat.reduceLT,Nat.reduceSub,Nat.reduceAdd,Int.reduceAdd,Int.reduceEq,Int.reduceLT,Int.reduceLE,arr_pos,arr_neg,]
  exact h _ _ (by omega) (by omega) (by omega)
 | succ k =>
  simp+contextual(maxSteps:=1000000)(disch:=omega)only[↓Sd,↓So,↓Sk,↓den,↓denA,Sa,Sb,Sc,Se,O1.d,O2.d,O3.d,cmI,arI,envOf,putN,↓reduceIte,Nat.reduceLT,Nat.reduceSub,Nat.reduceAdd,Int.reduceAdd,Int.reduceEq,Int.reduceLT,Int.reduceLE,arr_pos,arr_neg,]
  refine D_num _ _ _ hb (by omega) (by simp) (by simp) fun o o0=>?_;simp+contextual(maxSteps:=1000000)(disch:=omega)only[↓Sd,↓So,↓Sk,↓den,↓denA,Sa,Sb,Sc,Se,O1.d,O2.d,O3.d,cmI,arI,envOf,putN,↓reduceIte,Nat.reduceLT,Nat.reduceSub,Nat.reduceAdd,Int.reduceAdd,Int.reduceEq,Int.reduceLT,Int.reduceLE,arr_pos,arr_neg,]
  refine mc.wp_join (fun us=>∃(p2:Int) (t:Tm),us=[⟨I,facts⟩,⟨I,(k:Int)+1⟩,⟨L U,b⟩,⟨I,p2⟩,⟨L T4,l⟩,⟨I,t.1⟩,⟨I,t.2.1⟩,⟨I,t.2.2.1⟩,⟨I,t.2.2.2⟩]∧p1≤p2∧p2≤p1+20) ?_ ?_
  ·simp+contextual(maxSteps:=1000000)(disch:=omega)only[↓Sd,↓So,↓Sk,↓den,↓denA,Sa,Sb,Sc,Se,O1.d,O2.d,O3.d,cmI,arI,envOf,putN,↓reduceIte,Nat.reduceLT,Nat.reduceSub,Nat.reduceAdd,Int.reduceAdd,Int.reduceEq,Int.reduceLT,Int.reduceLE,arr_pos,arr_neg,]
   refine ⟨fun g=>?_,fun g=>⟨fun g1=>?_,fun g1=>?_⟩⟩
   ·refine D_pick _ _ _ hb (by omega) fun v1 _ _=>?_
    simp+contextual(maxSteps:=1000000)(disch:=omega)only[↓Sd,↓So,↓Sk,↓den,↓denA,Sa,Sb,Sc,Se,O1.d,O2.d,O3.d,cmI,arI,envOf,putN,↓reduceIte,Nat.reduceLT,Nat.reduceSub,Nat.reduceAdd,Int.reduceAdd,Int.reduceEq,Int.reduceLT,Int.reduceLE,arr_pos,arr_neg,]
    repeat' first | apply And.intro | intro _
    all_goals first
     | exact ⟨_,(_,_,_,_),⟨rfl,rfl,rfl,rfl,rfl⟩,by omega,by omega⟩
     | omega
   ·refine D_pick _ _ _ hb (by omega) fun v1 _ _=>?_
    simp+contextual(maxSteps:=1000000)(disch:=omega)only[↓Sd,↓So,↓Sk,↓den,↓denA,Sa,Sb,Sc,Se,O1.d,O2.d,O3.d,cmI,arI,envOf,putN,↓reduceIte,Nat.reduceLT,Nat.reduceSub,Nat.reduceAdd,Int.reduceAdd,Int.reduceEq,Int.reduceLT,Int.reduceLE,arr_pos,arr_neg,]
    repeat' first | apply And.intro | intro _
    all_goals first
     | exact ⟨_,(_,_,_,_),⟨rfl,rfl,rfl,rfl,rfl⟩,by omega,by omega⟩
     | omega
   ·refine D_pick1 _ _ _ hb (by omega) (by omega) fun x x0 x1=>?_;simp+contextual(maxSteps:=1000000)(disch:=omega)only[↓Sd,↓So,↓Sk,↓den,↓denA,Sa,Sb,Sc,Se,O1.d,O2.d,O3.d,cmI,arI,envOf,putN,↓reduceIte,Nat.reduceLT,Nat.reduceSub,Nat.reduceAdd,Int.reduceAdd,Int.reduceEq,Int.reduceLT,Int.reduceLE,arr_pos,arr_neg,]
    refine D_pick1 _ _ _ hb (by omega) (by omega) fun y y0 y1=>?_;simp+contextual(maxSteps:=1000000)(disch:=omega)only[↓Sd,↓So,↓Sk,↓den,↓denA,Sa,Sb,Sc,Se,O1.d,O2.d,O3.d,cmI,arI,envOf,putN,↓reduceIte,Nat.reduceLT,Nat.reduceSub,Nat.reduceAdd,Int.reduceAdd,Int.reduceEq,Int.reduceLT,Int.reduceLE,arr_pos,arr_neg,]
    refine D_pick1 _ _ _ hb (by omega) (by omega) fun z z0 z1=>?_;simp+contextual(maxSteps:=1000000)(disch:=omega)only[↓Sd,↓So,↓Sk,↓den,↓denA,Sa,Sb,Sc,Se,O1.d,O2.d,O3.d,cmI,arI,envOf,putN,↓reduceIte,Nat.reduceLT,Nat.reduceSub,Nat.reduceAdd,Int.reduceAdd,Int.reduceEq,Int.reduceLT,Int.reduceLE,arr_pos,arr_neg,]
    simp+contextual(maxSteps:=1000000)(disch:=omega)only[↓Sd,↓So,↓Sk,↓den,↓denA,Sa,Sb,Sc,Se,O1.d,O2.d,O3.d,cmI,arI,envOf,putN,↓reduceIte,Nat.reduceLT,Nat.reduceSub,Nat.reduceAdd,Int.reduceAdd,Int.reduceEq,Int.reduceLT,Int.reduceLE,arr_pos,arr_neg,C_spec_l24One]
    repeat' first | apply And.intro | intro _
    all_goals first
     | exact ⟨_,(_,_,_,_),⟨rfl,rfl,rfl,rfl,rfl⟩,by omega,by omega⟩
     | omega
  ·rintro us ⟨p2,t,rfl,c1,c2⟩
   simp+contextual(maxSteps:=1000000)(disch:=omega)only[↓Sd,↓So,↓Sk,↓den,↓denA,Sa,Sb,Sc,Se,O1.d,O2.d,O3.d,cmI,arI,envOf,putN,↓reduceIte,Nat.reduceLT,Nat.reduceSub,Nat.reduceAdd,Int.reduceAdd,Int.reduceEq,Int.reduceLT,Int.reduceLE,arr_pos,arr_neg,]
   exact ⟨k,by omega,p2,l++[t],⟨rfl,rfl,rfl⟩,by simp only [List.length_append,List.length_singleton];omega,by omega,by omega⟩
theorem D_l24Any (b:List Int) (p facts:Int) (hb:Rdy b) (hp:0≤p∧p≤500000000) {Q:List AV→Prop} (h:∀(l:List Tm) (p':Int),p≤p'∧p'≤p+2000→2≤l.length→l.length≤8→Q [⟨L T4,l⟩,⟨RD,(b,p')⟩]):mc.C f_spec_l24Any [⟨RD,(b,p)⟩,⟨I,facts⟩] Q:=by
 refine mc.c_of F_spec_l24Any ?_
 simp+contextual(maxSteps:=1000000)(disch:=omega)only[↓Sd,↓So,↓Sk,↓den,↓denA,Sa,Sb,Sc,Se,O1.d,O2.d,O3.d,cmI,arI,envOf,putN,↓reduceIte,Nat.reduceLT,Nat.reduceSub,Nat.reduceAdd,Int.reduceAdd,Int.reduceEq,Int.reduceLT,Int.reduceLE,arr_pos,arr_neg,tr_spec_l24Any]
 refine D_l24Draw _ _ _ hb (by omega) fun l p1 hp1 h2 h8=>?_
 simp+contextual(maxSteps:=1000000)(disch:=omega)only[↓Sd,↓So,↓Sk,↓den,↓denA,Sa,Sb,Sc,Se,O1.d,O2.d,O3.d,cmI,arI,envOf,putN,↓reduceIte,Nat.reduceLT,Nat.reduceSub,Nat.reduceAdd,Int.reduceAdd,Int.reduceEq,Int.reduceLT,Int.reduceLE,arr_pos,arr_neg,]
 refine mc.wp_join (fun us=>∃(p1:Int) (l:List Tm),us=[⟨L U,b⟩,⟨I,p1⟩,⟨L T4,l⟩]∧p≤p1∧p1≤p+2000∧2≤l.length∧l.length≤8) ?_ ?_
 ·simp+contextual(maxSteps:=1000000)(disch:=omega)only[↓Sd,↓So,↓Sk,↓den,↓denA,Sa,Sb,Sc,Se,O1.d,O2.d,O3.d,cmI,arI,envOf,putN,↓reduceIte,Nat.reduceLT,Nat.reduceSub,Nat.reduceAdd,Int.reduceAdd,Int.reduceEq,Int.reduceLT,Int.reduceLE,arr_pos,arr_neg,]
  refine D_pick1 _ _ _ hb (by omega) (by omega) fun a a0 a1=>?_;simp+contextual(maxSteps:=1000000)(disch:=omega)only[↓Sd,↓So,↓Sk,↓den,↓denA,Sa,Sb,Sc,Se,O1.d,O2.d,O3.d,cmI,arI,envOf,putN,↓reduceIte,Nat.reduceLT,Nat.reduceSub,Nat.reduceAdd,Int.reduceAdd,Int.reduceEq,Int.reduceLT,Int.reduceLE,arr_pos,arr_neg,]
  refine ⟨fun _=>?_,fun _=>⟨_,_,⟨rfl,rfl⟩,by omega,by omega,by omega,by omega⟩⟩
  refine D_pick1 _ _ _ hb (by omega) (by omega) fun i i0 i1=>?_;simp+contextual(maxSteps:=1000000)(disch:=omega)only[↓Sd,↓So,↓Sk,↓den,↓denA,Sa,Sb,Sc,Se,O1.d,O2.d,O3.d,cmI,arI,envOf,putN,↓reduceIte,Nat.reduceLT,Nat.reduceSub,Nat.reduceAdd,Int.reduceAdd,Int.reduceEq,Int.reduceLT,Int.reduceLE,arr_pos,arr_neg,]
  refine D_pick1 _ _ _ hb (by omega) (by omega) fun c c0 c1=>?_;simp+contextual(maxSteps:=1000000)(disch:=omega)only[↓Sd,↓So,↓Sk,↓den,↓denA,Sa,Sb,Sc,Se,O1.d,O2.d,O3.d,cmI,arI,envOf,putN,↓reduceIte,Nat.reduceLT,Nat.reduceSub,Nat.reduceAdd,Int.reduceAdd,Int.reduceEq,Int.reduceLT,Int.reduceLE,arr_pos,arr_neg,]
  refine mc.wp_join (fun us=>∃(p2:Int) (t:Tm),us=[⟨I,i⟩,⟨L U,b⟩,⟨I,p2⟩,⟨L T4,l⟩,⟨I,t.1⟩,⟨I,t.2.1⟩,⟨I,t.2.2.1⟩,⟨I,t.2.2.2⟩]∧p1≤p2∧p2≤p1+20) ?_ ?_
  ·simp+contextual(maxSteps:=1000000)(disch:=omega)only[↓Sd,↓So,↓Sk,↓den,↓denA,Sa,Sb,Sc,Se,O1.d,O2.d,O3.d,cmI,arI,envOf,putN,↓reduceIte,Nat.reduceLT,Nat.reduceSub,Nat.reduceAdd,Int.reduceAdd,Int.reduceEq,Int.reduceLT,Int.reduceLE,arr_pos,arr_neg,]
   refine ⟨fun _=>?_,fun _=>⟨fun _=>?_,fun _=>⟨fun _=>?_,fun _=>?_⟩⟩⟩
   ·refine D_num _ _ _ hb (by omega) (by simp) (by simp) fun x x0=>?_;simp+contextual(maxSteps:=1000000)(disch:=omega)only[↓Sd,↓So,↓Sk,↓den,↓denA,Sa,Sb,Sc,Se,O1.d,O2.d,O3.d,cmI,arI,envOf,putN,↓reduceIte,Nat.reduceLT,Nat.reduceSub,Nat.reduceAdd,Int.reduceAdd,Int.reduceEq,Int.reduceLT,Int.reduceLE,arr_pos,arr_neg,]
    generalize l.getD i.toNat (0,0,0,0)=t0
    exact ⟨_,(x,t0.2.1,t0.2.2.1,t0.2.2.2),⟨rfl,rfl,rfl,rfl,rfl⟩,by omega,by omega⟩
   ·refine D_num _ _ _ hb (by omega) (by simp) (by simp) fun x x0=>?_;simp+contextual(maxSteps:=1000000)(disch:=omega)only[↓Sd,↓So,↓Sk,↓den,↓denA,Sa,Sb,Sc,Se,O1.d,O2.d,O3.d,cmI,arI,envOf,putN,↓reduceIte,Nat.reduceLT,Nat.reduceSub,Nat.reduceAdd,Int.reduceAdd,Int.reduceEq,Int.reduceLT,Int.reduceLE,arr_pos,arr_neg,]
    generalize l.getD i.toNat (0,0,0,0)=t0
    exact ⟨_,(t0.1,x,t0.2.2.1,t0.2.2.2),⟨rfl,rfl,rfl,rfl,rfl⟩,by omega,by omega⟩
   ·refine D_num _ _ _ hb (by omega) (by simp) (by simp) fun x x0=>?_;simp+contextual(maxSteps:=1000000)(disch:=omega)only[↓Sd,↓So,↓Sk,↓den,↓denA,Sa,Sb,Sc,Se,O1.d,O2.d,O3.d,cmI,arI,envOf,putN,↓reduceIte,Nat.reduceLT,Nat.reduceSub,Nat.reduceAdd,Int.reduceAdd,Int.reduceEq,Int.reduceLT,Int.reduceLE,arr_pos,arr_neg,]
    generalize l.getD i.toNat (0,0,0,0)=t0
    exact ⟨_,(t0.1,t0.2.1,x,t0.2.2.2),⟨rfl,rfl,rfl,rfl,rfl⟩,by omega,by omega⟩
   ·refine D_num _ _ _ hb (by omega) (by simp) (by simp) fun x x0=>?_;simp+contextual(maxSteps:=1000000)(disch:=omega)only[↓Sd,↓So,↓Sk,↓den,↓denA,Sa,Sb,Sc,Se,O1.d,O2.d,O3.d,cmI,arI,envOf,putN,↓reduceIte,Nat.reduceLT,Nat.reduceSub,Nat.reduceAdd,Int.reduceAdd,Int.reduceEq,Int.reduceLT,Int.reduceLE,arr_pos,arr_neg,]
    generalize l.getD i.toNat (0,0,0,0)=t0
    exact ⟨_,(t0.1,t0.2.1,t0.2.2.1,x),⟨rfl,rfl,rfl,rfl,rfl⟩,by omega,by omega⟩
  ·rintro us ⟨p2,t,rfl,c1,c2⟩
   simp+contextual(maxSteps:=1000000)(disch:=omega)only[↓Sd,↓So,↓Sk,↓den,↓denA,Sa,Sb,Sc,Se,O1.d,O2.d,O3.d,cmI,arI,envOf,putN,↓reduceIte,Nat.reduceLT,Nat.reduceSub,Nat.reduceAdd,Int.reduceAdd,Int.reduceEq,Int.reduceLT,Int.reduceLE,arr_pos,arr_neg,]
   exact ⟨_,_,⟨rfl,rfl⟩,by omega,by omega,by rw [List.length_set];omega,by rw [List.length_set];omega⟩
 ·rintro us ⟨p2,l,rfl,a1,a2,a3,a4⟩
  simp+contextual(maxSteps:=1000000)(disch:=omega)only[↓Sd,↓So,↓Sk,↓den,↓denA,Sa,Sb,Sc,Se,O1.d,O2.d,O3.d,cmI,arI,envOf,putN,↓reduceIte,Nat.reduceLT,Nat.reduceSub,Nat.reduceAdd,Int.reduceAdd,Int.reduceEq,Int.reduceLT,Int.reduceLE,arr_pos,arr_neg,]
  exact h _ _ (by omega) (by omega) (by omega)
theorem D_l24Ask (b:List Int) (hb:Byt b) (hl:Lt63 b) {Q:List AV→Prop} (h:∀(b':List Int) (p:Int) (s:Sy) (F:List (List Tm)) (l:List Tm),Rdy b'→0≤p∧p≤300000→SmSy s→F.length≤4→(∀x∈F,x.length≤16)→2≤l.length→l.length≤8→Q [⟨RD,(b',p)⟩,⟨L V3,s.1⟩,⟨L TR,s.2⟩,⟨L (L T4),F⟩,⟨L T4,l⟩]):mc.C f_spec_l24Ask [⟨L U,b⟩] Q:=by
 refine mc.c_of F_spec_l24Ask ?_
 simp+contextual(maxSteps:=1000000)(disch:=omega)only[↓Sd,↓So,↓Sk,↓den,↓denA,Sa,Sb,Sc,Se,O1.d,O2.d,O3.d,cmI,arI,envOf,putN,↓reduceIte,Nat.reduceLT,Nat.reduceSub,Nat.reduceAdd,Int.reduceAdd,Int.reduceEq,Int.reduceLT,Int.reduceLE,arr_pos,arr_neg,tr_spec_l24Ask]
 refine D_open b hb hl fun b hb=>?_
 simp+contextual(maxSteps:=1000000)(disch:=omega)only[↓Sd,↓So,↓Sk,↓den,↓denA,Sa,Sb,Sc,Se,O1.d,O2.d,O3.d,cmI,arI,envOf,putN,↓reduceIte,Nat.reduceLT,Nat.reduceSub,Nat.reduceAdd,Int.reduceAdd,Int.reduceEq,Int.reduceLT,Int.reduceLE,arr_pos,arr_neg,]
 refine D_l2Any _ _ _ hb (by omega) fun s p1 hp1 hs=>?_
 simp+contextual(maxSteps:=1000000)(disch:=omega)only[↓Sd,↓So,↓Sk,↓den,↓denA,Sa,Sb,Sc,Se,O1.d,O2.d,O3.d,cmI,arI,envOf,putN,↓reduceIte,Nat.reduceLT,Nat.reduceSub,Nat.reduceAdd,Int.reduceAdd,Int.reduceEq,Int.reduceLT,Int.reduceLE,arr_pos,arr_neg,]
 have h3:=hs.1
 refine mc.wp_join (fun us=>∃(p2:Int) (F:List (List Tm)),us=[⟨L U,b⟩,⟨I,p2⟩,⟨L V3,s.1⟩,⟨L TR,s.2⟩,⟨L (L T4),F⟩]∧p1≤p2∧p2≤p1+1000∧F.length≤4∧∀x∈F,x.length≤16) ?_ ?_
 ·simp+contextual(maxSteps:=1000000)(disch:=omega)only[↓Sd,↓So,↓Sk,↓den,↓denA,Sa,Sb,Sc,Se,O1.d,O2.d,O3.d,cmI,arI,envOf,putN,↓reduceIte,Nat.reduceLT,Nat.reduceSub,Nat.reduceAdd,Int.reduceAdd,Int.reduceEq,Int.reduceLT,Int.reduceLE,arr_pos,arr_neg,C_spec_l2Var (s.1.getD 0 (0,0,0))]
  refine ⟨fun g=>⟨fun g1=>?_,fun g1=>⟨_,_,⟨rfl,rfl⟩,by omega,by omega,by simp,by simp⟩⟩,fun g=>⟨_,_,⟨rfl,rfl⟩,by omega,by omega,by simp,by simp⟩⟩
  refine D_num _ _ _ hb (by omega) (by simp) (by simp) fun n n0=>?_;simp+contextual(maxSteps:=1000000)(disch:=omega)only[↓Sd,↓So,↓Sk,↓den,↓denA,Sa,Sb,Sc,Se,O1.d,O2.d,O3.d,cmI,arI,envOf,putN,↓reduceIte,Nat.reduceLT,Nat.reduceSub,Nat.reduceAdd,Int.reduceAdd,Int.reduceEq,Int.reduceLT,Int.reduceLE,arr_pos,arr_neg,]
  have hn:0≤n∧n≤2:=by simp only [List.mem_append,List.mem_singleton] at n0;omega
  obtain ⟨N,hN⟩:∃N:Nat,n=N:=⟨n.toNat,by omega⟩
  subst hN
  refine mc.lp_inv (fun k us=>∃(p2:Int) (F:List (List Tm)),us=[⟨I,(k:Int)⟩,⟨L U,b⟩,⟨I,p2⟩,⟨L V3,s.1⟩,⟨L TR,s.2⟩,⟨L (L T4),F⟩]∧F.length+k≤2∧p1≤p2∧p2+10 * k≤p1+100∧∀x∈F,x.length≤16) N _ ⟨p1+1,[],rfl,by simp;omega,by omega,by omega,by simp⟩ ?_
  rintro k us ⟨p2,F,rfl,i1,i2,i3,i4⟩
  have app:∀(x:List Tm),x.length≤16→∀y∈F++[x],y.length≤16:=fun x hx y hy=>(List.mem_append.1 hy).elim (i4 y) fun hy=>by rw [List.mem_singleton.1 hy];exact hx
  cases k with
  | zero =>
   simp+contextual(maxSteps:=1000000)(disch:=omega)only[↓Sd,↓So,↓Sk,↓den,↓denA,Sa,Sb,Sc,Se,O1.d,O2.d,O3.d,cmI,arI,envOf,putN,↓reduceIte,Nat.reduceLT,Nat.reduceSub,Nat.reduceAdd,Int.reduceAdd,Int.reduceEq,Int.reduceLT,Int.reduceLE,arr_pos,arr_neg,]
   exact ⟨_,_,⟨rfl,rfl⟩,by omega,by omega,by omega,i4⟩
  | succ k =>
   simp+contextual(maxSteps:=1000000)(disch:=omega)only[↓Sd,↓So,↓Sk,↓den,↓denA,Sa,Sb,Sc,Se,O1.d,O2.d,O3.d,cmI,arI,envOf,putN,↓reduceIte,Nat.reduceLT,Nat.reduceSub,Nat.reduceAdd,Int.reduceAdd,Int.reduceEq,Int.reduceLT,Int.reduceLE,arr_pos,arr_neg,]
   refine D_l2Cond _ _ (s.1.getD 0 (0,0,0)) _ hb (by omega) fun m p3 hp3 hm=>?_
   simp+contextual(maxSteps:=1000000)(disch:=omega)only[↓Sd,↓So,↓Sk,↓den,↓denA,Sa,Sb,Sc,Se,O1.d,O2.d,O3.d,cmI,arI,envOf,putN,↓reduceIte,Nat.reduceLT,Nat.reduceSub,Nat.reduceAdd,Int.reduceAdd,Int.reduceEq,Int.reduceLT,Int.reduceLE,arr_pos,arr_neg,↓wpJoin,]
   exact ⟨k,by omega,p3,_,⟨iD (by omega),rfl,rfl⟩,by simp only [List.length_append,List.length_singleton];omega,by omega,by omega,app m (by omega)⟩
 rintro us ⟨p2,F,rfl,c1,c2,c3,c4⟩
 refine mc.wp_join (fun us=>∃(p2:Int) (F:List (List Tm)),us=[⟨L U,b⟩,⟨I,p2⟩,⟨L V3,s.1⟩,⟨L TR,s.2⟩,⟨L (L T4),F⟩]∧p1≤p2∧p2≤p1+20000∧F.length≤4∧∀x∈F,x.length≤16) ?_ ?_
 ·simp+contextual(maxSteps:=1000000)(disch:=omega)only[↓Sd,↓So,↓Sk,↓den,↓denA,Sa,Sb,Sc,Se,O1.d,O2.d,O3.d,cmI,arI,envOf,putN,↓reduceIte,Nat.reduceLT,Nat.reduceSub,Nat.reduceAdd,Int.reduceAdd,Int.reduceEq,Int.reduceLT,Int.reduceLE,arr_pos,arr_neg,]
  refine D_pick1 _ _ _ hb (by omega) (by omega) fun a a0 a1=>?_;simp+contextual(maxSteps:=1000000)(disch:=omega)only[↓Sd,↓So,↓Sk,↓den,↓denA,Sa,Sb,Sc,Se,O1.d,O2.d,O3.d,cmI,arI,envOf,putN,↓reduceIte,Nat.reduceLT,Nat.reduceSub,Nat.reduceAdd,Int.reduceAdd,Int.reduceEq,Int.reduceLT,Int.reduceLE,arr_pos,arr_neg,]
  refine ⟨fun _=>?_,fun _=>⟨_,_,⟨rfl,rfl⟩,by omega,by omega,c3,c4⟩⟩
  refine D_l20Asked _ _ s hb (by omega) hs fun F p3 hp3 g1 g2=>?_
  simp+contextual(maxSteps:=1000000)(disch:=omega)only[↓Sd,↓So,↓Sk,↓den,↓denA,Sa,Sb,Sc,Se,O1.d,O2.d,O3.d,cmI,arI,envOf,putN,↓reduceIte,Nat.reduceLT,Nat.reduceSub,Nat.reduceAdd,Int.reduceAdd,Int.reduceEq,Int.reduceLT,Int.reduceLE,arr_pos,arr_neg,]
  exact ⟨_,_,⟨rfl,rfl⟩,by omega,by omega,g1,g2⟩
 rintro us ⟨p3,F,rfl,d1,d2,d3,d4⟩
 simp+contextual(maxSteps:=1000000)(disch:=omega)only[↓Sd,↓So,↓Sk,↓den,↓denA,Sa,Sb,Sc,Se,O1.d,O2.d,O3.d,cmI,arI,envOf,putN,↓reduceIte,Nat.reduceLT,Nat.reduceSub,Nat.reduceAdd,Int.reduceAdd,Int.reduceEq,Int.reduceLT,Int.reduceLE,arr_pos,arr_neg,]
 refine D_l24Any _ _ _ hb (by omega) fun l p4 hp4 g1 g2=>?_
 simp+contextual(maxSteps:=1000000)(disch:=omega)only[↓Sd,↓So,↓Sk,↓den,↓denA,Sa,Sb,Sc,Se,O1.d,O2.d,O3.d,cmI,arI,envOf,putN,↓reduceIte,Nat.reduceLT,Nat.reduceSub,Nat.reduceAdd,Int.reduceAdd,Int.reduceEq,Int.reduceLT,Int.reduceLE,arr_pos,arr_neg,↓wpJoin,]
 exact h _ _ s F l hb (by omega) hs d3 d4 g1 g2
theorem D_DrawTreeSets (b:List Int) (hb:Byt b) (hl:Lt63 b) {Q:List AV→Prop} (h:∀(s:Sy) (F:List (List Tm)) (l:List Tm),SmSy s→F.length≤4→(∀x∈F,x.length≤16)→l.length≤8→Q [⟨L V3,s.1⟩,⟨L TR,s.2⟩,⟨L (L T4),F⟩,⟨L T4,l⟩]):mc.C f_spec_DrawTreeSets [⟨L U,b⟩] Q:=by
 refine mc.c_of F_spec_DrawTreeSets ?_
 simp+contextual(maxSteps:=1000000)(disch:=omega)only[↓Sd,↓So,↓Sk,↓den,↓denA,Sa,Sb,Sc,Se,O1.d,O2.d,O3.d,cmI,arI,envOf,putN,↓reduceIte,Nat.reduceLT,Nat.reduceSub,Nat.reduceAdd,Int.reduceAdd,Int.reduceEq,Int.reduceLT,Int.reduceLE,arr_pos,arr_neg,tr_spec_DrawTreeSets]
 refine D_l24Ask b hb hl fun b p s F l hb hp hs hF hF2 _ hl8=>?_
 simp+contextual(maxSteps:=1000000)(disch:=omega)only[↓Sd,↓So,↓Sk,↓den,↓denA,Sa,Sb,Sc,Se,O1.d,O2.d,O3.d,cmI,arI,envOf,putN,↓reduceIte,Nat.reduceLT,Nat.reduceSub,Nat.reduceAdd,Int.reduceAdd,Int.reduceEq,Int.reduceLT,Int.reduceLE,arr_pos,arr_neg,]
 exact h s F l hs hF hF2 hl8
theorem trP_stay {T LT:List (List Int)} {n i a:Nat} {l:List Tm} (ha:a<i):∀{m:Nat},i≤m→trP T n LT l m a=trP T n LT l i a
 | 0,hm=>by omega
 | m+1,hm=>by
  by_cases e:i=m+1
  ·rw [e]
  ·rw [←trP_stay (m:=m) ha (by omega)]
   funext k
   simp only [trP]
   rw [if_neg (by omega)]
theorem trP_at {T LT:List (List Int)} {n i m:Nat} {l:List Tm} (h:i<m):trP T n LT l m i=trR T n LT (l.getD i zT) (trP T n LT l i):=by
 rw [trP_stay (i:=i+1) (by omega) (by omega:i+1≤m)]
 funext k
 simp only [trP]
 rw [if_pos trivial]
theorem trP_law {T LT:List (List Int)} {n i m:Nat} {l:List Tm} {o x:Int} {a b:Nat} (h:i<m) (hti:l.getD i zT=(o,x,(a:Int),(b:Int))) (ha:2≤o→a<i) (hb:2≤o→b<i) {S p q:Nat→Bool} (hS:trP T n LT l m i=S) (hp:trP T n LT l m a=p) (hq:trP T n LT l m b=q) {k:Nat} (hk:k<n) :
  (o=6→S k=(q k||(p k&&aB T n S k)))∧(o=9→S k=(q k||(p k&&!aB T n (fun k=>!S k) k)))∧(o=7→S k=(p k&&aB T n S k))∧(o=10→S k=(p k&&!aB T n (fun k=>!S k) k)):=by
 have hS1:S=trR T n LT (o,x,(a:Int),(b:Int)) (trP T n LT l i):=by rw [←hS,trP_at h,hti]
 have e:∀{c:Nat},c<i→trP T n LT l i c=trP T n LT l m c:=fun hc=>(trP_stay hc (by omega)).symm
 refine ⟨fun ho=>?_,fun ho=>?_,fun ho=>?_,fun ho=>?_⟩
 ·have h1:∀k,k<n→S k=fuI T n false p q n k:=fun k hk=>by
   rw [hS1,←hp,←hq,←e (ha (by omega)),←e (hb (by omega)),←euI_fu n k hk]
   simp [trR,ho]
  rw [h1 k hk,←fuI_fix.1 k hk,fuI,aB_congr h1]
  simp [nxB]
 ·have h1:∀k,k<n→S k=fuI T n true p q n k:=fun k hk=>by
   rw [hS1,←hp,←hq,←e (ha (by omega)),←e (hb (by omega)),auS_fu hk]
   simp [trR,ho]
  rw [h1 k hk,←fuI_fix.1 k hk,fuI,aB_congr (p:=fun k=>!S k) (q:=fun k=>!fuI T n true p q n k) fun b hb=>by rw [h1 b hb]]
  simp [nxB]
 ·have h1:∀k,k<n→S k=gaI T n false p n k:=fun k hk=>by
   rw [hS1,←hp,←e (ha (by omega)),←egI_ga n k hk]
   simp [trR,ho]
  rw [h1 k hk,←gaI_fix.1 k hk,gaI,aB_congr h1]
  simp [nxB]
 ·have h1:∀k,k<n→S k=gaI T n true p n k:=fun k hk=>by
   rw [hS1,←hp,←e (ha (by omega)),gaI_all n k hk,←euI_fu n k hk]
   simp [trR,ho]
  rw [h1 k hk,←gaI_fix.1 k hk,gaI,aB_congr (p:=fun k=>!S k) (q:=fun k=>!gaI T n true p n k) fun b hb=>by rw [h1 b hb]]
  simp [nxB]
noncomputable def nxL (s:Sy) (n:Nat):List Int:=if nextN s [(n:Int)]=[] then [(n:Int)] else nextN s [(n:Int)]
theorem nextN_mem1 {s:Sy} {n:Nat} (h:valid s) (hn:n<szn s.1) {k:Nat}:(k:Int)∈nextN s [(n:Int)]↔(k:Int)∈(steps s).getD n []:=by
 unfold nextN
 refine Iff.trans dB_iff.symm ?_
 rw [dB_upTo,Bool.and_eq_true,decide_eq_true_eq,dB_iff]
 constructor
 ·rintro ⟨h1,a,h2,h3,h4⟩
  have:a=n:=by have:=dB_iff.1 h3;simp only [List.mem_singleton] at this;omega
  subst this;exact h4
 ·intro h1
  have:=(steps_tb8 h).1.row _ h1
  exact ⟨by omega,n,hn,dB_t (by simp),h1⟩
theorem nxL_mem {s:Sy} {n:Nat} (h:valid s) (hn:n<szn s.1) {k:Nat}:(k:Int)∈nxL s n↔(k:Int)∈(onw s).getD n []:=by
 have hrow:=@onw_row s n hn
 rw [hrow]
 have hmem:=@nextN_mem1 s n h hn
 have hst:(steps s).getD n []=[]↔nextN s [(n:Int)]=[]:=by
  constructor
  ·intro h0
   cases hx:nextN s [(n:Int)] with
   | nil=>rfl
   | cons y t =>
    have hy:y∈nextN s [(n:Int)]:=by rw [hx];exact List.mem_cons_self
    have hy2:=hy
    unfold nextN at hy2
    obtain ⟨j,_,rfl,_⟩:=upTo_mem.1 hy2
    have:=hmem.1 hy
    rw [h0] at this;simp at this
  ·intro h0
   cases hx:(steps s).getD n [] with
   | nil=>rfl
   | cons y t =>
    have hy:y∈(steps s).getD n []:=by rw [hx];exact List.mem_cons_self
    have:=(steps_tb8 h).1.row _ hy
    obtain ⟨j,rfl⟩:∃j:Nat,y=j:=⟨y.toNat,by omega⟩
    have:=hmem.2 hy
    rw [h0] at this;simp at this
 unfold nxL
 by_cases h0:nextN s [(n:Int)]=[]
 ·rw [if_pos h0,if_pos (hst.2 h0)]
 ·rw [if_neg h0,if_neg fun g=>h0 (hst.1 g)]
  exact hmem
theorem nxL_lset {s:Sy} {n:Nat} (h:valid s) (hn:n<szn s.1):lset (nxL s n) 400:=by
 have hz:=szn_eq h
 unfold nxL
 split
 ·intro i hi
  simp only [List.length_cons,List.length_nil] at hi
  have:i=0:=by omega
  subst this
  refine ⟨⟨?_,?_⟩,fun h=>absurd h (by omega)⟩<;>simp<;>omega
 ·exact upTo_lset (m:=400) (by omega)
theorem both_pos {T:List (List Int)} {X:List Int} {R:Nat→Bool} {N n:Nat} (hX:lset X 400) (hm:∀k:Nat,(k:Int)∈X↔(k:Int)∈T.getD n []) (hN:N≤400) :
  (((mix (fun x y=>x&&y) X (upTo R N)).length:Int) > 0)=(aB T N R n=true):=by
 have h2:lset (upTo R N) 400:=upTo_lset (m:=400) hN
 have h3:=@upTo_nil (fun k=>dB ((k:Int)∈X)&&dB ((k:Int)∈upTo R N)) 400
 have hmx:mix (fun x y=>x&&y) X (upTo R N)=upTo (fun k=>dB ((k:Int)∈X)&&dB ((k:Int)∈upTo R N)) 400:=by
  unfold mix
  rw [if_pos ⟨hX,h2⟩]
 rw [hmx]
 refine propext ⟨fun h=>?_,fun h=>?_⟩
 ·apply Classical.byContradiction
  intro hno
  have:(upTo (fun k=>dB ((k:Int)∈X)&&dB ((k:Int)∈upTo R N)) 400).length=0:=h3.2 fun k hk=>by
   cases hx:dB ((k:Int)∈X) with
   | false=>rfl
   | true =>
    rw [dB_upTo]
    cases hR:(decide (k<N)&&R k) with
    | false=>rfl
    | true =>
     rw [Bool.and_eq_true,decide_eq_true_eq] at hR
     exact absurd (aB_iff.2 ⟨k,hR.1,hR.2,(hm k).1 (dB_iff.1 hx)⟩) hno
  omega
 ·obtain ⟨b,h4,h5,h6⟩:=aB_iff.1 h
  apply Classical.byContradiction
  intro hno
  have:=h3.1 (by omega) b (by omega)
  rw [dB_upTo,dB_t ((hm b).2 h6),h5,decide_eq_true h4] at this
  cases this
theorem with_nil {T:List (List Int)} {X:List Int} {R:Nat→Bool} {N n:Nat} (hX:lset X 400) (hm:∀k:Nat,(k:Int)∈X↔(k:Int)∈T.getD n []) (hN:N≤400) (hT:∀x∈T.getD n [],0≤x∧x<(N:Int)) :
  (((mix (fun x y=>x&&!y) X (upTo R N)).length:Int)=0)=(aB T N (fun k=>!R k) n=false):=by
 have h2:lset (upTo R N) 400:=upTo_lset (m:=400) hN
 have h3:=@upTo_nil (fun k=>dB ((k:Int)∈X)&&!dB ((k:Int)∈upTo R N)) 400
 have hmx:mix (fun x y=>x&&!y) X (upTo R N)=upTo (fun k=>dB ((k:Int)∈X)&&!dB ((k:Int)∈upTo R N)) 400:=by
  unfold mix
  rw [if_pos ⟨hX,h2⟩]
 rw [hmx]
 refine propext ⟨fun h=>?_,fun h=>?_⟩
 ·cases ha:aB T N (fun k=>!R k) n with
  | false=>rfl
  | true =>
   obtain ⟨b,h4,h5,h6⟩:=aB_iff.1 ha
   have:=h3.1 (by omega) b (by omega)
   rw [dB_upTo,dB_t ((hm b).2 h6),decide_eq_true h4] at this
   simp only [Bool.true_and,Bool.not_eq_false'] at this h5
   rw [this] at h5;simp at h5
 ·have:(upTo (fun k=>dB ((k:Int)∈X)&&!dB ((k:Int)∈upTo R N)) 400).length=0:=h3.2 fun k hk=>by
   cases hx:dB ((k:Int)∈X) with
   | false=>rfl
   | true =>
    have h6:=(hm k).1 (dB_iff.1 hx)
    have h7:=hT _ h6
    rw [dB_upTo,decide_eq_true (by omega:k<N)]
    cases hR:R k with
    | true=>rfl
    | false =>
     have:=(@aB_iff T N (fun k=>!R k) n).2 ⟨k,(by omega:k<N),by rw [hR];rfl,h6⟩
     rw [this] at h;cases h
  omega
theorem C_impl_SizeOf_a (s:Sy) (hs:FewSy s) (Q:List AV→Prop):mc.C f_impl_SizeOf [⟨L V3,s.1⟩,⟨L TR,s.2⟩] Q=Q [⟨I,if valid s then sz s.1 else 0⟩]:=by
 by_cases h:valid s
 ·rw [if_pos h];exact C_impl_SizeOf s hs h Q
 ·rw [if_neg h]
  refine Mc.Ends.c (mc.ends F_impl_SizeOf ?_)
  simp+contextual(maxSteps:=1000000)(disch:=omega)only[↓Sd,↓So,↓Sk,↓den,↓denA,Sa,Sb,Sc,Se,O1.d,O2.d,O3.d,cmI,arI,envOf,putN,↓reduceIte,Nat.reduceLT,Nat.reduceSub,Nat.reduceAdd,Int.reduceAdd,Int.reduceEq,Int.reduceLT,Int.reduceLE,arr_pos,arr_neg,tr_impl_SizeOf,C_impl_SystemValid s hs,h]
end Go.Proofs.YtifkpliahhodoaaGreat
