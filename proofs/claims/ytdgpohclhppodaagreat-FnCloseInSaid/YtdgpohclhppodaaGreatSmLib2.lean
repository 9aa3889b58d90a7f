/- A machine over symbols for loaded functions, and that it tells the truth; no condition. -/
import Derived.Test.YtdgpohclhppodaaGreatSmLib1
import Derived.Laws.Slices
import Derived.Test.YtdgpohclhppodaaGreatSmLib0
set_option linter.unusedSimpArgs false
set_option linter.unusedVariables false
namespace Go.Sm
section
variable {P:Program} {bd:Bd} {N:Nat→Prop} {s:St} {r:Env} {g:Nat→G} {st:List (Array Value)} {w:World} {a:Act}
theorem Z5P {M M':Nat→Prop} {g':Nat→G} {id:Nat} {ty:Ty} {k:IntKind} {ix:E (.int k)} {j:Nat} {v:Value} (hg:(g' id).val=(g id).val) (h:Z7 w M g r (.eptr id ty k ix j) v):Z7 w M' g' r (.eptr id ty k ix j) v:=by
 simp only [Z7] at h ⊢
 rw [hg]
 exact h
theorem Z5Q (h:R bd N s r g a.tmps st w) {frz:Bool} {t:TypeId} {x v:Operand} (o:Oper) (ho:o.op=.store t x v) {gs:List (E .bool)} {sv:SV} {s':St} (hs:Z0E P frz s t x v=some (gs,sv,s')) (hg:∀c∈gs,den c r=true) :
  Good P bd N r st (execOp a.eval o) a.tmps w sv s':=by
 unfold Z0E at hs
 split at hs
 case h_2=>cases hs
 rename_i i hi
 split at hs
 ·rename_i id j hx
  exact Z4L h o ho hi hx hs
 ·rename_i id ty k ix j hx
  obtain ⟨hxv,hxn⟩:=Zu h hx
  split at hs
  ·split at hs
   ·rename_i mv hm
    have hm':Zg s.heap (s.get v).cells=some mv:=by
     split at hm
     ·cases hm
     ·exact hm
    exact Z5J h o ho hi hm' hxv hxn.1 hs
   ·obtain ⟨g1,hg1,h1⟩:=h.shallow id
    have h2:=(h1.solid v).unnest id
    exact Z5D h2 o ho hi (Z4H _ id) (Z5P (hg1 id).1 hxv) hxn.1 hs
  ·split at hs
   case h_2=>cases hs
   rename_i mv hm
   exact Z5K h o ho hi hm hxv hxn.1 hs hg
  ·have h2:=(h.solid v).unnest id
   exact Z5D h2 o ho hi (Z4H _ id) (Z5P rfl hxv) hxn.1 hs
 ·rename_i id ty k ix j u k' ix' j' hx
  obtain ⟨hxv,hxn⟩:=Zu h hx
  exact Z5O h o ho hi hxv hxn.1 hs
 ·cases hs
theorem Z5R (h:R bd N s r g a.tmps st w) (o:Oper) {gs:List (E .bool)} {sv:SV} {s':St} (hs:Z1t P s o.op=some (gs,sv,s')):Good P bd N r st (execOp a.eval o) a.tmps w sv s':=by
 unfold Z1t at hs
 split at hs
 case h_2=>cases hs
 rename_i t x v ho
 split at hs
 case h_2=>cases hs
 rename_i i id ty k ix m hi hx hv
 split at hs
 case h_2=>cases hs
 rename_i ty' e dp u l hid hmd
 split at hs
 case isFalse=>cases hs
 rename_i hty
 subst hty
 split at hs
 case isFalse=>cases hs
 rename_i hc
 obtain ⟨c1,c2,c3⟩:=hc
 simp only [Y4,Y9] at hs
 obtain ⟨rfl,rfl,rfl⟩:=hs
 obtain ⟨⟨p,n,c,h1,h2,h3,h4,h5⟩,hxn⟩:=Zu h hx
 obtain ⟨hvr,hvn⟩:=Zu h hv
 obtain ⟨ov,xs,Fs,b1,b2,b3⟩:=Zy.1 (h.heap id _ hid)
 have hn0:0<n:=Nat.lt_of_le_of_lt (Yf _) h4
 obtain ⟨hov,hps,hnn,_,_⟩:=b1.cells h1 hn0
 have hlt:Int.toNat (den ix r)<(den e r:List ty'.D).length:=by rw [←hnn];exact h4
 have hone:(a.eval v).oneCell'=true:=Z4u h hvr hvn (by simp [Atom.one,hmd])
 have hcl:(a.eval v).cells.toList=[a.eval v]:=by rw [Z4w hone]
 have hxl:xs.length=(den e r:List ty'.D).length:=by rw [b3.lx,c2,Nat.mul_one]
 obtain ⟨w',hrun,hown,hsame,hsz,hos,htp,hout⟩:=b1.put h1 hn0 (pos:=Int.toNat (den ix r)) (vs:=[a.eval v]) (by rw [c2];simp;omega) (by intro u hu;rw [Y1.1 hu];exact hone)
 have hsame':∀b,b∉(g id).foot→w'.heap[b]?=w.heap[b]?:=fun b hb=>hsame b fun hh=>hb (by rw [b2,←hh];simp)
 have hnd:=h.nodup id _ hid
 have hpoke:=h.poked (w':=w') [] id _ (.lent ty' e k ix (.ref m)) (g id) hid (by simp) rfl rfl (by simp) (fun b _ hb _=>hsame' b hb) ?_ ⟨h.nheap id _ hid,hxn.1,by
   show (upd _ id _ m).isSome=true
   have hmi:(m==id)=false:=by simpa using c3
   simp only [upd,hmi,cond_false,St.kills,List.foldl_nil,St.unnest,hmd,Option.map_some,Option.isSome_some]⟩ (h.nodup id _ hid) (fun b hb=>.inr (.inl hb)) ?_ (by omega) hos htp hout
 ·refine ⟨undef,w',fun k=>if k=id then g id else g k,.inr ⟨?_,rfl⟩,hpoke,trivial,trivial⟩
  simp only [execOp,ho,h5]
  rw [c2,Nat.mul_one,Nat.add_zero]
  exact Z3w (hrun P t i _ hi hcl (by simp [c1]))
 ·intro M' hk hat
  refine ⟨a.eval v,⟨c2,ov,splice xs (Int.toNat (den ix r)) [a.eval v],?_,?_,hlt,?_,fun q hq hqn=>?_⟩,hat _ _ hvn (by simp [Ze,Zx,Atom.nst]) hvr⟩
  ·simp only [if_true];exact hown
  ·simp only [if_true];rw [b2,Z4S b3,Yx]
  ·rw [Z5y (by omega),YM];simp;omega
  ·obtain ⟨us,a1,a2,a3⟩:=b3.row q hq
   simp only [Row,Yg,if_false] at a3
   refine ⟨us,a1,fun j u hj=>?_,a3.2.keep hk⟩
   have hj0:j<us.length:=(Yn.1 hj).1
   rw [Z5y (by omega),YM,if_neg (by rw [c2];omega)]
   exact a2 j u hj
 ·intro c hc hcid
  obtain ⟨_,l',hl⟩:=h.kpl c hc
  rw [hcid,hid] at hl
  cases hl
theorem Z5S {t ty e:TypeId} {i:TypeInfo} (ht:P.underlying t=some (.slice e)) (hi:P.info? e=some i) {ts:Array TypeId} (hts:ts[0]?=some t) {base a2:Option Addr} {n cap m c:Nat} {cs:List Value} {w':World}
  (hf:(Builtin.firstCells i.size (Nat.min m n) (.slice a2 m c)).run P w=.ok cs.toArray w) (hst:∀p,base=some p→(storeCells p cs).run P w=.ok () w') (hb:base=none→w'=w) :
  (Builtin.copy_ ts ty #[.slice base n cap,.slice a2 m c]).run P w=.ok (goInt (Nat.min m n)) w':=by
 unfold Builtin.copy_
 simp only [hts]
 simp only [show (#[Value.slice base n cap,.slice a2 m c]:Array Value)[0]?=some (.slice base n cap) from rfl,show (#[Value.slice base n cap,.slice a2 m c]:Array Value)[1]?=some (.slice a2 m c) from rfl]
 cases base with
 | none =>
  rw [hb rfl]
  simp [run_underlying ht,sizeOf,typeInfo,hi,Builtin.lenOf,hf]
 | some p =>
  have:=hst p rfl
  simp [run_underlying ht,sizeOf,typeInfo,hi,Builtin.lenOf,hf,this]
theorem Z5.putC {v:Value} {o:Option Nat} {sz n:Nat} {xs:List Value} (h:Z5 w v o sz n xs) {p:Addr} {n' c:Nat} (hv:v=.slice (some p) n' c) (h0:0<n') {vs:List Value} (hfit:vs.length≤n * sz) (h1:∀u∈vs,u.oneCell'=true) :
  ∃w',(∀(P:Program),(storeCells p vs).run P w=.ok () w')∧Z5 w' v o sz n (splice xs 0 vs) ∧
   (∀b,some b≠o→w'.heap[b]?=w.heap[b]?)∧w'.heap.size=w.heap.size∧w'.os=w.os∧w'.tape=w.tape∧w'.output=w.output:=by
 rcases h.2 with ⟨x,h2,h3,h4⟩ | ⟨b,off,cap,cur,ety,a1,a2,a3,a4,a5,a6,a7⟩
 ·rw [h2] at hv;simp at hv;omega
 ·rw [a2] at hv
  simp only [Value.slice.injEq,Y4] at hv
  obtain ⟨rfl,rfl,rfl⟩:=hv
  have hle:=Yk sz a4
  refine ⟨w.setRow b (cur.toList.take off++vs++cur.toList.drop (off+vs.length)).toArray,?_,⟨by rw [Z5x (by rw [h.1];omega)];exact h.1,.inr ⟨b,off,cap,_,ety,a1,a2,setRow_heap w b cur _ ety _ a3,a4,a5,?_,?_⟩⟩,
   fun k hk=>setRow_other w b k _ (fun e=>hk (by rw [a1,e])),by simp,rfl,rfl,rfl⟩
  ·intro P
   have:=run_storeCells_at P b off ety vs 0 cur w a3 (by omega) h1
   simpa using this
  ·simp only [List.size_toArray,Y7,Yb,Yq,Yi]
   omega
  ·have hcs:cur.toList.length=cur.size:=Yi ..
   apply List.ext_getElem?
   intro k
   have hsp:=Z5w (xs:=xs) (vs:=vs) (p:=0) (by rw [h.1];omega) k
   have hsp2:=Z5w (xs:=cur.toList) (vs:=vs) (p:=off) (by omega) (off+k)
   show (List.take (n * sz) (List.drop off (splice cur.toList off vs)))[k]?=_
   rw [hsp]
   have hold:∀k,k<n * sz→cur.toList[off+k]?=xs[k]?:=by
    intro k hk
    rw [←a7,List.getElem?_take_of_lt hk,YB]
   by_cases hk:k<n * sz
   ·rw [List.getElem?_take_of_lt hk,YB,hsp2,if_neg (show ¬(off+k<off) by omega),if_neg (show ¬(k<0) by omega)]
    by_cases q2:k<0+vs.length
    ·rw [if_pos (show off+k<off+vs.length by omega),if_pos q2]
     congr 1;omega
    ·rw [if_neg (show ¬(off+k<off+vs.length) by omega),if_neg q2,hold k hk]
   ·rw [if_neg (by omega),if_neg (by omega),Yz (by rw [Yb];omega),Yz (by rw [h.1];omega)]
theorem Z5.putAt {v:Value} {o:Option Nat} {sz n:Nat} {xs:List Value} (h:Z5 w v o sz n xs) {p:Addr} {n' c:Nat} (hv:v=.slice (some p) n' c) (h0:0<n') {vs:List Value} {pos:Nat} (hfit:pos+vs.length≤n * sz) (h1:∀u∈vs,u.oneCell'=true) :
  ∃w',(∀(P:Program),(storeCells ⟨p.block,p.off+pos,none⟩ vs).run P w=.ok () w')∧Z5 w' v o sz n (splice xs pos vs) ∧
   (∀b,some b≠o→w'.heap[b]?=w.heap[b]?)∧w'.heap.size=w.heap.size∧w'.os=w.os∧w'.tape=w.tape∧w'.output=w.output:=by
 rcases h.2 with ⟨x,h2,h3,h4⟩ | ⟨b,off,cap,cur,ety,a1,a2,a3,a4,a5,a6,a7⟩
 ·rw [h2] at hv;simp at hv;omega
 ·rw [a2] at hv
  simp only [Value.slice.injEq,Y4] at hv
  obtain ⟨rfl,rfl,rfl⟩:=hv
  have hle:=Yk sz a4
  refine ⟨w.setRow b (cur.toList.take (off+pos)++vs++cur.toList.drop (off+pos+vs.length)).toArray,?_,⟨by rw [Z5x (by rw [h.1];omega)];exact h.1,.inr ⟨b,off,cap,_,ety,a1,a2,setRow_heap w b cur _ ety _ a3,a4,a5,?_,?_⟩⟩,
   fun k hk=>setRow_other w b k _ (fun e=>hk (by rw [a1,e])),by simp,rfl,rfl,rfl⟩
  ·intro P
   have:=run_storeCells_at P b (off+pos) ety vs 0 cur w a3 (by omega) h1
   simpa using this
  ·simp only [List.size_toArray,Y7,Yb,Yq,Yi]
   omega
  ·have hcs:cur.toList.length=cur.size:=Yi ..
   apply List.ext_getElem?
   intro k
   have hsp:=Z5w (xs:=xs) (vs:=vs) (p:=pos) (by rw [h.1];omega) k
   have hsp2:=Z5w (xs:=cur.toList) (vs:=vs) (p:=off+pos) (by omega) (off+k)
   show (List.take (n * sz) (List.drop off (splice cur.toList (off+pos) vs)))[k]?=_
   rw [hsp]
   have hold:∀k,k<n * sz→cur.toList[off+k]?=xs[k]?:=by
    intro k hk
    rw [←a7,List.getElem?_take_of_lt hk,YB]
   by_cases hk:k<n * sz
   ·rw [List.getElem?_take_of_lt hk,YB,hsp2]
    by_cases q1:k<pos
    ·rw [if_pos (by omega),if_pos q1,hold k hk]
    ·rw [if_neg (by omega),if_neg q1]
     by_cases q2:k<pos+vs.length
     ·rw [if_pos (by omega),if_pos q2]
      congr 1;omega
     ·rw [if_neg (by omega),if_neg q2,hold k hk]
   ·rw [if_neg (by omega),if_neg (by omega),Yz (by rw [Yb];omega),Yz (by rw [h.1];omega)]
theorem Z5T {M:Nat→Prop} {t:Ty} {ds es:List t.D} {xs ys:List Value} {Fs Gs:List (List Nat)} (h:Rws w M false t Zz Fs ds xs) (h':Rws w M false t Zz Gs es ys):∃Hs,Hs.flatten=[]∧Rws w M false t Zz Hs (Z00 ds es) (splice xs 0 (ys.take (min es.length ds.length * t.size)))∧(Z00 ds es).length=ds.length:=by
 have e1:=h'.take ds.length
 have e2:=h.drop es.length
 have hsp:splice xs 0 (ys.take (min es.length ds.length * t.size))=ys.take (ds.length * t.size)++xs.drop (es.length * t.size):=by
  unfold splice
  have hx:=h.lx
  have hy:=h'.lx
  rcases Nat.le_total es.length ds.length with hh | hh
  ·have hm:=Yk t.size hh
   rw [Nat.min_eq_left hh,YI (show ys.length≤es.length * t.size by omega),YI (show ys.length≤ds.length * t.size by omega),hy]
   simp
  ·have hm:=Yk t.size hh
   rw [Nat.min_eq_right hh,List.drop_eq_nil_of_le (show xs.length≤es.length * t.size by omega),List.drop_eq_nil_of_le (show xs.length≤0+(ys.take (ds.length * t.size)).length by rw [Yb];omega)]
   simp
 have e3:=e1.append e2
 refine ⟨_,?_,by rw [hsp];exact e3,?_⟩
 ·exact Z4S e3
 ·simp only [Z00,Y7,Yb,Yq];omega
theorem Z5U {M:Nat→Prop} {t:Ty} {ds es:List t.D} {xs ys:List Value} {Fs Gs:List (List Nat)} (h:Rws w M false t Zz Fs ds xs) (h':Rws w M false t Zz Gs es ys) {l k:Nat} (h1:l≤k) (h2:k≤ds.length) :
  ∃Hs,Hs.flatten=[]∧Rws w M false t Zz Hs (ds.take l++Z00 ((ds.take k).drop l) es++ds.drop k) (splice xs (l * t.size) (ys.take (min es.length (k - l) * t.size)))∧(ds.take l++Z00 ((ds.take k).drop l) es++ds.drop k).length=ds.length:=by
 have hseg:((ds.take k).drop l).length=k - l:=by rw [Yq,Yb,Nat.min_eq_left h2]
 obtain ⟨Hs,e1,e2,e3⟩:=Z5T ((h.take k).drop l) h'
 rw [hseg] at e2 e3
 have e4:=((h.take l).append e2).append (h.drop k)
 have hx:=h.lx
 have m1:=Yk t.size h1
 have m2:=Yk t.size h2
 have hvl:(ys.take (min es.length (k - l) * t.size)).length≤(k - l) * t.size:=by
  have:=Yk t.size (Nat.min_le_right es.length (k - l))
  rw [Yb];omega
 rw [Nat.sub_mul] at hvl
 have hl:xs.take (l * t.size)++splice ((xs.take (k * t.size)).drop (l * t.size)) 0 (ys.take (min es.length (k - l) * t.size))++xs.drop (k * t.size)=splice xs (l * t.size) (ys.take (min es.length (k - l) * t.size)):=by
  generalize ys.take (min es.length (k - l) * t.size)=vs at hvl
  unfold splice
  simp only [List.take_zero,List.nil_append,Ym,Nat.zero_add,List.drop_drop]
  congr 2
  have:=List.drop_append_of_le_length (l₁:=xs.take (k * t.size)) (l₂:=xs.drop (k * t.size)) (i:=l * t.size+vs.length) (by rw [Yb];omega)
  rw [List.take_append_drop] at this
  exact this.symm
 rw [hl] at e4
 refine ⟨_,?_,e4,?_⟩
 ·exact Z4S e4
 ·simp only [Y7,e3,Yb,Yq];omega
structure SrcOf (w:World) (M:Nat→Prop) (ty:Ty) (v:Value) (es:List ty.D) (Gs:List (List Nat)) (ys:List Value):Prop where
 ex:∃(sx:Option Addr) (sc:Nat),v=.slice sx es.length sc∧(∀p,sx=some p→ys≠[]→p.spot=none∧∀j u,ys[j]?=some u→cell w p.block (p.off+j)=some u)∧(sx=none→es.length=0)
 rows:Rws w M false ty Zz Gs es ys
theorem Z5V {M:Nat→Prop} {v u:Value} {o:Option Nat} {ty:Ty} {ds:List ty.D} {xs:List Value} {Fs:List (List Nat)} (hown:Z5 w v o ty.size ds.length xs) (hr:Rws w M false ty Zz Fs ds xs) {x:Option Addr} {n c l h:Nat}
  (hv:v=.slice x n c) (h1:l≤h) (h2:h≤n) (hu:u=.slice (if c=l then x else x.map (·.add (l * ty.size))) (h - l) (c - l)):SrcOf w M ty u ((ds.take h).drop l) ((Fs.take h).drop l) ((xs.take (h * ty.size)).drop (l * ty.size)):=by
 obtain ⟨x',c',e1,e2,e3,_⟩:=hown.shape
 rw [e1] at hv
 simp only [Value.slice.injEq] at hv
 obtain ⟨rfl,rfl,rfl⟩:=hv
 have hlen:((ds.take h).drop l).length=h - l:=by rw [Yq,Yb,Nat.min_eq_left h2]
 have hxl:=hr.lx
 refine ⟨⟨_, c' - l, by rw [hlen]; exact hu, fun p hp hne => ?_, fun hn => ?_⟩, (hr.take h).drop l⟩
 ·have hpos:0<h - l:=by
   rcases Nat.eq_zero_or_pos (h - l) with h0 | h0
   ·exfalso
    apply hne
    rw [List.drop_eq_nil_of_le]
    rw [Yb]
    have:=Yk ty.size (show h≤l by omega)
    omega
   ·exact h0
  rw [if_neg (by omega)] at hp
  obtain ⟨q,hq,rfl⟩:=Ya.1 hp
  subst hq
  obtain ⟨f1,f2,_,_,f3⟩:=hown.cells e1 (by omega)
  rw [Z0e f2]
  refine ⟨rfl,fun j u hj=>?_⟩
  rw [YB] at hj
  have hj':xs[l * ty.size+j]?=some u:=by
   have hlt:=(Yn.1 hj).1
   rw [Yb] at hlt
   rwa [List.getElem?_take_of_lt (by omega)] at hj
  have:=f3 _ u hj'
  show cell w q.block (q.off+l * ty.size+j)=some u
  rw [show q.off+l * ty.size+j=q.off+(l * ty.size+j) by omega]
  exact this
 ·rw [hlen]
  split at hn
  ·rename_i hc;subst hc;have:=(e3 hn).1;omega
  ·simp only [Option.map_eq_none_iff] at hn
   have:=(e3 hn).2;omega
theorem Z5W (h0:R bd N s r g a.tmps st w) {t:TypeId} {ts:Array TypeId} {x y:Operand} (o:Oper) (ho:o.op=.call { callee:=.builtin .copy,args:=#[x,y],argTypes:=ts }) (hts:ts[0]?=some t) {ty:Ty} (hel:Z0t P t=some ty)
  {i:Nat} {lo hi:E (.int .i64)} (hx:(s.get x).atom=.vw i ty lo hi) {gs:List (E .bool)} {sv:SV} {s':St} (hs:Z10 (s.unnest i) ty i lo hi y=some (gs,sv,s')):Good P bd N r st (execOp a.eval o) a.tmps w sv s':=by
 obtain ⟨hxv,hxn⟩:=Z3o h0 x
 rw [hx] at hxv hxn
 have h:=h0.unnest i
 have hu:(s.unnest i).unnest i=s.unnest i:=Z4H _ i
 generalize s.unnest i=s1 at hs h hu
 clear h0
 unfold Z10 at hs
 split at hs
 case h_2=>cases hs
 rename_i ty' e1 hid
 split at hs
 case isFalse=>cases hs
 rename_i hty
 subst hty
 split at hs
 case h_2=>cases hs
 rename_i e2 hsrc
 simp only [Y4,Y9] at hs
 obtain ⟨rfl,rfl,rfl⟩:=hs
 obtain ⟨ov,xs,Fs,b1,b2,b3⟩:=Zy.1 (h.heap i _ hid)
 simp only [Z7] at hxv
 obtain ⟨xa,n,c,l,k,z1,z2,z3,z4,z5,z6⟩:=hxv
 have hn:n=(den e1 r:List ty'.D).length:=by
  obtain ⟨x',c',q1,_⟩:=b1.shape
  rw [q1] at z1
  simp only [Value.slice.injEq] at z1
  exact z1.2.1.symm
 subst hn
 obtain ⟨hyv,hyn⟩:=Z3o h y
 obtain ⟨he2,Gs,ys,hS⟩:e2.vs N∧∃Gs ys,SrcOf w (Mt bd.Z s1.heap g) ty' (a.eval y) (den e2 r) Gs ys:=by
  unfold Z0_ at hsrc
  split at hsrc
  ·rename_i j ty2 lo2 hi2 hy
   split at hsrc
   case isFalse=>cases hsrc
   rename_i hj
   obtain ⟨rfl,rfl⟩:=hj
   simp only [Y4] at hsrc
   subst hsrc
   rw [hy] at hyv hyn
   simp only [Z7] at hyv
   obtain ⟨xa2,n2,c2,l2,k2,y1,y2,y3,y4,y5,y6⟩:=hyv
   have hn2:n2=(den e1 r:List ty2.D).length:=by rw [z1] at y1;simp only [Value.slice.injEq] at y1;exact y1.2.1.symm
   subst hn2
   refine ⟨⟨⟨h.nheap j _ hid,hyn.1.2⟩,hyn.1.1⟩,(Fs.take k2).drop l2,(xs.take (k2 * ty2.size)).drop (l2 * ty2.size),?_⟩
   have hd:(den (.o2 (.drop ty2 .i64) (.o2 (.take ty2 .i64) e1 hi2) lo2) r:List ty2.D)=((den e1 r:List ty2.D).take k2).drop l2:=by
    show List.drop (Int.toNat (den lo2 r)) (List.take (Int.toNat (den hi2 r)) (den e1 r:List ty2.D))=_
    rw [y4,y5];simp
   rw [hd]
   exact Z5V b1 b3 y1 y2 y3 y6
  ·split at hsrc
   ·cases hsrc
   obtain ⟨⟨e,mv⟩,hsa,rfl⟩:=Ya.1 hsrc
   obtain ⟨he2,Gs,ys,⟨sx,sc,hyx,hys,hy0,hyr⟩,_⟩:=Z4U h hsa hyv hyn
   exact ⟨he2,Gs,ys,⟨⟨sx,sc,hyx,hys,hy0⟩,hyr⟩⟩
 obtain ⟨⟨sx,sc,hyx,hys,hy0⟩,hyr⟩:=hS
 obtain ⟨ety,inf,z,ht,hinf,hz,hisz,hzs,hby,_⟩:=Z4V hel
 have hyl:=hyr.lx
 have hxl:=b3.lx
 generalize hmn:min (den e2 r:List ty'.D).length (k - l)=mn
 have hmin:mn≤(den e2 r:List ty'.D).length:=by rw [←hmn];exact Nat.min_le_left _ _
 have hminr:mn≤k - l:=by rw [←hmn];exact Nat.min_le_right _ _
 have hm1:=Yk ty'.size hmin
 have hm2:=Yk ty'.size hminr
 have hm3:=Yk ty'.size z3
 have hm4:=Yk ty'.size z2
 have hcl:(ys.take (mn * ty'.size)).length=mn * ty'.size:=by rw [Yb];omega
 have hf:=Z4M (P:=P) (w:=w) (size:=inf.size) (n:=mn) (a:=sx) (len:=(den e2 r:List ty'.D).length) (cap:=sc) (cs:=ys.take (mn * ty'.size)) (by rw [hisz];exact hcl)
  (fun p hp hne=>by
   have hne':ys≠[]:=by intro hh;rw [hh] at hne;simp at hne
   obtain ⟨z1,z2⟩:=hys p hp hne'
   refine ⟨z1,fun j v hj=>z2 j v ?_⟩
   have hjl:=(Yn.1 hj).1
   rw [Yb] at hjl
   rwa [List.getElem?_take_of_lt (by omega)] at hj) (fun hn=>by have:=hy0 hn;omega)
 have hones:∀u∈ys.take (mn * ty'.size),u.oneCell'=true:=fun u hu=>hyr.ones u (List.mem_of_mem_take hu)
 obtain ⟨Hs,hH1,hH2,hH3⟩:=Z5U b3 hyr z2 z3
 rw [hmn] at hH2
 have hseg:(den (.o2 (.drop ty' .i64) (.o2 (.take ty' .i64) e1 hi) lo) r:List ty'.D)=((den e1 r:List ty'.D).take k).drop l:=by
  show List.drop (Int.toNat (den lo r)) (List.take (Int.toNat (den hi r)) (den e1 r:List ty'.D))=_
  rw [z4,z5];simp
 have hdo:(den (.o2 (.app ty') (.o2 (.app ty') (.o2 (.take ty' .i64) e1 lo) (.o2 (.over ty') (.o2 (.drop ty' .i64) (.o2 (.take ty' .i64) e1 hi) lo) e2)) (.o2 (.drop ty' .i64) e1 hi)) r:List ty'.D) =
   (den e1 r:List ty'.D).take l++Z00 (((den e1 r:List ty'.D).take k).drop l) (den e2 r:List ty'.D)++(den e1 r:List ty'.D).drop k:=by
  show (List.take (Int.toNat (den lo r)) (den e1 r:List ty'.D)++Z00 (List.drop (Int.toNat (den lo r)) (List.take (Int.toNat (den hi r)) (den e1 r:List ty'.D))) (den e2 r:List ty'.D))++List.drop (Int.toNat (den hi r)) (den e1 r:List ty'.D)=_
  rw [z4,z5];simp
 have hsl:(((den e1 r:List ty'.D).take k).drop l).length=k - l:=by rw [Yq,Yb,Nat.min_eq_left z3]
 have hvs:E.vs N (.o2 (.app ty') (.o2 (.app ty') (.o2 (.take ty' .i64) e1 lo) (.o2 (.over ty') (.o2 (.drop ty' .i64) (.o2 (.take ty' .i64) e1 hi) lo) e2)) (.o2 (.drop ty' .i64) e1 hi):E (.sl false ty')) :=
  ⟨⟨⟨h.nheap i _ hid,hxn.1.1⟩,⟨⟨h.nheap i _ hid,hxn.1.2⟩,hxn.1.1⟩,he2⟩,h.nheap i _ hid,hxn.1.2⟩
 have hfin:∀w',(Builtin.copy_ ts o.type #[a.eval x,a.eval y]).run P w=.ok (goInt mn) w'→Z5 w' (g i).val ov ty'.size (den e1 r:List ty'.D).length (splice xs (l * ty'.size) (ys.take (mn * ty'.size))) →
   (∀b,some b≠ov→w'.heap[b]?=w.heap[b]?)→w'.heap.size=w.heap.size→w'.os=w.os→w'.tape=w.tape→w'.output=w.output →
   Good P bd N r st (execOp a.eval o) a.tmps w (ax (.int .i64) (.o2 (.mn .i64) (Zh e2) (Zh (.o2 (.drop ty' .i64) (.o2 (.take ty' .i64) e1 hi) lo))))
    (s1.new i (.arr false ty' (.o2 (.app ty') (.o2 (.app ty') (.o2 (.take ty' .i64) e1 lo) (.o2 (.over ty') (.o2 (.drop ty' .i64) (.o2 (.take ty' .i64) e1 hi) lo) e2)) (.o2 (.drop ty' .i64) e1 hi)))):=by
  intro w' hrun hown hsame hsz hos htp hout
  have hval:goInt mn=.int .i64 (den (.o2 (.mn .i64) (Zh e2) (Zh (.o2 (.drop ty' .i64) (.o2 (.take ty' .i64) e1 hi) lo))) r):=by
   unfold goInt
   congr 1
   show (mn:Int)=if ((den (.o2 (.drop ty' .i64) (.o2 (.take ty' .i64) e1 hi) lo) r:List ty'.D).length:Int)<((den e2 r:List ty'.D).length:Int) then ((den (.o2 (.drop ty' .i64) (.o2 (.take ty' .i64) e1 hi) lo) r:List ty'.D).length:Int) else ((den e2 r:List ty'.D).length:Int)
   rw [hseg,hsl]
   split<;>omega
  have hpoke:=h.poked (w':=w') [] i _ (.arr false ty' (.o2 (.app ty') (.o2 (.app ty') (.o2 (.take ty' .i64) e1 lo) (.o2 (.over ty') (.o2 (.drop ty' .i64) (.o2 (.take ty' .i64) e1 hi) lo) e2)) (.o2 (.drop ty' .i64) e1 hi))) (g i) hid (by simp) rfl rfl (by simp) (fun b _ hb _=>hsame b fun hh=>hb (by rw [b2,←hh];simp)) ?_ hvs (h.nodup i _ hid) (fun b hb=>.inr (.inl hb)) ?_ (by omega) hos htp hout
  ·refine ⟨goInt mn,w',fun m=>if m=i then g i else g m,.inl ?_,?_,?_,?_⟩
   ·rw [Z4c o ho,show (#[x,y]:Array Operand).map a.eval=#[a.eval x,a.eval y] by simp]
    exact Zv hrun
   ·have hst:((s1.kills []).unnest i)=s1:=hu
    rw [hst] at hpoke
    exact hpoke
   ·rw [hval];exact Z3u _ _
   ·exact ⟨he2,⟨h.nheap i _ hid,hxn.1.2⟩,hxn.1.1⟩
  ·intro M' hk _
   refine Zy.2 ⟨ov,splice xs (l * ty'.size) (ys.take (mn * ty'.size)),Hs,?_,?_,?_⟩
   ·simp only [if_true]
    rw [hdo,hH3]
    exact hown
   ·simp only [if_true]
    rw [b2,Z4S b3,hH1]
   ·rw [hdo]
    exact hH2.keep hk fun b hb=>by rw [hH1] at hb;cases hb
  ·intro c hc hcid
   obtain ⟨_,l,hl⟩:=h.kpl c hc
   rw [hcid,hid] at hl
   cases hl
 have hmn':Nat.min (den e2 r:List ty'.D).length (k - l)=mn:=hmn
 rcases Nat.eq_zero_or_pos mn with h0 | hpos
 ·-- nothing is copied
  have hcs0:ys.take (mn * ty'.size)=[]:=by rw [h0,Nat.zero_mul];rfl
  refine hfin w ?_ ?_ (fun _ _=>rfl) rfl rfl rfl rfl
  ·rw [z6,hyx,←hmn']
   rw [←hmn'] at hf hcs0
   exact Z5S ht hinf hts hf (fun p _=>by rw [hcs0];rfl) (fun _=>rfl)
  ·rw [hcs0]
   have:splice xs (l * ty'.size) []=xs:=by simp [splice]
   rw [this];exact b1
 ·obtain ⟨p,c',hp,_,hps,hnc⟩:=b1.some_of_pos (show 0<(den e1 r:List ty'.D).length by omega)
  have hpc:=z1.symm.trans hp
  simp only [Value.slice.injEq,true_and] at hpc
  obtain ⟨rfl,rfl⟩:=hpc
  obtain ⟨w',hrun,hown,hsame,hsz,hos,htp,hout⟩:=b1.putAt hp (by omega) (pos:=l * ty'.size) (vs:=ys.take (mn * ty'.size)) (by rw [hcl];rw [Nat.sub_mul] at hm2;omega) hones
  refine hfin w' ?_ hown hsame hsz hos htp hout
  rw [z6,hyx,if_neg (by omega),←hmn']
  rw [←hmn'] at hf hrun
  exact Z5S ht hinf hts hf (fun q hq=>by
   simp only [Option.map_some,Y4] at hq
   subst hq
   rw [Z0e hps]
   exact hrun P) (fun hh=>by cases hh)
theorem Z5X {M:Nat→Prop} {dp:Bool} {t:Ty} {ds es:List t.D} {xs ys:List Value} {Fs Gs:List (List Nat)} (h:Rws w M dp t Zz Fs ds xs) (h':Rws w M dp t Zz Gs es ys) :
  Rws w M dp t Zz (Gs.take ds.length++Fs.drop es.length) (Z00 ds es) (splice xs 0 (ys.take (min es.length ds.length * t.size)))∧(Z00 ds es).length=ds.length:=by
 have e1:=h'.take ds.length
 have e2:=h.drop es.length
 have hsp:splice xs 0 (ys.take (min es.length ds.length * t.size))=ys.take (ds.length * t.size)++xs.drop (es.length * t.size):=by
  unfold splice
  have hx:=h.lx
  have hy:=h'.lx
  rcases Nat.le_total es.length ds.length with hh | hh
  ·have hm:=Yk t.size hh
   rw [Nat.min_eq_left hh,YI (show ys.length≤es.length * t.size by omega),YI (show ys.length≤ds.length * t.size by omega),hy]
   simp
  ·have hm:=Yk t.size hh
   rw [Nat.min_eq_right hh,List.drop_eq_nil_of_le (show xs.length≤es.length * t.size by omega),List.drop_eq_nil_of_le (show xs.length≤0+(ys.take (ds.length * t.size)).length by rw [Yb];omega)]
   simp
 refine ⟨by rw [hsp];exact e1.append e2,?_⟩
 simp only [Z00,Y7,Yb,Yq];omega
theorem Z5Y {l1 l2:List (List Nat)} (h:l1.Sublist l2):l1.flatten.Sublist l2.flatten:=by
 induction h with
 | slnil=>exact List.Sublist.refl _
 | cons a _ ih=>rw [List.flatten_cons];exact ih.trans (List.sublist_append_right _ _)
 | cons_cons a _ ih=>rw [List.flatten_cons,List.flatten_cons];exact List.Sublist.append (List.Sublist.refl _) ih
theorem Z5Z (h:R bd N s r g a.tmps st w) {t:TypeId} {ts:Array TypeId} {x y:Operand} (o:Oper) (ho:o.op=.call { callee:=.builtin .copy,args:=#[x,y],argTypes:=ts }) (hts:ts[0]?=some t) {ty:Ty} (hel:Z0t P t=some ty)
  {i:Nat} (hx:(s.get x).atom=.ref i) {gs:List (E .bool)} {sv:SV} {s':St} (hs:Z0Z s ty i y=some (gs,sv,s')):Good P bd N r st (execOp a.eval o) a.tmps w sv s':=by
 obtain ⟨hxv,-⟩:=Z3o h x
 rw [hx] at hxv
 simp only [Z7] at hxv
 unfold Z0Z at hs
 split at hs
 case h_2=>cases hs
 rename_i ty' e1 hid
 split at hs
 case isFalse=>cases hs
 rename_i hty
 subst hty
 split at hs
 case h_2=>cases hs
 rename_i e2 mv hsrc
 split at hs
 case isFalse=>cases hs
 rename_i hc
 simp only [Y5,Yr,YN,YH] at hc
 simp only [Y4,Y9] at hs
 obtain ⟨rfl,rfl,rfl⟩:=hs
 obtain ⟨hyv,hyn⟩:=Z3o h y
 obtain ⟨he2,Gs,ys,⟨sx,sc,hyx,hys,hy0,hyr⟩,hmv⟩:=Z4U h hsrc hyv hyn
 obtain ⟨ety,inf,z,ht,hi,hz,hisz,hzs,hby,_⟩:=Z4V hel
 obtain ⟨ov,xs,Fs,b1,b2,b3⟩:=Zy.1 (h.heap i _ hid)
 rw [←hxv] at b1
 have hyl:=hyr.lx
 have hxl:=b3.lx
 have hmin:=Nat.min_le_left (den e2 r:List ty'.D).length (den e1 r:List ty'.D).length
 have hminr:=Nat.min_le_right (den e2 r:List ty'.D).length (den e1 r:List ty'.D).length
 have hm1:=Yk ty'.size hmin
 have hm2:=Yk ty'.size hminr
 have hcl:(ys.take (min (den e2 r:List ty'.D).length (den e1 r:List ty'.D).length * ty'.size)).length=min (den e2 r:List ty'.D).length (den e1 r:List ty'.D).length * ty'.size:=by
  rw [Yb];omega
 have hf:=Z4M (P:=P) (w:=w) (size:=inf.size) (n:=Nat.min (den e2 r:List ty'.D).length (den e1 r:List ty'.D).length) (a:=sx) (len:=(den e2 r:List ty'.D).length) (cap:=sc) (cs:=ys.take (min (den e2 r:List ty'.D).length (den e1 r:List ty'.D).length * ty'.size)) (by rw [hisz];exact hcl)
  (fun p hp hne=>by
   have hne':ys≠[]:=by intro hh;rw [hh] at hne;simp at hne
   obtain ⟨z1,z2⟩:=hys p hp hne'
   refine ⟨z1,fun j v hj=>z2 j v ?_⟩
   have hjl:=(Yn.1 hj).1
   rw [Yb] at hjl
   rwa [List.getElem?_take_of_lt (by omega)] at hj) (fun hn=>by have:=hy0 hn;show min _ _=0;omega)
 have hones:∀u∈ys.take (min (den e2 r:List ty'.D).length (den e1 r:List ty'.D).length * ty'.size),u.oneCell'=true:=fun u hu=>hyr.ones u (List.mem_of_mem_take hu)
 obtain ⟨hH2,hH3⟩:=Z5X b3 hyr
 have hnd:=h.nodup i _ hid
 rw [b2] at hnd
 obtain ⟨n1,n2,n3⟩:=Yp.1 hnd
 have hsubF:((Fs.drop (den e2 r:List ty'.D).length).flatten).Sublist Fs.flatten:=Z5Y (List.drop_sublist _ _)
 have hsubG:((Gs.take (den e1 r:List ty'.D).length).flatten).Sublist Gs.flatten:=Z5Y (List.take_sublist _ _)
 have hG:Gs.flatten.Nodup∧(∀b∈Gs.flatten,b∉(g i).foot)∧∀b∈Gs.flatten,∃j C,j∈mv∧s.heap j=some C∧b∈(g j).foot:=by
  rcases hmv with ⟨_,hg0⟩ | ⟨k,B,o',hmk,hbk,hk,hbox,hfk⟩
  ·rw [hg0];exact ⟨List.nodup_nil,⟨fun b hb=>(List.not_mem_nil hb).elim,fun b hb=>(List.not_mem_nil hb).elim⟩⟩
  ·have hkn:=h.nodup k _ hk
   rw [hfk] at hkn
   have hki:k≠i:=by rintro rfl;exact hc.2 (by rw [hmk];simp)
   refine ⟨(Yp.1 hkn).2.1,fun b hb hbi=>hki (h.inj k i _ _ b hk hid (by rw [hfk];exact Y0 _ hb) hbi),fun b hb=>⟨k,B,by rw [hmk];simp,hk,by rw [hfk];exact Y0 _ hb⟩⟩
 obtain ⟨gn1,gn2,gn3⟩:=hG
 have hmvbox:∀k∈mv,∀l,s.heap k≠some (.box l):=by
  intro k hk l hl
  rcases hmv with ⟨hm0,_⟩ | ⟨k',B,o',hmk,hbk,hk',hbox,hfk⟩
  ·rw [hm0] at hk;cases hk
  ·rw [hmk] at hk
   simp only [Y1] at hk
   subst hk
   rw [hl] at hk'
   cases hk'
   exact hbox l rfl
 have hfin:∀w',(Builtin.copy_ ts o.type #[a.eval x,a.eval y]).run P w=.ok (goInt (Nat.min (den e2 r:List ty'.D).length (den e1 r:List ty'.D).length)) w'→Z5 w' (a.eval x) ov ty'.size (den e1 r:List ty'.D).length (splice xs 0 (ys.take (min (den e2 r:List ty'.D).length (den e1 r:List ty'.D).length * ty'.size))) →
   (∀b,some b≠ov→w'.heap[b]?=w.heap[b]?)→w'.heap.size=w.heap.size→w'.os=w.os→w'.tape=w.tape→w'.output=w.output →
   Good P bd N r st (execOp a.eval o) a.tmps w (ax (.int .i64) (.o2 (.mn .i64) (Zh e2) (Zh e1))) (((s.kills mv).unnest i).new i (.arr true ty' (.o2 (.over ty') e1 e2))):=by
  intro w' hrun hown hsame hsz hos htp hout
  have hdo:(den (.o2 (.over ty') e1 e2) r:List ty'.D)=Z00 (den e1 r:List ty'.D) (den e2 r:List ty'.D):=rfl
  have hval:goInt (Nat.min (den e2 r:List ty'.D).length (den e1 r:List ty'.D).length)=.int .i64 (den (.o2 (.mn .i64) (Zh e2) (Zh e1)) r):=by
   unfold goInt
   congr 1
   show ((Nat.min (den e2 r:List ty'.D).length (den e1 r:List ty'.D).length:Nat):Int)=if ((den e1 r:List ty'.D).length:Int)<((den e2 r:List ty'.D).length:Int) then ((den e1 r:List ty'.D).length:Int) else ((den e2 r:List ty'.D).length:Int)
   split
   ·rename_i hh;congr 1;exact Nat.min_eq_right (by omega)
   ·rename_i hh;congr 1;exact Nat.min_eq_left (by omega)
  have hov:∀b∈(Gs.take (den e1 r:List ty'.D).length++Fs.drop (den e2 r:List ty'.D).length).flatten,some b≠ov:=by
   intro b hb hh
   rw [List.flatten_append] at hb
   have hbo:b∈ov.toList:=by rw [←hh];simp
   rcases Y6.1 hb with hb | hb
   ·exact gn2 b (hsubG.subset hb) (by rw [b2];exact Y3 _ hbo)
   ·exact n3 b hbo b (hsubF.subset hb) rfl
  have hpoke:=h.poked (w':=w') mv i _ (.arr true ty' (.o2 (.over ty') e1 e2)) ⟨(g i).blk,(g i).val,ov.toList++(Gs.take (den e1 r:List ty'.D).length++Fs.drop (den e2 r:List ty'.D).length).flatten⟩ hid hc.2 rfl rfl hmvbox
   (fun b _ hb _=>hsame b fun hh=>hb (by rw [b2,←hh];simp)) ?_ ⟨h.nheap i _ hid,he2⟩ ?_ ?_ ?_ (by omega) hos htp hout
  ·refine ⟨goInt (Nat.min (den e2 r:List ty'.D).length (den e1 r:List ty'.D).length),w',_,.inl ?_,hpoke,?_,⟨he2,h.nheap i _ hid⟩⟩
   ·rw [Z4c o ho,show (#[x,y]:Array Operand).map a.eval=#[a.eval x,a.eval y] by simp]
    exact Zv hrun
   ·rw [hval];exact Z3u _ _
  ·intro M' hk _
   refine Zy.2 ⟨ov,splice xs 0 (ys.take (min (den e2 r:List ty'.D).length (den e1 r:List ty'.D).length * ty'.size)),Gs.take (den e1 r:List ty'.D).length++Fs.drop (den e2 r:List ty'.D).length,?_,?_,?_⟩
   ·simp only [if_true]
    rw [hdo,hH3,←hxv]
    exact hown
   ·simp
   ·rw [hdo]
    exact hH2.keep hk fun b hb=>hsame b (hov b hb)
  ·rw [List.flatten_append]
   refine Yp.2 ⟨n1,Yp.2 ⟨gn1.sublist hsubG,n2.sublist hsubF,?_⟩,?_⟩
   ·rintro b hb c hc rfl
    exact gn2 b (hsubG.subset hb) (by rw [b2];exact Y0 _ (hsubF.subset hc))
   ·rintro b hb c hc rfl
    rcases Y6.1 hc with hc | hc
    ·exact gn2 b (hsubG.subset hc) (by rw [b2];exact Y3 _ hb)
    ·exact n3 b hb b (hsubF.subset hc) rfl
  ·intro b hb
   rcases Y6.1 hb with hb | hb
   ·exact .inr (.inl (by rw [b2];exact Y3 _ hb))
   ·rw [List.flatten_append] at hb
    rcases Y6.1 hb with hb | hb
    ·exact .inr (.inr (gn3 b (hsubG.subset hb)))
    ·exact .inr (.inl (by rw [b2];exact Y0 _ (hsubF.subset hb)))
  ·intro c hc hcid
   obtain ⟨_,l,hl⟩:=h.kpl c hc
   rw [hcid,hid] at hl
   cases hl
 have hyv':a.eval y=.slice sx (den e2 r:List ty'.D).length sc:=hyx
 obtain ⟨bx,bc,hbx,_,hb0,_⟩:=b1.shape
 rcases Nat.eq_zero_or_pos (den e1 r:List ty'.D).length with h0 | hpos
 ·-- nothing is copied
  have hz0:min (den e2 r:List ty'.D).length (den e1 r:List ty'.D).length=0:=by omega
  have hcs0:ys.take (min (den e2 r:List ty'.D).length (den e1 r:List ty'.D).length * ty'.size)=[]:=by rw [hz0,Nat.zero_mul];rfl
  refine hfin w ?_ ?_ (fun _ _=>rfl) rfl rfl rfl rfl
  ·rw [hbx,hyv']
   exact Z5S ht hi hts hf (fun p _=>by rw [hcs0];rfl) (fun _=>rfl)
  ·rw [hcs0]
   have:splice xs 0 []=xs:=by simp [splice]
   rw [this];exact b1
 ·obtain ⟨p,c,hp,_,hps,_⟩:=b1.some_of_pos hpos
  obtain ⟨w',hrun,hown,hsame,hsz,hos,htp,hout⟩:=b1.putC hp hpos (vs:=ys.take (min (den e2 r:List ty'.D).length (den e1 r:List ty'.D).length * ty'.size)) (by rw [hcl];exact hm2) hones
  refine hfin w' ?_ hown hsame hsz hos htp hout
  rw [hp,hyv']
  exact Z5S ht hi hts hf (fun q hq=>by cases hq;exact hrun P) (fun hh=>by cases hh)
theorem Z5_ (h0:R bd N s r g a.tmps st w) {t:TypeId} {ts:Array TypeId} {x y:Operand} (o:Oper) (ho:o.op=.call { callee:=.builtin .copy,args:=#[x,y],argTypes:=ts }) (hts:ts[0]?=some t) {gs:List (E .bool)} {sv:SV} {s':St}
  {frz:Bool} (hs:Z11 P frz s t x y=some (gs,sv,s')):Good P bd N r st (execOp a.eval o) a.tmps w sv s':=by
 unfold Z11 at hs
 split at hs
 case h_2=>cases hs
 rename_i ty hel
 split at hs
 case h_3=>cases hs
 case h_2 =>
  rename_i i ty' lo hi hx
  split at hs
  case isFalse=>cases hs
  rename_i hty
  subst hty
  exact Z5W h0 o ho hts hel hx hs
 rename_i i hx
 split at hs
 ·rename_i q hq
  cases hs
  split at hq
  ·cases hq
  exact Z5Z h0 o ho hts hel hx hq
 obtain ⟨hxv,-⟩:=Z3o h0 x
 rw [hx] at hxv
 simp only [Z7] at hxv
 obtain ⟨g1,hg1,h1⟩:=h0.shallow i
 have h:=h1.unnest i
 rw [←(hg1 i).1] at hxv
 have hu:((s.shallow i).unnest i).unnest i=(s.shallow i).unnest i:=Z4H _ i
 generalize (s.shallow i).unnest i=s1 at hs h hu
 clear h1 hg1 h0
 unfold Z0Y at hs
 split at hs
 case h_2=>cases hs
 rename_i e2 mv hsrc
 split at hs
 case h_2=>cases hs
 rename_i ty' e1 hid
 split at hs
 case isFalse=>cases hs
 rename_i hty
 subst hty
 split at hs
 case isFalse=>cases hs
 rename_i hr
 simp only [Y4,Y9] at hs
 obtain ⟨rfl,rfl,rfl⟩:=hs
 obtain ⟨hyv,hyn⟩:=Z3o h y
 obtain ⟨he2,Gs,ys,⟨sx,sc,hyx,hys,hy0,hyr⟩,hmv⟩:=Z4U h hsrc hyv hyn
 obtain ⟨ety,inf,z,ht,hi,hz,hisz,hzs,hby,_⟩:=Z4V hel
 obtain ⟨ov,xs,Fs,b1,b2,b3⟩:=Zy.1 (h.heap i _ hid)
 rw [←hxv] at b1
 have hyl:=hyr.lx
 have hxl:=b3.lx
 have hmin:=Nat.min_le_left (den e2 r:List ty'.D).length (den e1 r:List ty'.D).length
 have hminr:=Nat.min_le_right (den e2 r:List ty'.D).length (den e1 r:List ty'.D).length
 have hm1:=Yk ty'.size hmin
 have hm2:=Yk ty'.size hminr
 have hcl:(ys.take (min (den e2 r:List ty'.D).length (den e1 r:List ty'.D).length * ty'.size)).length=min (den e2 r:List ty'.D).length (den e1 r:List ty'.D).length * ty'.size:=by
  rw [Yb];omega
 have hf:=Z4M (P:=P) (w:=w) (size:=inf.size) (n:=Nat.min (den e2 r:List ty'.D).length (den e1 r:List ty'.D).length) (a:=sx) (len:=(den e2 r:List ty'.D).length) (cap:=sc) (cs:=ys.take (min (den e2 r:List ty'.D).length (den e1 r:List ty'.D).length * ty'.size)) (by rw [hisz];exact hcl)
  (fun p hp hne=>by
   have hne':ys≠[]:=by intro hh;rw [hh] at hne;simp at hne
   obtain ⟨z1,z2⟩:=hys p hp hne'
   refine ⟨z1,fun j v hj=>z2 j v ?_⟩
   have hjl:=(Yn.1 hj).1
   rw [Yb] at hjl
   rwa [List.getElem?_take_of_lt (by omega)] at hj) (fun hn=>by have:=hy0 hn;show min _ _=0;omega)
 have hones:∀u∈ys.take (min (den e2 r:List ty'.D).length (den e1 r:List ty'.D).length * ty'.size),u.oneCell'=true:=fun u hu=>hyr.ones u (List.mem_of_mem_take hu)
 obtain ⟨Hs,hH1,hH2,hH3⟩:=Z5T b3 hyr
 have hfin:∀w',(Builtin.copy_ ts o.type #[a.eval x,a.eval y]).run P w=.ok (goInt (Nat.min (den e2 r:List ty'.D).length (den e1 r:List ty'.D).length)) w'→Z5 w' (a.eval x) ov ty'.size (den e1 r:List ty'.D).length (splice xs 0 (ys.take (min (den e2 r:List ty'.D).length (den e1 r:List ty'.D).length * ty'.size))) →
   (∀b,some b≠ov→w'.heap[b]?=w.heap[b]?)→w'.heap.size=w.heap.size→w'.os=w.os→w'.tape=w.tape→w'.output=w.output →
   Good P bd N r st (execOp a.eval o) a.tmps w (ax (.int .i64) (.o2 (.mn .i64) (Zh e2) (Zh e1))) (s1.new i (.arr false ty' (.o2 (.over ty') e1 e2))):=by
  intro w' hrun hown hsame hsz hos htp hout
  have hdo:(den (.o2 (.over ty') e1 e2) r:List ty'.D)=Z00 (den e1 r:List ty'.D) (den e2 r:List ty'.D):=rfl
  have hval:goInt (Nat.min (den e2 r:List ty'.D).length (den e1 r:List ty'.D).length)=.int .i64 (den (.o2 (.mn .i64) (Zh e2) (Zh e1)) r):=by
   unfold goInt
   congr 1
   show ((Nat.min (den e2 r:List ty'.D).length (den e1 r:List ty'.D).length:Nat):Int)=if ((den e1 r:List ty'.D).length:Int)<((den e2 r:List ty'.D).length:Int) then ((den e1 r:List ty'.D).length:Int) else ((den e2 r:List ty'.D).length:Int)
   split
   ·rename_i hh;congr 1;exact Nat.min_eq_right (by omega)
   ·rename_i hh;congr 1;exact Nat.min_eq_left (by omega)
  have hpoke:=h.poked (w':=w') [] i _ (.arr false ty' (.o2 (.over ty') e1 e2)) (g1 i) hid (by simp) rfl rfl (by simp) (fun b _ hb _=>hsame b fun hh=>hb (by rw [b2,←hh];simp)) ?_ ⟨h.nheap i _ hid,he2⟩ (h.nodup i _ hid) (fun b hb=>.inr (.inl hb)) ?_ (by omega) hos htp hout
  ·refine ⟨goInt (Nat.min (den e2 r:List ty'.D).length (den e1 r:List ty'.D).length),w',fun k=>if k=i then g1 i else g1 k,.inl ?_,?_,?_,⟨he2,h.nheap i _ hid⟩⟩
   ·rw [Z4c o ho,show (#[x,y]:Array Operand).map a.eval=#[a.eval x,a.eval y] by simp]
    exact Zv hrun
   ·have hst:((s1.kills []).unnest i)=s1:=hu
    rw [hst] at hpoke
    exact hpoke
   ·rw [hval];exact Z3u _ _
  ·intro M' hk _
   refine Zy.2 ⟨ov,splice xs 0 (ys.take (min (den e2 r:List ty'.D).length (den e1 r:List ty'.D).length * ty'.size)),Hs,?_,?_,?_⟩
   ·simp only [if_true]
    rw [hdo,hH3,←hxv]
    exact hown
   ·simp only [if_true]
    rw [b2,Z4S b3,hH1]
   ·rw [hdo]
    exact hH2.keep hk fun b hb=>by rw [hH1] at hb;cases hb
  ·intro c hc hcid
   obtain ⟨_,l,hl⟩:=h.kpl c hc
   rw [hcid,hid] at hl
   cases hl
 have hyv':a.eval y=.slice sx (den e2 r:List ty'.D).length sc:=hyx
 obtain ⟨bx,bc,hbx,_,hb0,_⟩:=b1.shape
 rcases Nat.eq_zero_or_pos (den e1 r:List ty'.D).length with h0 | hpos
 ·-- nothing is copied
  have hz0:min (den e2 r:List ty'.D).length (den e1 r:List ty'.D).length=0:=by omega
  have hcs0:ys.take (min (den e2 r:List ty'.D).length (den e1 r:List ty'.D).length * ty'.size)=[]:=by rw [hz0,Nat.zero_mul];rfl
  refine hfin w ?_ ?_ (fun _ _=>rfl) rfl rfl rfl rfl
  ·rw [hbx,hyv']
   exact Z5S ht hi hts hf (fun p _=>by rw [hcs0];rfl) (fun _=>rfl)
  ·rw [hcs0]
   have:splice xs 0 []=xs:=by simp [splice]
   rw [this];exact b1
 ·obtain ⟨p,c,hp,_,hps,_⟩:=b1.some_of_pos hpos
  obtain ⟨w',hrun,hown,hsame,hsz,hos,htp,hout⟩:=b1.putC hp hpos (vs:=ys.take (min (den e2 r:List ty'.D).length (den e1 r:List ty'.D).length * ty'.size)) (by rw [hcl];exact hm2) hones
  refine hfin w' ?_ hown hsame hsz hos htp hout
  rw [hp,hyv']
  exact Z5S ht hi hts hf (fun q hq=>by cases hq;exact hrun P) (fun hh=>by cases hh)
end
end Go.Sm
namespace Go.Sm
section
variable {P:Program} {bd:Bd} {N:Nat→Prop} {s:St} {r:Env} {g:Nat→G} {st:List (Array Value)} {w:World} {a:Act}
theorem Z60 {t e:TypeId} {i:TypeInfo} (ht:P.underlying t=some (.slice e)) (hi:P.info? e=some i) {x:Option Addr} {n c:Nat} {lo hi' mx:Option Value} {l h m:Nat}
  (hl:lo=none∧l=0∨∃k,lo=some (.int k l)) (hh:hi'=none∧h=n∧mx=none∨∃k,hi'=some (.int k h)) (hm:mx=none∧m=c∨∃k,mx=some (.int k m)) (h1:l≤h) (h2:h≤m) (h3:m≤c) :
  (Instr.sliceAt t (.slice x n c) lo hi' mx).run P w=.ok (.slice (if m=l then x else x.map (·.add (l * i.size))) (h - l) (m - l)) w:=by
 have sb:∀(k:IntKind) (y z:Nat) (code:BoundsCode),y≤z→(Instr.sliceBound (.int k (y:Int)) z code).run P w=.ok y w:=by
  intro k y z code hyz
  have:=run_sliceBound (P:=P) w k (y:Int) z code (by omega) (by omega)
  simpa using this
 have hb:(Instr.sliceBounds true n c lo hi' mx).run P w=.ok (l,h,m) w:=by
  unfold Instr.sliceBounds
  rcases hm with ⟨rfl,rfl⟩ | ⟨km,rfl⟩
  ·rcases hh with ⟨rfl,rfl,_⟩ | ⟨kh,rfl⟩
   ·rcases hl with ⟨rfl,rfl⟩ | ⟨kl,rfl⟩
    ·simp
    ·simp [sb _ _ _ _ h1]
   ·rcases hl with ⟨rfl,rfl⟩ | ⟨kl,rfl⟩
    ·simp [sb _ _ _ _ h2]
    ·simp [sb _ _ _ _ h1,sb _ _ _ _ h2]
  ·rcases hh with ⟨rfl,rfl,hh⟩ | ⟨kh,rfl⟩
   ·cases hh
   ·rcases hl with ⟨rfl,rfl⟩ | ⟨kl,rfl⟩
    ·simp [sb _ _ _ _ h2,sb _ _ _ _ h3]
    ·simp [sb _ _ _ _ h1,sb _ _ _ _ h2,sb _ _ _ _ h3]
 unfold Instr.sliceAt
 rw [run_bind_ok (Z3K ht)]
 simp only []
 unfold Instr.slice
 rw [run_bind_ok (Z3K ht)]
 simp only []
 rw [run_bind_ok hb]
 simp only []
 rw [run_bind_ok (Z3M hi)]
 rfl
theorem Z61 (h:R bd N s r g a.tmps st w) {o:Option Operand} {l:Option (E (.int .i64))} (ho:Z1g s o=some l):(o=none∧l=none)∨∃x n,o=some x∧l=some n∧a.eval x=.int .i64 (den n r)∧n.vs N:=by
 unfold Z1g at ho
 split at ho
 ·cases ho;exact .inl ⟨rfl,rfl⟩
 ·rename_i x
  split at ho
  ·rename_i n hx
   cases ho
   obtain ⟨hv,hn⟩:=Zu h hx
   exact .inr ⟨x,n,rfl,rfl,Z3p hv,hn⟩
  ·cases ho
theorem Z62 {t:Ty} {e:E (.sl false t)} {lo hi:Option (E (.int .i64))} (hg:∀c∈Z1h e lo hi,den c r=true) :
  ∃l h:Nat,l≤h∧h≤(den e r:List t.D).length∧(den (Z1f e lo hi) r:List t.D)=((den e r:List t.D).take h).drop l∧(lo=none∧l=0∨∃x,lo=some x∧(den x r:Int)=l)∧(hi=none∧h=(den e r:List t.D).length∨∃x,hi=some x∧(den x r:Int)=h):=by
 cases hi with
 | none =>
  cases lo with
  | none=>exact ⟨0,_,Yf _,Yh _,by simp [Z1f],.inl ⟨rfl,rfl⟩,.inl ⟨rfl,rfl⟩⟩
  | some n =>
   have g0:(0:Int)≤den n r:=Zw.1 (hg (gLe (eI .i64 0) n) (by simp [Z1h]))
   have g1:(den n r:Int)≤((den e r:List t.D).length:Int):=Zw.1 (hg (gLe n (.o1 (.len false t) e)) (by simp [Z1h]))
   obtain ⟨k,hk⟩:∃k:Nat,(den n r:Int)=k:=⟨Int.toNat (den n r),(Int.toNat_of_nonneg g0).symm⟩
   rw [hk] at g1
   refine ⟨k,_,Int.ofNat_le.1 g1,Yh _,?_,.inr ⟨n,rfl,hk⟩,.inl ⟨rfl,rfl⟩⟩
   show List.drop (Int.toNat (den n r)) (den e r:List t.D)=_
   rw [hk,Yu];rfl
 | some h =>
  have g2:(den h r:Int)≤((den e r:List t.D).length:Int):=Zw.1 (hg (gLe h (.o1 (.len false t) e)) (by simp [Z1h]))
  cases lo with
  | none =>
   have g0:(0:Int)≤den h r:=Zw.1 (hg (gLe (eI .i64 0) h) (by simp [Z1h]))
   obtain ⟨k,hk⟩:∃k:Nat,(den h r:Int)=k:=⟨Int.toNat (den h r),(Int.toNat_of_nonneg g0).symm⟩
   rw [hk] at g2
   refine ⟨0,k,Yf _,Int.ofNat_le.1 g2,?_,.inl ⟨rfl,rfl⟩,.inr ⟨h,rfl,hk⟩⟩
   show List.take (Int.toNat (den h r)) (den e r:List t.D)=_
   rw [hk];rfl
  | some n =>
   have g0:(0:Int)≤den n r:=Zw.1 (hg (gLe (eI .i64 0) n) (by simp [Z1h]))
   have g1:(den n r:Int)≤den h r:=Zw.1 (hg (gLe n h) (by simp [Z1h]))
   obtain ⟨k,hk⟩:∃k:Nat,(den h r:Int)=k:=⟨Int.toNat (den h r),(Int.toNat_of_nonneg (Int.le_trans g0 g1)).symm⟩
   obtain ⟨k',hk'⟩:∃k:Nat,(den n r:Int)=k:=⟨Int.toNat (den n r),(Int.toNat_of_nonneg g0).symm⟩
   rw [hk] at g2 g1
   rw [hk'] at g1
   refine ⟨k',k,Int.ofNat_le.1 g1,Int.ofNat_le.1 g2,?_,.inr ⟨n,rfl,hk'⟩,.inr ⟨h,rfl,hk⟩⟩
   show List.drop (Int.toNat (den n r)) (List.take (Int.toNat (den h r)) (den e r:List t.D))=_
   rw [hk,hk'];rfl
theorem Z63 {t:Ty} {e:E (.sl false t)} {lo hi:Option (E (.int .i64))} (he:e.vs N) (hl:∀n,lo=some n→n.vs N) (hh:∀n,hi=some n→n.vs N):(Z1f e lo hi).vs N:=by
 unfold Z1f
 cases lo with
 | none =>
  cases hi with
  | none=>exact he
  | some h=>exact ⟨he,hh h rfl⟩
 | some n =>
  cases hi with
  | none=>exact ⟨he,hl n rfl⟩
  | some h=>exact ⟨⟨he,hh h rfl⟩,hl n rfl⟩
theorem Z5.cut {x:Option Addr} {n c:Nat} {o:Option Nat} {sz:Nat} {xs:List Value} (hv:Z5 w (.slice x n c) o sz n xs) {l h:Nat} (h1:l≤h) (h2:h≤n) :
  ∃o',(o'=none∨o'=o)∧Z5 w (.slice (if c=l then x else x.map (·.add (l * sz))) (h - l) (c - l)) o' sz (h - l) ((xs.take (h * sz)).drop (l * sz)):=by
 have hlen:((xs.take (h * sz)).drop (l * sz)).length=(h - l) * sz:=by
  have:=Yk sz h2
  rw [Yq,Yb,hv.1,Nat.min_eq_left this,Nat.sub_mul]
 rcases hv.2 with ⟨x',e1,e2,e3⟩ | ⟨b,off,cap,cur,ety,a1,a2,a3,a4,a5,a6,a7⟩
 ·simp only [Value.slice.injEq] at e1
  obtain ⟨rfl,rfl,rfl⟩:=e1
  have:l=0:=by omega
  have:h=0:=by omega
  subst_vars
  exact ⟨none,.inl rfl,hlen,.inl ⟨x,by simp,by simp,rfl⟩⟩
 ·simp only [Value.slice.injEq] at a2
  obtain ⟨rfl,_,rfl⟩:=a2
  by_cases hc:c=l
  ·have:h=l:=by omega
   subst this
   refine ⟨none,.inl rfl,hlen,.inl ⟨some ⟨b,off,none⟩,?_,by omega,rfl⟩⟩
   rw [if_pos hc]
   simp [hc]
  ·have hm:=Yk sz (show l≤c by omega)
   refine ⟨o,.inr rfl,hlen,.inr ⟨b,off+l * sz,c - l,cur,ety,a1,?_,a3,by omega,by omega,?_,?_⟩⟩
   ·rw [if_neg hc]
    simp only [Option.map_some]
    rw [Z0e rfl]
   ·rw [Nat.sub_mul];omega
   ·rw [←a7,List.take_take,Nat.min_eq_left (Yk sz h2),List.drop_take,List.drop_drop,Nat.sub_mul]
theorem Z64 {l1 l2:List (List Nat)} (h:l1.Sublist l2):l1.flatten.Sublist l2.flatten:=by
 induction h with
 | slnil=>exact List.Sublist.refl _
 | cons a _ ih=>rw [List.flatten_cons];exact ih.trans (List.sublist_append_right _ _)
 | cons_cons a _ ih=>rw [List.flatten_cons,List.flatten_cons];exact List.Sublist.append (List.Sublist.refl _) ih
theorem Z65 (h:R bd N s r g a.tmps st w) {o:Option Operand} {l:Option (E (.int .i64))} (ho:Z1g s o=some l) {k:Nat} (hk:l=none∧k=0∨∃x,l=some x∧(den x r:Int)=k):o.map a.eval=none∧k=0∨∃kk,o.map a.eval=some (.int kk k):=by
 rcases Z61 h ho with ⟨rfl,rfl⟩ | ⟨x,n,rfl,rfl,hv,_⟩
 ·rcases hk with ⟨_,hk⟩ | ⟨x,hx,_⟩
  ·exact .inl ⟨rfl,hk⟩
  ·cases hx
 ·rcases hk with ⟨hx,_⟩ | ⟨x',hx,hk⟩
  ·cases hx
  ·cases hx
   refine .inr ⟨.i64,?_⟩
   simp only [Option.map_some]
   rw [hv,hk]
theorem Z66 (h:R bd N s r g a.tmps st w) {o:Option Operand} (ho:Z1g s o=some none):o=none:=by
 rcases Z61 h ho with ⟨rfl,_⟩ | ⟨x,n,_,hh,_⟩
 ·rfl
 ·cases hh
theorem Z67 (h:R bd N s r g a.tmps st w) {o:Option Operand} {x:E (.int .i64)} (ho:Z1g s o=some (some x)):o.map a.eval=some (.int .i64 (den x r))∧x.vs N:=by
 rcases Z61 h ho with ⟨_,hh⟩ | ⟨y,n,rfl,hh,hv,hn⟩
 ·cases hh
 ·cases hh
  simp only [Option.map_some]
  exact ⟨by rw [hv],hn⟩
theorem Z68 (h:R bd N s r g a.tmps st w) {o:Option Operand} {l:Option (E (.int .i64))} (ho:Z1g s o=some l):∀n,l=some n→n.vs N:=by
 intro n hn
 subst hn
 exact (Z67 h ho).2
set_option maxHeartbeats 1000000 in
theorem Z69 (h0:R bd N s r g a.tmps st w) {frz:Bool} {id:Nat} {t:TypeId} {x:Operand} {lo hi mx:Option Operand} (o:Oper) (ho:o.op=.slice t x lo hi mx) {gs:List (E .bool)} {sv:SV} {s':St}
  (hs:Z1i P frz s id t x lo hi mx=some (gs,sv,s')) (hg:∀c∈gs,den c r=true):Good P bd N r st (execOp a.eval o) a.tmps w sv s':=by
 unfold Z1i at hs
 split at hs
 case h_2=>cases hs
 rename_i e ht
 split at hs
 case h_2=>cases hs
 rename_i i hi'
 have h:R bd N (if frz=true then s.solid x else s) r g a.tmps st w:=by
  split
  ·exact h0.solid x
  ·exact h0
 generalize (if frz=true then s.solid x else s)=s1 at hs h
 clear h0
 unfold sliceTo at hs
 split at hs
 case h_2=>cases hs
 rename_i l hh m hlo hhi hmx
 have run:∀(xv:Option Addr) (n c kl kh km:Nat),a.eval x=.slice xv n c→(lo.map a.eval=none∧kl=0∨∃k,lo.map a.eval=some (.int k kl))→(hi.map a.eval=none∧kh=n∧mx.map a.eval=none∨∃k,hi.map a.eval=some (.int k kh)) →
   (mx.map a.eval=none∧km=c∨∃k,mx.map a.eval=some (.int k km))→kl≤kh→kh≤km→km≤c→(execOp a.eval o).run P w=.ok (.value (.slice (if km=kl then xv else xv.map (·.add (kl * i.size))) (kh - kl) (km - kl))) w:=by
  intro xv n c kl kh km hx h1 h2 h3 h4 h5 h6
  simp only [execOp,ho,hx]
  exact Zv (Z60 ht hi' h1 h2 h3 h4 h5 h6)
 split at hs
 ·-- a row of the call's own
  rename_i rr hx
  obtain ⟨hxv,hxn⟩:=Zu h hx
  simp only [Z7] at hxv
  split at hs
  case h_2=>cases hs
  rename_i dp ty el hid
  split at hs
  case isFalse=>cases hs
  rename_i hsz
  obtain ⟨ov,xs,Fs,b1,b2,b3⟩:=Zy.1 (h.heap rr _ hid)
  rw [←hxv] at b1
  obtain ⟨xa,c,hxe,hle,hz1,hz2⟩:=b1.shape
  split at hs
  ·-- it goes over to what is cut
   split at hs
   case isFalse=>cases hs
   rename_i hf
   simp only [Y4,Y9] at hs
   obtain ⟨rfl,rfl,rfl⟩:=hs
   obtain ⟨kl,kh,f1,f2,f3,f4,f5⟩:=Z62 hg
   have hmxn:=Z66 h hmx
   subst hmxn
   have hrun:=run xa _ c kl kh c hxe (Z65 h hlo f4) (by
    rcases f5 with ⟨rfl,hk⟩ | ⟨y,rfl,hk⟩
    ·have:=Z66 h hhi;subst this;exact .inl ⟨rfl,hk,rfl⟩
    ·have:=(Z67 h hhi).1;rw [hk] at this;exact .inr ⟨_,this⟩) (.inl ⟨rfl,rfl⟩) f1 (by omega) (Yh _)
   rw [hxe] at b1
   obtain ⟨o',ho',hown⟩:=b1.cut f1 f2
   obtain ⟨hfid,hnp⟩:=free_eq hf
   have hrows:=(b3.take kh).drop kl
   have hlen:(((den el r:List ty.D).take kh).drop kl).length=kh - kl:=by rw [Yq,Yb,Nat.min_eq_left f2]
   have hnd:=h.nodup rr _ hid
   rw [b2] at hnd
   obtain ⟨n1,n2,n3⟩:=Yp.1 hnd
   have hsub:(((Fs.take kh).drop kl).flatten).Sublist Fs.flatten:=Z64 ((List.drop_sublist _ _).trans (List.take_sublist _ _))
   have hosub:∀b∈o'.toList,b∈ov.toList:=by
    intro b hb
    rcases ho' with rfl | rfl
    ·simp at hb
    ·exact hb
   have hmade:=h.made (w':=w) [rr] id (.arr dp ty (Z1f el l hh)) ⟨0,.slice (if c=kl then xa else xa.map (·.add (kl * ty.size))) (kh - kl) (c - kl),o'.toList++((Fs.take kh).drop kl).flatten⟩ hfid hnp (by simp [hid]) (fun _ _ _=>rfl) ?_
    (Z63 (h.nheap rr _ hid) (Z68 h hlo) (Z68 h hhi)) ?_ ?_ (Yh _) rfl rfl rfl
   ·rw [hsz] at hrun
    exact ⟨_,w,_,.inl hrun,hmade,by simp [Z9,Z7],by simp [SV.all,Atom.ok,St.new,upd]⟩
   ·intro M' hk _ _ _
    refine Zy.2 ⟨o',(xs.take (kh * ty.size)).drop (kl * ty.size),(Fs.take kh).drop kl,?_,by simp,?_⟩
    ·simp only [if_true]
     rw [f3,hlen]
     exact hown
    ·rw [f3]
     exact hrows.keep hk fun _ _=>rfl
   ·refine Z4X ?_ (n2.sublist hsub) fun b hb hb'=>n3 b (hosub b hb) b (hsub.subset hb') rfl
    cases o'<;>simp
   ·intro b hb
    refine .inr ⟨rr,_,by simp,hid,?_⟩
    rw [b2]
    rcases Y6.1 hb with hb | hb
    ·exact Y3 _ (hosub b hb)
    ·exact Y0 _ (hsub.subset hb)
  ·-- nothing of it,to its length
   rename_i m' h'
   simp only [Y4,Y9] at hs
   obtain ⟨rfl,rfl,rfl⟩:=hs
   obtain ⟨kl,kh,f1,f2,f3,f4,f5⟩:=Z62 (fun c hc=>hg c (Yc _ (Yc _ hc)))
   have q1:=hg (.o2 (.cm .eql .i64 .i64) h' m') (by simp)
   have q2:=hg (.o2 (.cm .eql .i64 .i64) h' (eI .i64 0)) (by simp)
   simp only [den,O2.d,cmI,beq_iff_eq,eI] at q1 q2
   have hk0:(den h' r:Int)=kh:=by
    rcases f5 with ⟨hh,_⟩ | ⟨y,hy,hk⟩
    ·cases hh
    ·cases hy;exact hk
   have hkh:kh=0:=by
    have:(kh:Int)=0:=hk0.symm.trans q2
    exact Int.ofNat_eq_zero.1 this
   subst hkh
   have hkl:kl=0:=by omega
   subst hkl
   have hm0:(den m' r:Int)=((0:Nat):Int):=q1.symm.trans hk0
   obtain ⟨hv1,hn1⟩:=Z67 h hhi
   obtain ⟨hv2,hn2⟩:=Z67 h hmx
   have hrun:=run xa _ c 0 0 0 hxe (Z65 h hlo f4) (.inr ⟨.i64,by rw [hv1,hk0]⟩) (.inr ⟨.i64,by rw [hv2,hm0]⟩) (Yh _) (Yh _) (Yf _)
   simp only [if_true,Nat.sub_self] at hrun
   have hd0:(den (Z1f el l (some h')) r:List ty.D)=[]:=by rw [f3];simp
   refine Good.look h hrun ⟨?_,xa,?_⟩ (Z63 (h.nheap rr _ hid) (Z68 h hlo) (fun n hn=>by cases hn;exact hn1))
   ·rw [hd0]
    exact ⟨xa,0,rfl,Yh _,by simp,fun _=>rfl,fun p _ hne=>(hne rfl).elim⟩
   ·rw [hd0];rfl
  ·cases hs
 ·-- what is read
  rename_i cc ty el hx
  obtain ⟨hxv,hxn⟩:=Zu h hx
  split at hs
  case isFalse=>cases hs
  rename_i hsz
  have hxv':=hxv
  obtain ⟨xa,c,hxe,hle,_⟩:=hxv'
  simp only [List.cons.injEq,and_true] at hxe
  simp only [Z7] at hxv
  rw [hxe] at hxv
  split at hs
  ·simp only [Y4,Y9] at hs
   obtain ⟨rfl,rfl,rfl⟩:=hs
   obtain ⟨kl,kh,f1,f2,f3,f4,f5⟩:=Z62 hg
   have f2':kh≤(den el r:List ty.D).length:=f2
   have hmxn:=Z66 h hmx
   subst hmxn
   have hrun:=run xa _ c kl kh c hxe (Z65 h hlo f4) (by
    rcases f5 with ⟨rfl,hk⟩ | ⟨y,rfl,hk⟩
    ·have:=Z66 h hhi;subst this;exact .inl ⟨rfl,hk,rfl⟩
    ·have:=(Z67 h hhi).1;rw [hk] at this;exact .inr ⟨_,this⟩) (.inl ⟨rfl,rfl⟩) f1 (by omega) (Yh _)
   rw [hsz] at hrun
   refine Good.look h hrun ?_ (Z63 hxn (Z68 h hlo) (Z68 h hhi))
   show Rep w _ _ _ _
   rw [f3]
   exact Rep.cut hxv f1 f2' (by omega) (Yh _)
  ·rename_i m' h'
   simp only [Y4,Y9] at hs
   obtain ⟨rfl,rfl,rfl⟩:=hs
   obtain ⟨kl,kh,f1,f2,f3,f4,f5⟩:=Z62 (fun c hc=>hg c (Yc _ hc))
   have f2':kh≤(den el r:List ty.D).length:=f2
   have q1:=hg (.o2 (.cm .eql .i64 .i64) h' m') (by simp)
   simp only [den,O2.d,cmI,beq_iff_eq] at q1
   have hk0:(den h' r:Int)=kh:=by
    rcases f5 with ⟨hh,_⟩ | ⟨y,hy,hk⟩
    ·cases hh
    ·cases hy;exact hk
   have hm0:(den m' r:Int)=(kh:Int):=q1.symm.trans hk0
   obtain ⟨hv1,hn1⟩:=Z67 h hhi
   obtain ⟨hv2,hn2⟩:=Z67 h hmx
   have hrun:=run xa _ c kl kh kh hxe (Z65 h hlo f4) (.inr ⟨.i64,by rw [hv1,hk0]⟩) (.inr ⟨.i64,by rw [hv2,hm0]⟩) f1 (Yh _) (by omega)
   rw [hsz] at hrun
   have hlen:(((den el r:List ty.D).take kh).drop kl).length=kh - kl:=by rw [Yq,Yb,Nat.min_eq_left f2']
   have f3':(den (Z1f (.o1 (.re cc false ty) el) l (some h')) r:List ty.D)=((den el r:List ty.D).take kh).drop kl:=f3
   refine Good.look h hrun ⟨?_,(if kh=kl then xa else xa.map (·.add (kl * ty.size))),?_⟩ (Z63 hxn (Z68 h hlo) (fun n hn=>by cases hn;exact hn1))
   ·rw [f3']
    exact Rep.cut hxv f1 f2' (Yh _) (by omega)
   ·rw [f3',hlen]
  ·cases hs
 ·cases hs
theorem Z6a (h:R bd N s r g a.tmps st w) (o:Oper) {gs:List (E .bool)} {sv:SV} {s':St} (hs:Z1j P s o.op=some (gs,sv,s')) (hg:∀c∈gs,den c r=true):Good P bd N r st (execOp a.eval o) a.tmps w sv s':=by
 unfold Z1j at hs
 split at hs
 case h_2=>cases hs
 rename_i t x lo hi ho
 split at hs
 case h_2=>cases hs
 rename_i e ht
 split at hs
 case h_2=>cases hs
 rename_i i rr hi' hx
 split at hs
 case h_2=>cases hs
 rename_i l hh ty el hlo hhi hid
 split at hs
 case isFalse=>cases hs
 rename_i hsz
 simp only [Y4,Y9] at hs
 obtain ⟨rfl,rfl,rfl⟩:=hs
 obtain ⟨hxv,hxn⟩:=Zu h hx
 simp only [Z7] at hxv
 obtain ⟨ov,xs,Fs,b1,b2,b3⟩:=Zy.1 (h.heap rr _ hid)
 rw [←hxv] at b1
 obtain ⟨xa,c,hxe,hle,hz1,hz2⟩:=b1.shape
 obtain ⟨kl,kh,f1,f2,f3,f4,f5⟩:=Z62 hg
 have hrun:(execOp a.eval o).run P w=.ok (.value (.slice (if c=kl then xa else xa.map (·.add (kl * i.size))) (kh - kl) (c - kl))) w:=by
  simp only [execOp,ho,hxe]
  refine Zv (Z60 ht hi' (Z65 h hlo f4) ?_ (.inl ⟨rfl,rfl⟩) f1 (by omega) (Yh _))
  rcases f5 with ⟨rfl,hk⟩ | ⟨y,rfl,hk⟩
  ·have:=Z66 h hhi;subst this;exact .inl ⟨rfl,hk,rfl⟩
  ·have:=(Z67 h hhi).1;rw [hk] at this;exact .inr ⟨_,this⟩
 rw [hsz] at hrun
 have hlv:E.vs N (l.getD (eI .i64 0)):=by
  cases l with
  | none=>exact trivial
  | some n=>exact Z68 h hlo n rfl
 have hhv:E.vs N (hh.getD (Zh el)):=by
  cases hh with
  | none=>exact h.nheap rr _ hid
  | some n=>exact Z68 h hhi n rfl
 refine Good.look h hrun ?_ ⟨⟨hlv,hhv⟩,by simp [hid]⟩
 refine ⟨xa,_,c,kl,kh,by rw [←hxv];exact hxe,f1,f2,?_,?_,rfl⟩
 ·rcases f4 with ⟨rfl,hk⟩ | ⟨y,rfl,hk⟩
  ·subst hk;rfl
  ·exact hk
 ·rcases f5 with ⟨rfl,hk⟩ | ⟨y,rfl,hk⟩
  ·rw [hk];rfl
  ·exact hk
end
end Go.Sm
namespace Go.Sm
section
variable {P:Program} {bd:Bd} {N:Nat→Prop} {s:St} {r:Env} {g:Nat→G} {st:List (Array Value)} {w:World} {a:Act}
theorem Z6b {α β:Type} {f:α→Option β}:∀{l:List α} {m:List β},l.mapM f=some m→∀(i:Nat) x,l[i]?=some x→∃y,f x=some y∧m[i]?=some y
 | [],m,h,i,x,hx=>by simp at hx
 | b::l,m,h,i,x,hx=>by
  simp only [List.mapM_cons,Option.bind_eq_bind,Option.pure_def,Option.bind_eq_some_iff] at h
  obtain ⟨y,h1,ys,h2,h3⟩:=h
  cases h3
  cases i with
  | zero=>simp at hx;subst hx;exact ⟨y,h1,rfl⟩
  | succ i=>simpa using Z6b h2 i x (by simpa using hx)
theorem mapM_some {α β:Type} {f:α→Option β}:∀{l:List α},(∀x∈l,(f x).isSome=true)→∃m,l.mapM f=some m
 | [],_=>⟨[],rfl⟩
 | b::l,h=>by
  obtain ⟨y,hy⟩:=YE.1 (h b (Yd ..))
  obtain ⟨m,hm⟩:=mapM_some (l:=l) fun x hx=>h x (Yc _ hx)
  exact ⟨y::m,by simp [List.mapM_cons,hy,hm]⟩
theorem Z6c {off:Nat} {v:Value} {cells:Array Value} (h:off+v.cells.size≤cells.size):(v.cells.zipIdx.foldl (fun cs (x:Value×Nat)=>cs.setIfInBounds (off+x.2) x.1) cells).toList=splice cells.toList off v.cells.toList:=by
 rw [←Array.foldl_toList,Array.toList_zipIdx]
 obtain ⟨h1,h2⟩:=Great.foldl_set off v.cells.toList 0 cells
 have hl:v.cells.toList.length=v.cells.size:=Yi ..
 have hc:cells.toList.length=cells.size:=Yi ..
 apply List.ext_getElem?
 intro k
 rw [Array.getElem?_toList,h2 k,Z5w (by omega),Nat.add_zero]
 by_cases q1:k<off
 ·rw [if_neg (by omega),if_pos q1,Array.getElem?_toList]
 ·rw [if_neg q1]
  by_cases q2:k<off+v.cells.toList.length
  ·rw [if_pos ⟨by omega,q2,by omega⟩,if_pos q2]
  ·rw [if_neg (by omega),if_neg q2,Array.getElem?_toList]
theorem Z6d (h:R bd N s r g a.tmps st w) {fs:Array Field} {places:List (Nat×Nat)} (hp:fs.toList.mapM (fun f=>(P.info? f.type).map fun i=>(f.offset,i.size))=some places) :
  ∀{ps:List (Nat×Operand)} {l l':List Atom} {cells:Array Value},Z1a P fs s ps l=some l'→Z8 w (Mt bd.Z s.heap g) g r l cells.toList→(∀b∈l,b.ok N s.heap) →
   ∃cells',Instr.fill (places.toArray[·]?) cells (ps.map fun p=>(p.1,a.eval p.2))=some cells'∧Z8 w (Mt bd.Z s.heap g) g r l' cells'.toList∧∀b∈l',b.ok N s.heap
 | [],l,l',cells,hb,hl,hn=>by
  simp only [Z1a,Y4] at hb
  subst hb
  exact ⟨cells,rfl,hl,hn⟩
 | (i,x)::ps,l,l',cells,hb,hl,hn=>by
  simp only [Z1a] at hb
  split at hb
  case h_2=>cases hb
  rename_i f hf
  split at hb
  ·cases hb
  ·rename_i v inf hinf hnt
   split at hb
   case isFalse=>cases hb
   rename_i hc
   obtain ⟨c1,c2,c3⟩:=hc
   obtain ⟨hv,hvn⟩:=Z3m h x
   have hcells:=Z4x h hv hvn c2
   have hlen:=hcells.length
   have hll:=hl.length
   have hcs:cells.toList.length=cells.size:=Yi ..
   have hvs:(a.eval x).cells.toList.length=(a.eval x).cells.size:=Yi ..
   obtain ⟨y,hy1,hy2⟩:=Z6b hp i f (by simpa using hf)
   rw [hinf] at hy1
   simp only [Option.map_some,Y4] at hy1
   subst hy1
   have hfit:f.offset+(a.eval x).cells.size≤cells.size:=by omega
   have hset:=Z6c hfit
   obtain ⟨cells',e1,e2,e3⟩:=Z6d h hp (ps:=ps) (cells:=(a.eval x).cells.zipIdx.foldl (fun cs (x:Value×Nat)=>cs.setIfInBounds (f.offset+x.2) x.1) cells) hb (by
    rw [hset]
    have:=Z4E (j:=f.offset) hl hcells
    exact this) (by
    intro b hb
    simp only [Y6] at hb
    rcases hb with (hb | hb) | hb
    ·exact hn b (List.mem_of_mem_take hb)
    ·exact SV.cells_all hvn b hb
    ·exact hn b (List.mem_of_mem_drop hb))
   refine ⟨cells',?_,e2,e3⟩
   simp only [List.map_cons]
   unfold Instr.fill
   have hpl:places.toArray[i]?=some (f.offset,inf.size):=by simpa using hy2
   simp only [hpl]
   have hsz:(a.eval x).cells.size=inf.size:=by omega
   rw [if_neg (by simp [hsz];omega)]
   exact e1
  ·cases hb
theorem Z6e (h:R bd N s r g a.tmps st w) {t:TypeId} {parts:Array (Nat×Operand)} (o:Oper) (ho:o.op=.build t parts) {gs:List (E .bool)} {sv:SV} {s':St} (hs:Z1b P s t parts.toList=some (gs,sv,s')) :
  Zt P bd N r st false (execOp a.eval o) a.tmps w sv s':=by
 unfold Z1b at hs
 split at hs
 case h_2=>cases hs
 rename_i fs i ht hi
 split at hs
 case h_2=>cases hs
 rename_i z hz
 split at hs
 case isFalse=>cases hs
 rename_i hall
 obtain ⟨l,hl,h1⟩:=Ya.1 hs
 simp only [Y9] at h1
 obtain ⟨rfl,rfl,rfl⟩:=h1
 obtain ⟨places,hp⟩:=mapM_some (l:=fs.toList) (f:=fun f=>(P.info? f.type).map fun i=>(f.offset,i.size)) fun f hf=>by
  rw [YG] at hall
  have:=hall f hf
  simpa using this
 obtain ⟨cells,e1,e2,e3⟩:=Z6d h hp hl (Z4z z.toList) (fun b hb=>by obtain ⟨v,_,rfl⟩:=Yo.1 hb;exact Z3l v)
 have hbuilt:P.built t (parts.map fun (i,x)=>(i,a.eval x)).toList=some cells:=by
  have hpa:(parts.map fun (i,x)=>(i,a.eval x)).toList=parts.toList.map fun p=>(p.1,a.eval p.2):=by simp
  rw [hpa]
  unfold Program.built
  simp only [ht,hi,hz,hp]
  exact e1
 refine Zt.look h (v:=.agg cells) ?_ ⟨cells,rfl,e2⟩ e3
 intro w2 _
 simp only [execOp,ho]
 exact Zv (run_build w2 t _ cells hbuilt)
theorem Z6f (h:R bd N s r g a.tmps st w) {x:Operand} (o:Oper) (ho:o.op=.nilCheck x) {gs:List (E .bool)} {sv:SV} {s':St} (hs:Z1p P false s 0 (.nilCheck x)=some (gs,sv,s')) :
  Zt P bd N r st false (execOp a.eval o) a.tmps w sv s':=by
 simp only [Z1p] at hs
 have run:∀p,a.eval x=.pointer (some p)→∀w2,(execOp a.eval o).run P w2=.ok (.value (a.eval x)) w2:=by
  intro p hp w2
  simp only [execOp,ho,hp]
  rfl
 split at hs
 ·rename_i i j hx
  obtain ⟨-,rfl,rfl⟩:=Z3T hs
  obtain ⟨hv,hn⟩:=Zu h hx
  exact Zt.look h (fun w2 _=>run _ hv w2) hv hn
 ·rename_i i t k ix j hx
  obtain ⟨-,rfl,rfl⟩:=Z3T hs
  obtain ⟨hv,hn⟩:=Zu h hx
  have hv':=hv
  obtain ⟨_,_,_,_,_,_,_,h5⟩:=hv'
  exact Zt.look h (fun w2 _=>run _ h5 w2) hv hn
 ·rename_i c t l k ix j hx
  obtain ⟨-,rfl,rfl⟩:=Z3T hs
  obtain ⟨hv,hn⟩:=Zu h hx
  have hv':=hv
  obtain ⟨_,_,_,_,_,_,_,h5⟩:=hv'
  exact Zt.look h (fun w2 _=>run _ h5 w2) hv hn
 ·cases hs
theorem Z6g (h:R bd N s r g a.tmps st w) {t:TypeId} {x ix:Operand} (o:Oper) (ho:o.op=.index t x ix) (ht:P.underlying t=some .string) {gs:List (E .bool)} {sv:SV} {s':St} {k:IntKind} {e:E .str} {n:E (.int k)} (hx:s.get x=.a (.x .str e)) (hix:s.get ix=.a (.x (.int k) n))
  (g0:den (gLe (eI k 0) n) r=true) (g1:den (gLt n (.o1 .slen e)) r=true):Zt P bd N r st false (execOp a.eval o) a.tmps w (ax (.int .u8) (.o2 (.sidx k) e n)) s:=by
 obtain ⟨hv,hn⟩:=Zu h hx
 obtain ⟨hiv,hin⟩:=Zu h hix
 have hv:=Z3r hv
 have hiv:=Z3p hiv
 have h0:(0:Int)≤den n r:=Zw.1 g0
 have h1:(den n r:Int)<((den e r:ByteArray).size:Int):=Z3G.1 g1
 have key:∀(m:Int) (sb:ByteArray),m=den n r→sb=den e r→0≤m→m<(sb.size:Int)→Zt P bd N r st false (execOp a.eval o) a.tmps w (ax (.int .u8) (.o2 (.sidx k) e n)) s:=by
  intro m sb hm hsb h0 h1
  have hlt:m.toNat<sb.size:=by omega
  have hget:sb[m.toNat]?=some sb[m.toNat]:=by simp [hlt]
  refine Zt.look h (v:=.int .u8 ((sb[m.toNat]).toNat:Int)) ?_ ?_ ⟨hn,hin⟩
  ·intro w2 _
   simp only [execOp,ho,hv,hiv,←hm,←hsb]
   refine Zv ?_
   unfold Instr.index
   rw [run_bind_ok (v:=(k,m)) (w':=w2) rfl]
   simp only []
   rw [run_bind_ok (Z3K ht)]
   simp only [h0,if_true,hget]
   rfl
  ·have:((sb[m.toNat]).toNat:Int)=den (.o2 (.sidx k) e n) r:=by
    simp only [den,O2.d]
    rw [←hm,←hsb]
    have hd:sb.data.getD m.toNat 0=sb[m.toNat]:=by
     rw [Array.getD_eq_getD_getElem?]
     have:sb.data[m.toNat]?=some sb[m.toNat]:=by
      rw [Array.getElem?_eq_getElem (by exact hlt)];rfl
     rw [this];rfl
    exact congrArg (fun b:UInt8=>(b.toNat:Int)) hd.symm
   rw [this];exact Z3u _ _
 exact key _ _ rfl rfl h0 h1
theorem Z6h (h:R bd N s r g a.tmps st w):∀{xs:List Operand} {l:List (Nat×Nat)},Z1m (xs.map s.get)=some l→xs.map a.eval=(l.map fun c=>Value.pointer (some ⟨(g c.1).blk,c.2,none⟩))∧∀c∈l,(s.heap c.1).isSome=true
 | [],l,hc=>by simp only [List.map_nil,Z1m,Y4] at hc;subst hc;simp
 | x::xs,l,hc=>by
  simp only [List.map_cons] at hc
  cases hx:s.get x with
  | a b =>
   rw [hx] at hc
   cases b<;>simp only [Z1m,reduceCtorEq] at hc
   rename_i id j
   obtain ⟨m,hm,rfl⟩:=Ya.1 hc
   obtain ⟨i1,i2⟩:=Z6h h hm
   obtain ⟨hv,hn⟩:=Zu h hx
   refine ⟨?_,fun c hc=>?_⟩
   ·simp only [List.map_cons,i1]
    congr 1
   ·rcases Yl.1 hc with rfl | hc
    ·exact hn
    ·exact i2 c hc
  | agg l'=>rw [hx] at hc;simp [Z1m] at hc
  | tup l'=>rw [hx] at hc;simp [Z1m] at hc
theorem Z6i (h:R bd N s r g a.tmps st w) {f:FuncId} {first caps:Array Operand} (o:Oper) (ho:o.op=.makeFunc (.func f) first caps) (hfs:first.size=0) {l:List (Nat×Nat)} (hl:Z1m (caps.toList.map s.get)=some l) :
  Zt P bd N r st false (execOp a.eval o) a.tmps w (.a (.clo f l)) s:=by
 obtain ⟨h1,h2⟩:=Z6h h hl
 have hfirst:first=#[]:=Array.size_eq_zero_iff.1 hfs
 refine Zt.look h (v:=.func (.func f) (first.map a.eval) (caps.map a.eval)) ?_ ?_ h2
 ·intro w2 _;simp only [execOp,ho];rfl
 ·have e1:caps.map a.eval=(l.map fun c=>Value.pointer (some ⟨(g c.1).blk,c.2,none⟩)).toArray:=by
   apply Array.ext'
   simp only [Array.toList_map,h1]
  simp only [Z9,Z7,hfirst,e1]
  simp
theorem Z6j (h:R bd N s r g a.tmps st w) {mx:Bool} {ts:Array TypeId} {args:Array Operand} (o:Oper) (ho:o.op=.call { callee:=.builtin (if mx then .max else .min),args:=args,argTypes:=ts }) {gs:List (E .bool)} {sv:SV} {s':St} (hs:Z1l mx s args.toList=some (gs,sv,s')) :
  Zt P bd N r st false (execOp a.eval o) a.tmps w sv s':=by
 unfold Z1l at hs
 split at hs
 case h_2=>cases hs
 rename_i k e1 k' e2 hl
 split at hs
 case isFalse=>cases hs
 rename_i hk
 subst hk
 obtain ⟨-,rfl,rfl⟩:=Z3T hs
 obtain ⟨x,y,hxy,hx,hy⟩:∃x y,args.toList=[x,y]∧s'.get x=.a (.x (.int k') e1)∧s'.get y=.a (.x (.int k') e2):=by
  match hh:args.toList with
  | []=>rw [hh] at hl;simp at hl
  | [x]=>rw [hh] at hl;simp at hl
  | [x,y]=>rw [hh] at hl;simp at hl;exact ⟨x,y,rfl,hl.1,hl.2⟩
  | x::y::z::m=>rw [hh] at hl;simp at hl
 obtain ⟨hv1,hn1⟩:=Zu h hx
 obtain ⟨hv2,hn2⟩:=Zu h hy
 have hv1:=Z3p hv1
 have hv2:=Z3p hv2
 have hargs:args.map a.eval=#[a.eval x,a.eval y]:=by
  apply Array.ext'
  simp [hxy]
 cases mx with
 | true =>
  refine Zt.look h (v:=.int k' (den (.o2 (.mx k') e1 e2) r)) ?_ (Z3u _ _) ⟨hn1,hn2⟩
  intro w2 _
  rw [Z4c o (by rw [ho]),hargs,hv1,hv2]
  exact Zv rfl
 | false =>
  refine Zt.look h (v:=.int k' (den (.o2 (.mn k') e1 e2) r)) ?_ (Z3u _ _) ⟨hn1,hn2⟩
  intro w2 _
  rw [Z4c o (by rw [ho]),hargs,hv1,hv2]
  exact Zv rfl
end
end Go.Sm
namespace Go.Sm
section
variable {P:Program} {bd:Bd} {N:Nat→Prop} {s:St} {r:Env} {g:Nat→G} {st:List (Array Value)} {w:World} {a:Act}
def Z6k:Value→Value→Bool
 | .int _ a,.int _ b=>a==b
 | .bool a,.bool b=>a==b
 | _,_=>false
def allEq:List Value→List Value→Bool
 | [],[]=>true
 | u::us,v::vs=>Z6k u v&&allEq us vs
 | _,_=>false
theorem Z6l {M:Nat→Prop} {neq:Bool}:∀{l m:List Atom} {e:E .bool} {us vs:List Value},Z0F neq l m=some e→Z8 w M g r l us→Z8 w M g r m vs→(∀b∈l,b.vs N)→(∀b∈m,b.vs N) →
  (den e r:Bool)=(if neq then !(allEq us vs) else allEq us vs)∧e.vs N:=by
 intro l
 induction l with
 | nil=>intro m e us vs h;simp [Z0F] at h
 | cons b l ih =>
  intro m e us vs h hl hm nl nm
  cases us with
  | nil=>exact hl.elim
  | cons u us =>
   cases m with
   | nil=>cases b<;>simp [Z0F] at h
   | cons c m =>
    cases vs with
    | nil=>exact hm.elim
    | cons v vs =>
     have hone:∀(ec:E .bool),ec.vs N→(den ec r:Bool)=(if neq then !(Z6k u v) else Z6k u v)→(l=[]∧m=[]∧e=ec∨∃er,Z0F neq l m=some er∧e=.o2 (if neq then .or else .and) ec er) →
       (den e r:Bool)=(if neq then !(allEq (u::us) (v::vs)) else allEq (u::us) (v::vs))∧e.vs N:=by
      intro ec hv hd hcase
      rcases hcase with ⟨rfl,rfl,rfl⟩ | ⟨er,her,rfl⟩
      ·cases us with
       | cons _ _=>exact hl.2.elim
       | nil =>
        cases vs with
        | cons _ _=>exact hm.2.elim
        | nil=>rw [hd];simp [allEq,hv]
      ·obtain ⟨i1,i2⟩:=ih her hl.2 hm.2 (fun b hb=>nl b (Yc _ hb)) (fun b hb=>nm b (Yc _ hb))
       cases neq with
       | true =>
        simp only [if_true] at hd i1 ⊢
        refine ⟨?_,hv,i2⟩
        simp only [den,O2.d,hd,i1,allEq,Bool.not_and]
       | false =>
        simp only [Yg,if_false] at hd i1 ⊢
        refine ⟨?_,hv,i2⟩
        simp only [den,O2.d,hd,i1,allEq]
     have hnb:=nl b (Yd ..)
     have hnc:=nm c (Yd ..)
     have hb:=hl.1
     have hc:=hm.1
     have hint:∀(k:IntKind) (x y:E (.int k)),Z7 w M g r (.x (.int k) x) u→Z7 w M g r (.x (.int k) y) v→(den (.o2 (.cm (if neq then .neq else .eql) k k) x y) r:Bool)=(if neq then !(Z6k u v) else Z6k u v):=by
      intro k x y h1 h2
      rw [Z3p h1,Z3p h2]
      cases neq<;>simp [den,O2.d,cmI,Z6k]<;>rfl
     have hbool:∀(x y:E .bool),Z7 w M g r (.x .bool x) u→Z7 w M g r (.x .bool y) v→(den (.o2 (if neq then .bne else .beq) x y) r:Bool)=(if neq then !(Z6k u v) else Z6k u v):=by
      intro x y h1 h2
      rw [Z3q h1,Z3q h2]
      cases neq<;>simp [den,O2.d,Z6k]<;>rfl
     unfold Z0F at h
     split at h
     ·rename_i k x k' y e1 e2
      simp only [List.cons.injEq] at e1 e2
      obtain ⟨rfl,rfl⟩:=e1
      obtain ⟨rfl,rfl⟩:=e2
      split at h
      case isFalse=>cases h
      rename_i hk
      subst hk
      cases h
      exact hone _ (by exact ⟨hnb,hnc⟩) (hint _ _ _ hb hc) (.inl ⟨rfl,rfl,rfl⟩)
     ·rename_i x y e1 e2
      simp only [List.cons.injEq] at e1 e2
      obtain ⟨rfl,rfl⟩:=e1
      obtain ⟨rfl,rfl⟩:=e2
      cases h
      exact hone _ (by exact ⟨hnb,hnc⟩) (hbool _ _ hb hc) (.inl ⟨rfl,rfl,rfl⟩)
     ·rename_i k x l' k' y m' _ e1 e2
      simp only [List.cons.injEq] at e1 e2
      obtain ⟨rfl,rfl⟩:=e1
      obtain ⟨rfl,rfl⟩:=e2
      split at h
      case isFalse=>cases h
      rename_i hk
      subst hk
      obtain ⟨er,h1,h2⟩:=Ya.1 h
      exact hone _ (by exact ⟨hnb,hnc⟩) (hint _ _ _ hb hc) (.inr ⟨er,h1,h2.symm⟩)
     ·rename_i x l' y m' _ e1 e2
      simp only [List.cons.injEq] at e1 e2
      obtain ⟨rfl,rfl⟩:=e1
      obtain ⟨rfl,rfl⟩:=e2
      obtain ⟨er,h1,h2⟩:=Ya.1 h
      exact hone _ (by exact ⟨hnb,hnc⟩) (hbool _ _ hb hc) (.inr ⟨er,h1,h2.symm⟩)
     ·cases h
theorem Z6m {β σ:Type} {l:List β} {init fin:σ} {body:β→σ→Sem (ForInStep σ)} {q:β→Bool} (h:∀b∈l,(body b init).run P w=.ok (if q b=true then .yield init else .done fin) w) :
  (forIn l init body).run P w=.ok (if l.all q=true then init else fin) w:=by
 induction l with
 | nil=>rfl
 | cons b l ih =>
  rw [List.forIn_cons,run_bind_ok (h b (Yd ..))]
  cases hq:q b with
  | true =>
   simp only [if_true,List.all_cons,hq,Bool.true_and]
   exact ih fun c hc=>h c (Yc _ hc)
  | false =>
   simp only [Yg,if_false,List.all_cons,hq,Bool.false_and]
   rfl
theorem Z6n {t:TypeId} {fs:Array Field} (ht:P.underlying t=some (.struct fs)) (hst:P.stoodInHeld t=false) {xs ys:Array Value} {q:Field→Bool}
  (h : ∀ f ∈ fs.toList, f.name ≠ "_" ∧ ∃ u v, (Go.part f.type xs f.offset).run P w = .ok u w ∧ (Go.part f.type ys f.offset).run P w = .ok v w ∧ (Op.equalIn 9999 f.type u v).run P w = .ok (q f) w) :
  (Op.equal t (.agg xs) (.agg ys)).run P w=.ok (fs.toList.all q) w:=by
 show (Op.equalIn (9999+1) t (.agg xs) (.agg ys)).run P w=_
 rw [Op.equalIn,run_bind_ok (Z3K ht)]
 simp only []
 rw [run_bind_ok (v:=P) (w':=w) rfl]
 simp only [hst,Yg,if_false]
 rw [←Array.forIn_toList]
 rw [run_bind_ok (Z6m (init:=(none,())) (fin:=(some false,())) (q:=q) ?_)]
 ·cases fs.toList.all q<;>rfl
 ·intro f hf
  obtain ⟨hn,u,v,h1,h2,h3⟩:=h f hf
  rw [if_pos hn,run_bind_ok h1,run_bind_ok h2,run_bind_ok h3]
  cases q f<;>rfl
theorem Z6o {t:TypeId} (h:Z0q P t=some false) {cs:Array Value} {i:Nat} {v:Value} (hv:cs[i]?=some v):(Go.part t cs i).run P w=.ok v w:=by
 unfold Go.part
 rw [run_bind_ok (Z4e h)]
 simp only [Yg,if_false,hv]
 rfl
theorem Z6p {bd:Bd} {N:Nat→Prop} {s:St} {st:List (Array Value)} {a:Act} (h:R bd N s r g a.tmps st w) {t:TypeId} {x:Operand} {f:Nat} (o:Oper) (ho:o.op=.field t x f) {gs:List (E .bool)} {sv:SV} {s':St}
  (hs:Z1p P false s 0 (.field t x f)=some (gs,sv,s')):Zt P bd N r st false (execOp a.eval o) a.tmps w sv s':=by
 simp only [Z1p] at hs
 split at hs
 case h_2=>cases hs
 rename_i fs l ht hx
 split at hs
 case h_2=>cases hs
 rename_i fd hf
 split at hs
 case isFalse=>cases hs
 rename_i hag
 split at hs
 case h_2=>cases hs
 rename_i b hb
 obtain ⟨-,rfl,rfl⟩:=Z3T hs
 have hget:=Z3m h x
 rw [hx] at hget
 obtain ⟨⟨cs,hcs,hr⟩,hn⟩:=hget
 obtain ⟨v,hv,hc⟩:=Z8.get hr hb
 have hv':cs[fd.offset]?=some v:=by simpa using hv
 refine Zt.look h (v:=v) (fun w2 _=>?_) hc (hn _ (YD hb))
 simp only [execOp,ho,hcs]
 refine Zv ?_
 unfold Instr.field
 rw [run_bind_ok (Z3K ht)]
 simp only [hf]
 rw [run_bind_ok (v:=cs) (w':=w2) rfl]
 exact Z6o hag hv'
theorem Z6q {M:Nat→Prop} {neq:Bool} {xs ys:Array Value}:∀{l m:List Atom} {fs:List Field} {i:Nat} {e:E .bool} {us vs:List Value},eqFields P fs i l=true→Z0F neq l m=some e→Z8 w M g r l us→Z8 w M g r m vs →
  (∀j,xs[i+j]?=us[j]?)→(∀j,ys[i+j]?=vs[j]?) →
  (∀ f ∈ fs, f.name ≠ "_" ∧ ∃ u v, (∀ w : World, (Go.part f.type xs f.offset).run P w = .ok u w) ∧ (∀ w : World, (Go.part f.type ys f.offset).run P w = .ok v w) ∧ ∀ w : World, (Op.equalIn 9999 f.type u v).run P w = .ok (Z6k (xs.getD f.offset undef) (ys.getD f.offset undef)) w) ∧
   fs.all (fun f=>Z6k (xs.getD f.offset undef) (ys.getD f.offset undef))=allEq us vs:=by
 intro l
 induction l with
 | nil=>intro m fs i e us vs _ h;simp [Z0F] at h
 | cons b l ih =>
  intro m fs i e us vs hf hc hl hm hx hy
  cases us with
  | nil=>exact hl.elim
  | cons u us =>
   cases m with
   | nil=>cases b<;>simp [Z0F] at hc
   | cons c m =>
    cases vs with
    | nil=>exact hm.elim
    | cons v vs =>
     cases fs with
     | nil=>cases b<;>simp [eqFields] at hf
     | cons f fs =>
      have step : ∀ (hoff : f.offset = i) (hname : f.name ≠ "_") (hag : Z0q P f.type = some false) (heq : ∀ w : World, (Op.equalIn 9999 f.type u v).run P w = .ok (Z6k u v) w) (hrest : l = [] ∧ m = [] ∧ fs = [] ∨ eqFields P fs (i + 1) l = true ∧ ∃ er, Z0F neq l m = some er),
        (∀ f' ∈ f :: fs, f'.name ≠ "_" ∧ ∃ u v, (∀ w : World, (Go.part f'.type xs f'.offset).run P w = .ok u w) ∧ (∀ w : World, (Go.part f'.type ys f'.offset).run P w = .ok v w) ∧ ∀ w : World, (Op.equalIn 9999 f'.type u v).run P w = .ok (Z6k (xs.getD f'.offset undef) (ys.getD f'.offset undef)) w) ∧
         (f::fs).all (fun f=>Z6k (xs.getD f.offset undef) (ys.getD f.offset undef))=allEq (u::us) (v::vs):=by
       intro hoff hname hag heq hrest
       have hxu:xs[f.offset]?=some u:=by rw [hoff];simpa using hx 0
       have hyv:ys[f.offset]?=some v:=by rw [hoff];simpa using hy 0
       have e1:xs.getD f.offset undef=u:=by rw [Array.getD_eq_getD_getElem?,hxu];rfl
       have e2:ys.getD f.offset undef=v:=by rw [Array.getD_eq_getD_getElem?,hyv];rfl
       have first : f.name ≠ "_" ∧ ∃ u v, (∀ w : World, (Go.part f.type xs f.offset).run P w = .ok u w) ∧ (∀ w : World, (Go.part f.type ys f.offset).run P w = .ok v w) ∧ ∀ w : World, (Op.equalIn 9999 f.type u v).run P w = .ok (Z6k (xs.getD f.offset undef) (ys.getD f.offset undef)) w :=
        ⟨hname,u,v,fun _=>Z6o hag hxu,fun _=>Z6o hag hyv,by rw [e1,e2];exact heq⟩
       rcases hrest with ⟨rfl,rfl,rfl⟩ | ⟨h1,er,h2⟩
       ·cases us with
        | cons _ _=>exact hl.2.elim
        | nil =>
         cases vs with
         | cons _ _=>exact hm.2.elim
         | nil=>exact ⟨fun f' hf'=>by simp only [Y1] at hf';subst hf';exact first,by simp only [List.all_cons,List.all_nil,Bool.and_true,e1,e2,allEq]⟩
       ·obtain ⟨i1,i2⟩:=ih h1 h2 hl.2 hm.2 (fun j=>by have:=hx (j+1);rw [show i+(j+1)=i+1+j by omega] at this;simpa using this) (fun j=>by have:=hy (j+1);rw [show i+(j+1)=i+1+j by omega] at this;simpa using this)
        refine ⟨fun f' hf'=>?_,?_⟩
        ·rcases Yl.1 hf' with rfl | hf'
         ·exact first
         ·exact i1 f' hf'
        ·simp only [List.all_cons,e1,e2,i2,allEq]
      have hrest:∀(h5:eqFields P fs (i+1) l=true),(l=[]∧m=[]∨∃er,Z0F neq l m=some er)→(l=[]∧m=[]∧fs=[]∨eqFields P fs (i+1) l=true∧∃er,Z0F neq l m=some er):=by
       rintro h5 (⟨rfl,rfl⟩ | h6)
       ·left
        refine ⟨rfl,rfl,?_⟩
        cases fs with
        | nil=>rfl
        | cons f' fs'=>simp [eqFields] at h5
       ·exact .inr ⟨h5,h6⟩
      unfold Z0F at hc
      split at hc
      ·rename_i k x k' y q1 q2
       simp only [List.cons.injEq] at q1 q2
       obtain ⟨rfl,rfl⟩:=q1
       obtain ⟨rfl,rfl⟩:=q2
       split at hc
       case isFalse=>cases hc
       rename_i hk
       subst hk
       simp only [eqFields,Y5,Ye] at hf
       obtain ⟨⟨⟨⟨h1,h2⟩,h3⟩,h4⟩,h5⟩:=hf
       refine step h1 h2 h3 ?_ (hrest h5 (.inl ⟨rfl,rfl⟩))
       rw [Z3p hl.1,Z3p hm.1]
       intro w2
       split at h4
       ·rename_i k' hu
        rw [Op.equalIn,run_bind_ok (Z3K hu)]
        simp only [if_true]
        rfl
       ·cases h4
      ·rename_i x y q1 q2
       simp only [List.cons.injEq] at q1 q2
       obtain ⟨rfl,rfl⟩:=q1
       obtain ⟨rfl,rfl⟩:=q2
       simp only [eqFields,Y5,Ye] at hf
       obtain ⟨⟨⟨⟨h1,h2⟩,h3⟩,h4⟩,h5⟩:=hf
       refine step h1 h2 h3 ?_ (hrest h5 (.inl ⟨rfl,rfl⟩))
       rw [Z3q hl.1,Z3q hm.1]
       intro w2
       split at h4
       ·rename_i hu
        rw [Op.equalIn,run_bind_ok (Z3K hu)]
        rfl
       ·cases h4
      ·rename_i k x l' k' y m' _ q1 q2
       simp only [List.cons.injEq] at q1 q2
       obtain ⟨rfl,rfl⟩:=q1
       obtain ⟨rfl,rfl⟩:=q2
       split at hc
       case isFalse=>cases hc
       rename_i hk
       subst hk
       obtain ⟨er,her,_⟩:=Ya.1 hc
       simp only [eqFields,Y5,Ye] at hf
       obtain ⟨⟨⟨⟨h1,h2⟩,h3⟩,h4⟩,h5⟩:=hf
       refine step h1 h2 h3 ?_ (hrest h5 (.inr ⟨er,her⟩))
       rw [Z3p hl.1,Z3p hm.1]
       intro w2
       split at h4
       ·rename_i k' hu
        rw [Op.equalIn,run_bind_ok (Z3K hu)]
        simp only [if_true]
        rfl
       ·cases h4
      ·rename_i x l' y m' _ q1 q2
       simp only [List.cons.injEq] at q1 q2
       obtain ⟨rfl,rfl⟩:=q1
       obtain ⟨rfl,rfl⟩:=q2
       obtain ⟨er,her,_⟩:=Ya.1 hc
       simp only [eqFields,Y5,Ye] at hf
       obtain ⟨⟨⟨⟨h1,h2⟩,h3⟩,h4⟩,h5⟩:=hf
       refine step h1 h2 h3 ?_ (hrest h5 (.inr ⟨er,her⟩))
       rw [Z3q hl.1,Z3q hm.1]
       intro w2
       split at h4
       ·rename_i hu
        rw [Op.equalIn,run_bind_ok (Z3K hu)]
        rfl
       ·cases h4
      ·cases hc
theorem Z6r (h:R bd N s r g a.tmps st w) {neq:Bool} {t ty:TypeId} {x y:Operand} (o:Oper) (ho:o.op=.binOp (if neq then .neq else .eql) t x y ty) {l m:List Atom} {e:E .bool} (hx:s.get x=.agg l) (hy:s.get y=.agg m) (hgd:P.eqGuardType P.depth t=false) (hok:Z0G P t l=true) (hc:Z0F neq l m=some e) :
  Zt P bd N r st false (execOp a.eval o) a.tmps w (ax .bool e) s:=by
 obtain ⟨⟨cs,hcs,hl⟩,hn⟩:=Z3n h hx
 obtain ⟨⟨ds,hds,hm⟩,hn'⟩:=Z3n h hy
 unfold Z0G at hok
 split at hok
 case h_2=>cases hok
 rename_i fs ht
 simp only [Y5,Yr] at hok
 obtain ⟨h1,h2⟩:=Z6q (P:=P) (w:=w) (xs:=cs) (ys:=ds) hok.2 hc hl hm (fun j=>by simp) (fun j=>by simp)
 obtain ⟨h3,h4⟩:=Z6l hc hl hm (fun b hb=>(hn b hb).vs) (fun b hb=>(hn' b hb).vs)
 have heq:=fun w2:World=>Z6n (w:=w2) ht hok.1 (fun f hf=>by obtain ⟨b1,u,v,b2,b3,b4⟩:=h1 f hf;exact ⟨b1,u,v,b2 w2,b3 w2,b4 w2⟩)
 rw [h2] at heq
 have hguard:∀(b:BinOp) (w2:World),(eqGuard b t x y (.agg cs) (.agg ds)).run P w2=.ok () w2:=by
  intro b w2
  cases b<;>simp [eqGuard,hgd]
 cases neq with
 | true =>
  refine Zt.look h (v:=.bool (den e r)) ?_ (Z3v e _) h4
  intro w2 _
  simp only [execOp,ho,hcs,hds,if_true]
  refine Zv ?_
  rw [run_bind_ok (hguard _ w2),h3]
  exact Z3P (heq w2) rfl
 | false =>
  refine Zt.look h (v:=.bool (den e r)) ?_ (Z3v e _) h4
  intro w2 _
  simp only [execOp,ho,hcs,hds,Yg,if_false]
  refine Zv ?_
  rw [run_bind_ok (hguard _ w2),h3]
  exact Z3O (heq w2) rfl
end
end Go.Sm
namespace Go.Sm
section
variable {P:Program} {bd:Bd} {N:Nat→Prop} {s:St} {r:Env} {g:Nat→G} {st:List (Array Value)} {w:World} {a:Act}
theorem Z6s {M:Nat→Prop} {c:Bool} {u:Ty}:∀{t:Ty} {j:Nat} {e:E t} {l:E (.sl c u)} {F:List Nat} {us:List Value},Zd t j e=some ⟨.sl c u,l⟩→Z6 w t none F (den e r) us →
  ∃v o zs Fs F1,us[j]?=some v∧Z5 w v o u.size (den l r:List u.D).length zs∧Rws w M true u Zz Fs (den l r) zs∧Z6 w t (some j) F1 (den e r) us∧F.Perm (o.toList++Fs.flatten++F1)∧(e.vs N→l.vs N):=by
 intro t
 induction t with
 | int k=>intro j e l F us hp;cases j<;>simp [Zd] at hp
 | bool=>intro j e l F us hp;cases j<;>simp [Zd] at hp
 | str=>intro j e l F us hp;cases j<;>simp [Zd] at hp
 | sl c' e' ih =>
  intro j e l F us hp hr
  cases j with
  | succ j=>simp [Zd] at hp
  | zero =>
   simp only [Zd,Y4,Sigma.mk.injEq] at hp
   obtain ⟨hty,hl⟩:=hp
   cases hty
   have hl:=eq_of_heq hl
   subst hl
   simp only [Z6] at hr
   rw [if_neg (by simp)] at hr
   obtain ⟨v,o,xs,Fs,rfl,h2,h3,rfl,h5,h6⟩:=hr
   refine ⟨v,o,xs,Fs,[],rfl,h2,⟨h5,h2.1,fun i hi=>?_⟩,?_,by simp,fun h=>h⟩
   ·obtain ⟨cs,q1,q2,q3⟩:=h6 i hi
    exact ⟨cs,q1,q2,by simpa [Row,Zz] using q3⟩
   ·simp only [Z6]
    rw [if_pos trivial]
    exact ⟨trivial,rfl⟩
 | pr x y ihx ihy =>
  intro j e l F us hp hr
  simp only [Zd] at hp
  simp only [Z6] at hr
  obtain ⟨F1,F2,m1,m2,rfl,rfl,hl,hm⟩:=hr
  have hll:=hl.len
  split at hp
  ·rename_i hj
   obtain ⟨v,o,zs,Fs,G1,q1,q2,q3,q4,q5,q6⟩:=ihx (e:=.o1 (.fst x y) e) hp hl
   refine ⟨v,o,zs,Fs,G1++F2,by rw [Yw (by omega)];exact q1,q2,q3,?_,?_,q6⟩
   ·simp only [Z6]
    exact ⟨G1,F2,m1,m2,rfl,rfl,by simp only [hj,if_true];exact q4,by simp only [hj,if_true];exact hm⟩
   ·rw [←Ym]
    exact q5.append_right F2
  ·rename_i hj
   obtain ⟨v,o,zs,Fs,G1,q1,q2,q3,q4,q5,q6⟩:=ihy (e:=.o1 (.snd x y) e) hp hm
   refine ⟨v,o,zs,Fs,F1++G1,by rw [Yt (by omega),hll];exact q1,q2,q3,?_,?_,q6⟩
   ·simp only [Z6]
    exact ⟨F1,G1,m1,m2,rfl,rfl,by simp only [hj,if_false];exact hl,by simp only [hj,if_false];exact q4⟩
   ·exact (q5.append_left F1).trans (List.perm_append_comm_assoc F1 (o.toList++Fs.flatten) G1)
theorem Rws.undeep {M:Nat→Prop} {t:Ty} {Fs:List (List Nat)} {ds:List t.D} {xs:List Value} (h:Rws w M true t Zz Fs ds xs):Rws w M t.hasSl t Zz Fs ds xs:=by
 cases ht:t.hasSl with
 | true=>exact h
 | false =>
  refine ⟨h.lf,h.lx,fun i hi=>?_⟩
  obtain ⟨us,a1,a2,a3⟩:=h.row i hi
  refine ⟨us,a1,a2,?_⟩
  simp only [Row,if_true,Zz] at a3
  simp only [Row,Yg,if_false]
  obtain ⟨p1,p2⟩:=a3.flat (M:=M) (w':=w) ht
  exact ⟨p1,p2⟩
theorem Z6t:∀{Fs:List (List Nat)} {n:Nat} {F:List Nat} {b:Nat},Fs.flatten.Nodup→b∈Fs.getD n []→b∉F→b∉(Fs.set n F).flatten
 | [],n,F,b,_,hb,_=>by simp at hb
 | G::Fs,0,F,b,hnd,hb,hF=>by
  simp only [List.flatten_cons] at hnd
  obtain ⟨n1,n2,n3⟩:=Yp.1 hnd
  simp only [List.set_cons_zero,List.flatten_cons,Y6,not_or]
  exact ⟨hF,fun h=>n3 b (by simpa using hb) b h rfl⟩
 | G::Fs,n+1,F,b,hnd,hb,hF=>by
  simp only [List.flatten_cons] at hnd
  obtain ⟨n1,n2,n3⟩:=Yp.1 hnd
  simp only [List.set_cons_succ,List.flatten_cons,Y6,not_or]
  have hb':b∈Fs.getD n []:=by simpa using hb
  exact ⟨fun h=>n3 b h b (Z0f hb') rfl,Z6t n2 hb' hF⟩
theorem Z6u (s:St) (mv:List Nat) (i id:Nat) (B1 B2:Blk):(((s.kills mv).unnest i).new id B1).new i B2 =
  ⟨s.cur.map (SV.map fun a=>Ze i (Zx mv a)),s.stk.map (List.map (SV.map fun a=>Ze i (Zx mv a))),
   upd (upd (fun m=>bif mv.contains m then none else (s.heap m).map (Blk.map fun a=>Ze i (Zx mv a))) id (some B1)) i (some B2),s.base,s.np,s.kp⟩:=by
 rw [Z4r]
 simp only [St.unnest,St.new,St.mk.injEq,and_true,true_and,List.map_map]
 refine ⟨Ys fun v _=>by simp only [Function.comp,SV.map_map],Ys fun l _=>by simp only [Function.comp,List.map_map];exact Ys fun v _=>by simp only [Function.comp,SV.map_map],?_⟩
 congr 2
 funext m
 cases mv.contains m
 ·simp only [cond_false,Option.map_map]
  congr 1
  funext C
  simp only [Function.comp,Blk.map_map]
 ·rfl
set_option maxHeartbeats 2000000 in
theorem Z6v (h:R bd N s r g a.tmps st w) {id i:Nat} {t t2:TypeId} {ts:Array TypeId} {x y:Operand} (op:Oper) (ho:op.op=.call { callee:=.builtin .append,args:=#[x,y],argTypes:=ts }) (hts:ts=#[t,t2]) (ht2:Z0P P t2=true) {ty:Ty} (hel:Z0t P t=some ty)
  {t0:Ty} {k:IntKind} {ix:E (.int k)} {j:Nat} (hx:(s.get x).atom=.nref i t0 k ix j)
  {gs:List (E .bool)} {sv:SV} {s':St} (hs:Z0U s id ty i t0 k ix j y=some (gs,sv,s')) (hg:∀c∈gs,den c r=true):Good P bd N r st (execOp a.eval op) a.tmps w sv s':=by
 obtain ⟨hxv,hxn⟩:=Z3o h x
 rw [hx] at hxv hxn
 unfold Z0U at hs
 split at hs
 case h_2=>cases hs
 rename_i t' e hid
 split at hs
 case isFalse=>cases hs
 rename_i htt
 subst htt
 split at hs
 case h_2=>cases hs
 rename_i u l hpr
 split at hs
 case isFalse=>cases hs
 rename_i huu
 subst huu
 split at hs
 case h_2=>cases hs
 rename_i e2 mv hsrc
 split at hs
 case isFalse=>cases hs
 rename_i hc
 simp only [Y5,Yr] at hc
 simp only [Y4,Y9] at hs
 obtain ⟨rfl,rfl,rfl⟩:=hs
 obtain ⟨hfid,hnp⟩:=free_eq hc.2
 obtain ⟨hyv,hyn⟩:=Z3o h y
 obtain ⟨he2,Gs,ys,⟨sx,sc,hyx,hys,hy0,hyr⟩,hmv⟩:=Z4U h hsrc hyv hyn
 obtain ⟨l1,l2⟩:=Z54 hg
 obtain ⟨p,n,c,h1,h2,h3,h4,h5⟩:=hxv
 obtain ⟨ov,xs,Fs,b1,b2,b3⟩:=Zy.1 (h.heap i _ hid)
 have hn0:0<n:=Nat.lt_of_le_of_lt (Yf _) h4
 obtain ⟨hov,hps,hnn,_,hcell⟩:=b1.cells h1 hn0
 have hlt:Int.toNat (den ix r)<(den e r:List t'.D).length:=by rw [←hnn];exact h4
 obtain ⟨us,a1,a2,a3⟩:=b3.row _ hlt
 simp only [Row,if_true] at a3
 have hd:den (.o2 (.idx false t' k) e ix) r=(den e r:List t'.D)[Int.toNat (den ix r)]:=by rw [Z3b];exact Z3c hlt
 rw [←hd] at a3
 obtain ⟨vv,oo,zs,Hs,F1,q1,q2,q3,q4,q5,q6⟩:=Z6s (N:=N) (M:=Mt bd.Z s.heap g) hpr a3
 have hvv:vv=a.eval x:=by
  have hcv:=hcell (Int.toNat (den ix r) * t'.size+j) vv (a2 j vv q1)
  rw [hcv] at h5
  exact Option.some.inj h5
 subst hvv
 have hevs:(E.o2 (.idx false t' k) e ix).vs N:=⟨h.nheap i _ hid,hxn.1⟩
 obtain ⟨v',w',o',hrun,hown',ho',hfresh,hsame,hsize,hos,htp,hout⟩:=Z4_ (t:=t) (t2:=t2) (tr:=op.type) hel ht2 q2 l1 l2 sx sc ys hyr.lx hys hy0 hyr.ones
 have hq3:=q3.undeep
 have hii:i≠id:=by rintro rfl;rw [hfid] at hid;cases hid
 have hnd:=h.nodup i _ hid
 rw [b2] at hnd
 obtain ⟨n1,n2,n3⟩:=Yp.1 hnd
 have hlf:Int.toNat (den ix r)<Fs.length:=by rw [b3.lf];exact hlt
 have hFsub:∀b∈Fs.getD (Int.toNat (den ix r)) [],b∈Fs.flatten:=fun b hb=>Z0f hb
 have hFnd:(Fs.getD (Int.toNat (den ix r)) []).Nodup:=by
  rw [Z3c hlf]
  exact List.Nodup.sublist (List.sublist_flatten_of_mem (List.getElem_mem hlf)) n2
 have hPnd:=q5.nodup_iff.1 hFnd
 have hPmem:∀b,b∈oo.toList++Hs.flatten++F1↔b∈Fs.getD (Int.toNat (den ix r)) []:=fun b=>q5.symm.mem_iff
 obtain ⟨p1,p2,p3⟩:=Yp.1 hPnd
 have hF1sub:∀b∈F1,b∈Fs.getD (Int.toNat (den ix r)) []:=fun b hb=>(hPmem b).1 (Y0 _ hb)
 have hAsub:∀b∈oo.toList++Hs.flatten,b∈Fs.getD (Int.toNat (den ix r)) []:=fun b hb=>(hPmem b).1 (Y3 _ hb)
 have hAnot:∀b∈oo.toList++Hs.flatten,b∉(Fs.set (Int.toNat (den ix r)) F1).flatten:=fun b hb=>Z6t n2 (hAsub b hb) fun hb'=>p3 b hb b hb' rfl
 have hBsub:∀b∈(Fs.set (Int.toNat (den ix r)) F1).flatten,b∈Fs.flatten:=fun b hb=>by
  rcases Z5E hb with q | q
  ·exact q
  ·exact hFsub b (hF1sub b q)
 have hmf:∀b∈Gs.flatten,∃kk B,kk∈mv∧kk≠i∧kk≠id∧s.heap kk=some B∧(∀l,B≠.box l)∧b∈(g kk).foot:=by
  intro b hb
  rcases hmv with ⟨_,hh⟩ | ⟨kk,B,o1,rfl,hy,hB,hbox,hft⟩
  ·rw [hh] at hb;cases hb
  ·refine ⟨kk,B,by simp,?_,?_,hB,hbox,by rw [hft];exact Y0 _ hb⟩
   ·rintro rfl;rw [hy] at hc;simp [Atom.isRef] at hc
   ·rintro rfl;rw [hfid] at hB;cases hB
 have hmv2:∀kk∈mv,kk≠i∧kk≠id∧∃B,s.heap kk=some B∧∀l,B≠.box l:=by
  intro kk hk
  rcases hmv with ⟨hh,_⟩ | ⟨k',B,o1,rfl,hy,hB,hbox,hft⟩
  ·rw [hh] at hk;cases hk
  ·simp only [Y1] at hk
   subst hk
   refine ⟨?_,?_,B,hB,hbox⟩
   ·rintro rfl;rw [hy] at hc;simp [Atom.isRef] at hc
   ·rintro rfl;rw [hfid] at hB;cases hB
 have holt:∀b,oo=some b→b<w.heap.size:=q2.lt
 have hGsub:∀b∈Gs.flatten,b∉(g i).foot∧b<w.heap.size:=by
  intro b hb
  obtain ⟨kk,B,_,hki,_,hB,_,hbk⟩:=hmf b hb
  refine ⟨fun hbi=>hki (h.inj kk i B _ b hB hid hbk hbi),h.lt kk B hB b hbk⟩
 have hGnd:Gs.flatten.Nodup:=by
  rcases hmv with ⟨_,hh⟩ | ⟨kk,B,o1,rfl,hy,hB,hbox,hft⟩
  ·rw [hh];exact List.nodup_nil
  ·have:=h.nodup kk B hB
   rw [hft] at this
   exact (Yp.1 this).2.1
 have hfoot:∀b,b∈(g i).foot↔b∈ov.toList++Fs.flatten:=fun b=>by rw [b2]
 have hsameI:∀b,b<w.heap.size→b∉(g i).foot→w'.heap[b]?=w.heap[b]?:=fun b hb hbi=>hsame b hb fun hh=>hbi (by
  rw [b2];exact Y0 _ (hFsub _ (hAsub b (Y3 _ (by simp [←hh])))))
 have hltI:∀b∈(g i).foot,b<w.heap.size:=h.lt i _ hid
 have ho'F:∀b∈o'.toList,(oo=some b)∨(w.heap.size≤b∧b<w'.heap.size):=by
  intro b hb
  simp only [Option.mem_toList] at hb
  rcases ho' with hh | hh
  ·exact .inl (hh▸hb)
  ·right
   have:=hfresh hh
   rw [hh] at hb
   cases hb
   exact ⟨Yh _,this⟩
 have ho'not:∀b∈o'.toList,b∉Hs.flatten++Gs.flatten:=by
  intro b hb hb'
  rcases ho'F b hb with hh | hh
  ·rcases Y6.1 hb' with q | q
   ·exact (Yp.1 p1).2.2 b (by simp [hh]) b q rfl
   ·exact (hGsub b q).1 (by rw [b2];exact Y0 _ (hFsub _ (hAsub b (Y3 _ (by simp [hh])))))
  ·rcases Y6.1 hb' with q | q
   ·have:=hltI b (by rw [b2];exact Y0 _ (hFsub _ (hAsub b (Y0 _ q))));omega
   ·have:=(hGsub b q).2;omega
 have hHG:∀b∈Hs.flatten,b∉Gs.flatten:=fun b hb hb'=>(hGsub b hb').1 (by rw [b2];exact Y0 _ (hFsub _ (hAsub b (Y0 _ hb))))
 have hstayHG:∀b∈Hs.flatten++Gs.flatten,w'.heap[b]?=w.heap[b]?:=by
  intro b hb
  rcases Y6.1 hb with q | q
  ·refine hsame b (hltI b (by rw [b2];exact Y0 _ (hFsub _ (hAsub b (Y0 _ q))))) fun hh=>?_
   exact (Yp.1 p1).2.2 b (by simp [←hh]) b q rfl
  ·exact hsameI b (hGsub b q).2 (hGsub b q).1
 have hstayF:∀b∈ov.toList++(Fs.set (Int.toNat (den ix r)) F1).flatten,w'.heap[b]?=w.heap[b]?:=by
  intro b hb
  rcases Y6.1 hb with q | q
  ·refine hsame b (hltI b (by rw [b2];exact Y3 _ q)) fun hh=>?_
   exact n3 b q b (hFsub _ (hAsub b (Y3 _ (by simp [←hh])))) rfl
  ·refine hsame b (hltI b (by rw [b2];exact Y0 _ (hBsub b q))) fun hh=>?_
   exact hAnot b (Y3 _ (by simp [←hh])) q
 have hh':∀m,upd (upd (fun m=>bif mv.contains m then none else (s.heap m).map (Blk.map fun a=>Ze i (Zx mv a))) id (some (.arr u.hasSl u (.o2 (.app u) l e2)))) i (some (.hole t' e k ix j .no)) m =
   if m=i then some (.hole t' e k ix j .no) else if m=id then some (.arr u.hasSl u (.o2 (.app u) l e2)) else if m∈mv then none else (s.heap m).map (Blk.map fun a=>Ze i (Zx mv a)):=by
  intro m
  by_cases c1:m=i
  ·subst c1;simp [upd]
  ·have c1':(m==i)=false:=by simpa using c1
   rw [if_neg c1]
   simp only [upd,c1',cond_false]
   by_cases c2:m=id
   ·rw [if_pos c2,c2,beq_self_eq_true,cond_true]
   ·have c2':(m==id)=false:=by simpa using c2
    rw [if_neg c2,c2',cond_false]
    by_cases c3:m∈mv
    ·simp [c3]
    ·simp [c3]
 have horg:∀a,Ze i (Zx mv a)=.no∨(Ze i (Zx mv a)=a∧(∀m∈mv,a.uses m=false)∧(a.nst&&a.uses i)=false):=by
  intro a
  rcases Z4s mv a with z1 | ⟨z1,z2⟩
  ·left;rw [z1];rfl
  ·rw [z1]
   rcases Z4t i a with z3 | ⟨z3,z4⟩
   ·exact .inl z3
   ·exact .inr ⟨z3,z2,z4⟩
 have huse:∀a:Atom,a.ok N s.heap→a.uses id=false:=by
  intro a ha
  cases hu:a.uses id with
  | false=>rfl
  | true=>have:=ha.live hu;rw [hfid] at this;cases this
 have main:=h.replace (w':=w') (g':=fun m=>if m=i then ⟨(g i).blk,(g i).val,ov.toList++(Fs.set (Int.toNat (den ix r)) F1).flatten⟩ else if m=id then ⟨0,v',o'.toList++(Hs.flatten++Gs.flatten)⟩ else g m) (fun a=>Ze i (Zx mv a))
  (upd (upd (fun m=>bif mv.contains m then none else (s.heap m).map (Blk.map fun a=>Ze i (Zx mv a))) id (some (.arr u.hasSl u (.o2 (.app u) l e2)))) i (some (.hole t' e k ix j .no))) s.base (fun m=>m=i∨m=id∨m∈mv) ?_ ?_ ?_ ?_ ?_ hsize hos htp hout ?_ ?_
 ·refine ⟨v',w',fun m=>if m=i then ⟨(g i).blk,(g i).val,ov.toList++(Fs.set (Int.toNat (den ix r)) F1).flatten⟩ else if m=id then ⟨0,v',o'.toList++(Hs.flatten++Gs.flatten)⟩ else g m,.inl ?_,?_,?_,?_⟩
  ·rw [Z4c op ho,hts,show (#[x,y]:Array Operand).map a.eval=#[a.eval x,a.eval y] by simp]
   have hyv':a.eval y=.slice sx (den e2 r:List u.D).length sc:=hyx
   rw [hyv']
   exact Zv hrun
  ·rw [Z6u];exact main.1
  ·simp [Z9,Z7,Ne.symm hii]
  ·show (St.heap _ id).isSome=true
   rw [Z6u]
   show (upd _ i _ id).isSome=true
   rw [hh',if_neg (Ne.symm hii),if_pos rfl];rfl
 ·intro b hb
  rcases horg b with z1 | ⟨z1,z2,z3⟩
  ·exact .inl z1
  ·refine .inr ⟨z1,fun m hm ht=>?_⟩
   rcases ht with rfl | rfl | ht
   ·refine ⟨by rw [hh'];simp,by simp,by simp,fun hn=>?_⟩
    rw [hn,hm] at z3;cases z3
   ·rw [huse b hb] at hm;cases hm
   ·rw [z2 m ht] at hm;cases hm
 ·intro m hm
  simp only [not_or] at hm
  exact ⟨by rw [hh',if_neg hm.1,if_neg hm.2.1,if_neg hm.2.2],by rw [if_neg hm.1,if_neg hm.2.1]⟩
 ·intro b hb hT
  exact hsameI b hb (hT i _ (.inl rfl) hid)
 ·intro m B ht hB
  rw [hh'] at hB
  by_cases c1:m=i
  ·rw [if_pos c1] at hB
   cases hB
   subst c1
   refine ⟨fun hk=>?_,⟨h.nheap _ _ hid,hxn.1,trivial⟩,?_,?_⟩
   ·refine ⟨?_,a.eval x,⟨p,n,c,by simp only [if_true];exact h1,by simp only [if_true];exact Y3 _ (by simp [hov]),h3,h4,(Z0c (hstayF _ (Y3 _ (by simp [hov]))) _).trans h5⟩,trivial⟩
    refine Zy.2 ⟨ov,xs,Fs.set (Int.toNat (den ix r)) F1,?_,by simp,?_⟩
    ·simp only [if_true]
     exact b1.keep fun b hb=>hstayF b (Y3 _ (by simp [hb]))
    ·refine ⟨by simp [b3.lf],b3.lx,fun m hm=>?_⟩
     by_cases hmi:m=Int.toNat (den ix r)
     ·subst hmi
      refine ⟨us,a1,a2,?_⟩
      have e1:(Fs.set (Int.toNat (den ix r)) F1).getD (Int.toNat (den ix r)) []=F1:=by simp [Y8,YM,hlf]
      rw [e1,←hd]
      simp only [Row,if_true]
      exact q4.keep fun b hb=>hstayF b (Y0 _ (List.mem_flatten.2 ⟨F1,List.mem_iff_getElem.2 ⟨Int.toNat (den ix r),by simpa using hlf,by simp⟩,hb⟩))
     ·obtain ⟨us',g1,g2,g3⟩:=b3.row m hm
      refine ⟨us',g1,g2,?_⟩
      have e1:(Fs.set (Int.toNat (den ix r)) F1).getD m []=Fs.getD m []:=by simp [Y8,YM,Ne.symm hmi]
      rw [e1]
      simp only [Row,if_true] at g3
      simp only [Row,if_true,if_neg hmi]
      refine g3.keep fun b hb=>hstayF b (Y0 _ ?_)
      rw [←e1] at hb
      exact Z0f hb
   ·simp only [if_true]
    exact Z4X n1 (Z5F n2 p2 fun b hb=>.inl (hF1sub b hb)) fun b hb hb'=>n3 b hb b (hBsub b hb') rfl
   ·intro b hb
    simp only [if_true] at hb
    refine .inr ⟨m,_,.inl rfl,hid,?_⟩
    rw [b2]
    rcases Y6.1 hb with q | q
    ·exact Y3 _ q
    ·exact Y0 _ (hBsub b q)
  ·rw [if_neg c1] at hB
   by_cases c2:m=id
   ·rw [if_pos c2] at hB
    cases hB
    subst c2
    refine ⟨fun hk=>?_,⟨q6 hevs,he2⟩,?_,?_⟩
    ·refine Zy.2 ⟨o',zs++ys,Hs++Gs,?_,by simp [c1],?_⟩
     ·simp only [if_neg c1,if_true,Z4W,Y7]
      exact hown'
     ·rw [Z4W]
      exact Rws.append (hq3.keep hk fun b hb=>hstayHG b (Y3 _ hb)) (hyr.keep hk fun b hb=>hstayHG b (Y0 _ hb))
    ·simp only [if_neg c1,if_true]
     refine Z4X ?_ (Z4X (Yp.1 p1).2.1 hGnd hHG) ho'not
     cases o'<;>simp
    ·intro b hb
     simp only [if_neg c1,if_true] at hb
     rcases Y6.1 hb with q | q
     ·rcases ho'F b q with z | z
      ·exact .inr ⟨i,_,.inl rfl,hid,by rw [b2];exact Y0 _ (hFsub _ (hAsub b (Y3 _ (by simp [z]))))⟩
      ·exact .inl z
     ·rcases Y6.1 q with q | q
      ·exact .inr ⟨i,_,.inl rfl,hid,by rw [b2];exact Y0 _ (hFsub _ (hAsub b (Y0 _ q)))⟩
      ·obtain ⟨kk,C,hk1,_,_,hC,_,hbk⟩:=hmf b q
       exact .inr ⟨kk,C,.inr (.inr hk1),hC,hbk⟩
   ·rw [if_neg c2] at hB
    rcases ht with ht | ht | ht
    ·exact absurd ht c1
    ·exact absurd ht c2
    ·rw [if_pos ht] at hB;cases hB
 ·have hlive:∀m B,(m=i∨m=id∨m∈mv)→upd (upd (fun m=>bif mv.contains m then none else (s.heap m).map (Blk.map fun a=>Ze i (Zx mv a))) id (some (.arr u.hasSl u (.o2 (.app u) l e2)))) i (some (.hole t' e k ix j .no)) m=some B→m=i∨m=id:=by
   intro m B ht hB
   rw [hh'] at hB
   by_cases c1:m=i
   ·exact .inl c1
   ·by_cases c2:m=id
    ·exact .inr c2
    ·rcases ht with ht | ht | ht
     ·exact absurd ht c1
     ·exact absurd ht c2
     ·rw [if_neg c1,if_neg c2,if_pos ht] at hB;cases hB
  have cross:∀b,b∈ov.toList++(Fs.set (Int.toNat (den ix r)) F1).flatten→b∈o'.toList++(Hs.flatten++Gs.flatten)→False:=by
   intro b hb hb'
   have hbi:b∈(g i).foot:=by
    rw [b2]
    rcases Y6.1 hb with q | q
    ·exact Y3 _ q
    ·exact Y0 _ (hBsub b q)
   have hA:b∈oo.toList++Hs.flatten→False:=by
    intro hA
    rcases Y6.1 hb with q | q
    ·exact n3 b q b (hFsub _ (hAsub b hA)) rfl
    ·exact hAnot b hA q
   rcases Y6.1 hb' with q | q
   ·rcases ho'F b q with z | z
    ·exact hA (Y3 _ (by simp [z]))
    ·have:=hltI b hbi;omega
   ·rcases Y6.1 q with q | q
    ·exact hA (Y0 _ q)
    ·exact (hGsub b q).1 hbi
  intro m m' B C b hm hm' hB hC hb hb'
  rcases hlive m B hm hB with z | z<;>rcases hlive m' C hm' hC with z' | z'
  ·rw [z,z']
  ·subst z;subst z'
   simp only [if_true] at hb
   simp only [if_neg (Ne.symm hii),if_true] at hb'
   exact (cross b hb hb').elim
  ·subst z;subst z'
   simp only [if_true] at hb'
   simp only [if_neg (Ne.symm hii),if_true] at hb
   exact (cross b hb' hb).elim
  ·rw [z,z']
 ·intro c hc ht
  exfalso
  obtain ⟨_,l',hl'⟩:=h.kpl c hc
  rcases ht with ht | ht | ht
  ·rw [ht,hid] at hl';cases hl'
  ·rw [ht,hfid] at hl';cases hl'
  ·obtain ⟨_,_,B,hB,hbx⟩:=hmv2 _ ht
   rw [hB] at hl';cases hl';exact hbx l' rfl
 ·intro m hm ht
  by_cases hmi:m=i
  ·subst hmi;simp
  ·have:m≠id:=by omega
   simp [hmi,this]
end
end Go.Sm
namespace Go.Sm
section
variable {P:Program} {bd:Bd} {N:Nat→Prop} {s:St} {r:Env} {g:Nat→G} {st:List (Array Value)} {w:World} {a:Act}
theorem Z6w {α:Type}:∀{l:List α} {j:Nat} {v:α},l[j]?=some v→l.set j v=l
 | [],_,_,h=>by simp at h
 | x::l,0,v,h=>by simp at h;simp [h]
 | x::l,j+1,v,h=>by simp at h;simp [Z6w h]
theorem Z6x {t:Nat} {b:Atom} (h:s.cur.getD t (.a .no)=.a b):s.get (.tmp t)=.a b:=h
theorem Z6y {tm:Array Value} {t:Nat}:tm.setIfInBounds t (tm.getD t undef)=tm:=by
 apply Array.ext'
 rw [Array.toList_setIfInBounds]
 by_cases h:t<tm.size
 ·apply Z6w
  simp [Array.getD,h]
 ·exact List.set_eq_of_length_le (by simpa using h)
set_option maxHeartbeats 2000000 in
theorem Z6z (h:R bd N s r g a.tmps st w) {t n i:Nat} {s1:St} (hs:Z1q s t n=some (i,s1)):∃g1,R bd N s1 r g1 a.tmps st w:=by
 unfold Z1q at hs
 split at hs
 case h_2=>cases hs
 rename_i i0 t0 k ix j hx
 split at hs
 case h_2=>cases hs
 rename_i t' e hid
 split at hs
 case isFalse=>cases hs
 rename_i htt
 subst htt
 split at hs
 case h_2=>cases hs
 rename_i u l hpr
 split at hs
 case isFalse=>cases hs
 rename_i hfr
 simp only [Y4,Y9] at hs
 obtain ⟨rfl,rfl⟩:=hs
 obtain ⟨hfid,hnp⟩:=free_eq hfr
 obtain ⟨hxv,hxn⟩:=Zu h (Z6x hx)
 obtain ⟨p,n',c,h1,h2,h3,h4,h5⟩:=hxv
 obtain ⟨ov,xs,Fs,b1,b2,b3⟩:=Zy.1 (h.heap i0 _ hid)
 have hn0:0<n':=Nat.lt_of_le_of_lt (Yf _) h4
 obtain ⟨hov,hps,hnn,_,hcell⟩:=b1.cells h1 hn0
 have hlt:Int.toNat (den ix r)<(den e r:List t'.D).length:=by rw [←hnn];exact h4
 obtain ⟨us,a1,a2,a3⟩:=b3.row _ hlt
 simp only [Row,if_true] at a3
 have hd:den (.o2 (.idx false t' k) e ix) r=(den e r:List t'.D)[Int.toNat (den ix r)]:=by rw [Z3b];exact Z3c hlt
 rw [←hd] at a3
 obtain ⟨vv,oo,zs,Hs,F1,q1,q2,q3,q4,q5,q6⟩:=Z6s (N:=N) (M:=Mt bd.Z s.heap g) hpr a3
 have hvv:vv=a.eval (.tmp t):=by
  have hcv:=hcell (Int.toNat (den ix r) * t'.size+j) vv (a2 j vv q1)
  rw [hcv] at h5
  exact Option.some.inj h5
 have hevs:(E.o2 (.idx false t' k) e ix).vs N:=⟨h.nheap i0 _ hid,hxn.1⟩
 have hq3:=q3.undeep
 have hii:i0≠n:=by rintro rfl;rw [hfid] at hid;cases hid
 have hnd:=h.nodup i0 _ hid
 rw [b2] at hnd
 obtain ⟨n1,n2,n3⟩:=Yp.1 hnd
 have hlf:Int.toNat (den ix r)<Fs.length:=by rw [b3.lf];exact hlt
 have hFsub:∀b∈Fs.getD (Int.toNat (den ix r)) [],b∈Fs.flatten:=fun b hb=>Z0f hb
 have hFnd:(Fs.getD (Int.toNat (den ix r)) []).Nodup:=by
  rw [Z3c hlf]
  exact List.Nodup.sublist (List.sublist_flatten_of_mem (List.getElem_mem hlf)) n2
 have hPnd:=q5.nodup_iff.1 hFnd
 have hPmem:∀b,b∈oo.toList++Hs.flatten++F1↔b∈Fs.getD (Int.toNat (den ix r)) []:=fun b=>q5.symm.mem_iff
 obtain ⟨p1,p2,p3⟩:=Yp.1 hPnd
 have hF1sub:∀b∈F1,b∈Fs.getD (Int.toNat (den ix r)) []:=fun b hb=>(hPmem b).1 (Y0 _ hb)
 have hAsub:∀b∈oo.toList++Hs.flatten,b∈Fs.getD (Int.toNat (den ix r)) []:=fun b hb=>(hPmem b).1 (Y3 _ hb)
 have hAnot:∀b∈oo.toList++Hs.flatten,b∉(Fs.set (Int.toNat (den ix r)) F1).flatten:=fun b hb=>Z6t n2 (hAsub b hb) fun hb'=>p3 b hb b hb' rfl
 have hBsub:∀b∈(Fs.set (Int.toNat (den ix r)) F1).flatten,b∈Fs.flatten:=fun b hb=>by
  rcases Z5E hb with q | q
  ·exact q
  ·exact hFsub b (hF1sub b q)
 have hh':∀m,upd (upd (s.unnest i0).heap n (some (.arr u.hasSl u l))) i0 (some (.hole t' e k ix j (.ref n))) m =
   if m=i0 then some (.hole t' e k ix j (.ref n)) else if m=n then some (.arr u.hasSl u l) else (s.heap m).map (Blk.map (Ze i0)):=by
  intro m
  by_cases c1:m=i0
  ·subst c1;simp [upd]
  ·have c1':(m==i0)=false:=by simpa using c1
   rw [if_neg c1]
   simp only [upd,c1',cond_false]
   by_cases c2:m=n
   ·rw [if_pos c2,c2,beq_self_eq_true,cond_true]
   ·have c2':(m==n)=false:=by simpa using c2
    rw [if_neg c2,c2',cond_false]
    rfl
 have huse:∀a:Atom,a.ok N s.heap→a.uses n=false:=by
  intro a ha
  cases hu:a.uses n with
  | false=>rfl
  | true=>have:=ha.live hu;rw [hfid] at this;cases this
 have main:=h.replace (w':=w) (g':=fun m=>if m=i0 then ⟨(g i0).blk,(g i0).val,ov.toList++(Fs.set (Int.toNat (den ix r)) F1).flatten⟩ else if m=n then ⟨0,vv,oo.toList++Hs.flatten⟩ else g m) (Ze i0)
  (upd (upd (s.unnest i0).heap n (some (.arr u.hasSl u l))) i0 (some (.hole t' e k ix j (.ref n)))) s.base (fun m=>m=i0∨m=n) ?_ ?_ (fun _ _ _=>rfl) ?_ ?_ (Yh _) rfl rfl rfl ?_ ?_
 ·refine ⟨(fun m=>if m=i0 then ⟨(g i0).blk,(g i0).val,ov.toList++(Fs.set (Int.toNat (den ix r)) F1).flatten⟩ else if m=n then ⟨0,vv,oo.toList++Hs.flatten⟩ else g m),?_⟩
  have hput:=R.put (w:=w) main.1 (d:=t) (sv:=.a (.ref n)) (v:=vv) (by simp [Z9,Z7,Ne.symm hii]) (by
   show (upd _ i0 _ n).isSome=true
   rw [hh',if_neg (Ne.symm hii),if_pos rfl];rfl)
  have e0:a.tmps.setIfInBounds t vv=a.tmps:=by rw [hvv];exact Z6y
  rw [e0] at hput
  exact hput
 ·intro b hb
  rcases Z4t i0 b with z3 | ⟨z3,z4⟩
  ·exact .inl z3
  ·refine .inr ⟨z3,fun m hm ht=>?_⟩
   rcases ht with rfl | rfl
   ·refine ⟨by rw [hh'];simp,by simp,by simp,fun hn=>?_⟩
    rw [hn,hm] at z4;cases z4
   ·rw [huse b hb] at hm;cases hm
 ·intro m hm
  simp only [not_or] at hm
  exact ⟨by rw [hh',if_neg hm.1,if_neg hm.2],by rw [if_neg hm.1,if_neg hm.2]⟩
 ·intro m B ht hB
  rw [hh'] at hB
  by_cases c1:m=i0
  ·rw [if_pos c1] at hB
   cases hB
   subst c1
   refine ⟨fun hk=>⟨?_,vv,⟨p,n',c,by simp only [if_true];exact h1,by simp only [if_true];exact Y3 _ (by simp [hov]),h3,h4,by rw [hvv];exact h5⟩,by simp [Z7,Ne.symm hii]⟩,⟨h.nheap _ _ hid,hxn.1,?_⟩,?_,?_⟩
   ·refine Zy.2 ⟨ov,xs,Fs.set (Int.toNat (den ix r)) F1,by simp only [if_true];exact b1,by simp,?_⟩
    refine ⟨by simp [b3.lf],b3.lx,fun m hm=>?_⟩
    by_cases hmi:m=Int.toNat (den ix r)
    ·subst hmi
     refine ⟨us,a1,a2,?_⟩
     have e1:(Fs.set (Int.toNat (den ix r)) F1).getD (Int.toNat (den ix r)) []=F1:=by simp [Y8,YM,hlf]
     rw [e1,←hd]
     simp only [Row,if_true]
     exact q4
    ·obtain ⟨us',g1,g2,g3⟩:=b3.row m hm
     refine ⟨us',g1,g2,?_⟩
     have e1:(Fs.set (Int.toNat (den ix r)) F1).getD m []=Fs.getD m []:=by simp [Y8,YM,Ne.symm hmi]
     rw [e1]
     simp only [Row,if_true] at g3
     simp only [Row,if_true,if_neg hmi]
     exact g3
   ·show (upd _ m _ n).isSome=true
    rw [hh',if_neg (Ne.symm hii),if_pos rfl];rfl
   ·simp only [if_true]
    exact Z4X n1 (Z5F n2 p2 fun b hb=>.inl (hF1sub b hb)) fun b hb hb'=>n3 b hb b (hBsub b hb') rfl
   ·intro b hb
    simp only [if_true] at hb
    refine .inr ⟨m,_,.inl rfl,hid,?_⟩
    rw [b2]
    rcases Y6.1 hb with q | q
    ·exact Y3 _ q
    ·exact Y0 _ (hBsub b q)
  ·rw [if_neg c1] at hB
   by_cases c2:m=n
   ·rw [if_pos c2] at hB
    cases hB
    subst c2
    refine ⟨fun hk=>?_,q6 hevs,?_,?_⟩
    ·refine Zy.2 ⟨oo,zs,Hs,?_,by simp [c1],?_⟩
     ·simp only [if_neg c1,if_true];exact q2
     ·exact hq3.keep hk fun b hb=>rfl
    ·simp only [if_neg c1,if_true];exact p1
    ·intro b hb
     simp only [if_neg c1,if_true] at hb
     exact .inr ⟨i0,_,.inl rfl,hid,by rw [b2];exact Y0 _ (hFsub _ (hAsub b hb))⟩
   ·rcases ht with ht | ht
    ·exact absurd ht c1
    ·exact absurd ht c2
 ·have cross:∀b,b∈ov.toList++(Fs.set (Int.toNat (den ix r)) F1).flatten→b∈oo.toList++Hs.flatten→False:=by
   intro b hb hb'
   rcases Y6.1 hb with q | q
   ·exact n3 b q b (hFsub _ (hAsub b hb')) rfl
   ·exact hAnot b hb' q
  intro m m' B C b hm hm' hB hC hb hb'
  rcases hm with z | z<;>rcases hm' with z' | z'
  ·rw [z,z']
  ·subst z;subst z'
   simp only [if_true] at hb
   simp only [if_neg (Ne.symm hii),if_true] at hb'
   exact (cross b hb hb').elim
  ·subst z;subst z'
   simp only [if_true] at hb'
   simp only [if_neg (Ne.symm hii),if_true] at hb
   exact (cross b hb' hb).elim
  ·rw [z,z']
 ·intro c hc ht
  exfalso
  obtain ⟨_,l',hl'⟩:=h.kpl c hc
  rcases ht with ht | ht
  ·rw [ht,hid] at hl';cases hl'
  ·rw [ht,hfid] at hl';cases hl'
 ·intro m hm ht
  by_cases hmi:m=i0
  ·subst hmi;simp
  ·have:m≠n:=by omega
   simp [hmi,this]
theorem Z6A (h:R bd N s r g a.tmps st w) {n i:Nat} {s1:St} (hs:Z1r s i n=some s1):∃g1,R bd N s1 r g1 a.tmps st w:=by
 unfold Z1r at hs
 split at hs
 case h_2=>cases hs
 rename_i t e k ix j n' hid
 split at hs
 case h_2=>cases hs
 rename_i mv hmv
 split at hs
 case isFalse=>cases hs
 rename_i hc
 obtain ⟨rfl,him⟩:=hc
 split at hs
 case h_2=>cases hs
 rename_i row hput
 cases hs
 obtain ⟨hB,v,⟨p,n0,c,h1,h2,h3,h4,h5⟩,hav⟩:=h.heap i _ hid
 obtain ⟨he,hix,hao⟩:=h.nheap i _ hid
 obtain ⟨ov,xs,Fs,b1,b2,b3⟩:=Zy.1 hB
 have hn0:0<n0:=Nat.lt_of_le_of_lt (Yf _) h4
 obtain ⟨hov,hps,hnn,_,hcell⟩:=b1.cells h1 hn0
 have hlt:Int.toNat (den ix r)<(den e r:List t.D).length:=by rw [←hnn];exact h4
 obtain ⟨us,a1,a2,a3⟩:=b3.row _ hlt
 simp only [Row,if_true] at a3
 have hd:den (.o2 (.idx false t k) e ix) r=(den e r:List t.D)[Int.toNat (den ix r)]:=by rw [Z3b];exact Z3c hlt
 rw [←hd] at a3
 obtain ⟨F',q1,q2,q3,q4,q5⟩:=Z5G h hput (ho:=some j) (.inr rfl) hav hao ⟨he,hix⟩ hmv a3
 have husj:us[j]?=some v:=by
  obtain ⟨x,hx⟩:∃x,us[j]?=some x:=⟨us[j],List.getElem?_eq_getElem q1⟩
  have:=hcell _ _ (a2 j x hx)
  rw [this] at h5
  rw [hx,←Option.some.inj h5]
 rw [Z6w husj] at q2
 obtain ⟨j1,j2⟩:=Z5m hmv
 have himm:i∉mv:=by simpa using him
 have hnd:=h.nodup i _ hid
 rw [b2] at hnd
 obtain ⟨n1,n2,n3⟩:=Yp.1 hnd
 have hfm:∀b∈(g i).foot,b∉ZA g mv:=by
  intro b hb hb'
  obtain ⟨k,hk,hbk⟩:=List.mem_flatMap.1 hb'
  obtain ⟨_,_,_,q⟩:=j2 k hk
  have:=h.inj i k _ _ b hid q hb hbk
  subst this
  exact himm hk
 have hfeetnd:(ZA g mv).Nodup:=Z5n h j1 fun i hi=>by obtain ⟨_,_,_,q⟩:=j2 i hi;exact ⟨_,q⟩
 have hgetnd:(Fs.getD (Int.toNat (den ix r)) []).Nodup:=by
  by_cases hlf:Int.toNat (den ix r)<Fs.length
  ·rw [Z3c hlf]
   exact List.Nodup.sublist (List.sublist_flatten_of_mem (List.getElem_mem hlf)) n2
  ·rw [Y8,Yz (by omega)];exact List.nodup_nil
 have hF'nd:F'.Nodup:=q5 hgetnd hfeetnd fun b hb=>hfm b (by rw [b2];exact Y0 _ (Z0f hb))
 have hnewflat:∀b∈(Fs.set (Int.toNat (den ix r)) F').flatten,b∈Fs.flatten∨b∈ZA g mv:=by
  intro b hb
  rcases Z5E hb with q | q
  ·exact .inl q
  ·rcases q4 b q with q | q
   ·exact .inl (Z0f q)
   ·exact .inr q
 have hdn:(den (.o3 (.set t k) e ix row) r:List t.D)=(den e r:List t.D).set (Int.toNat (den ix r)) (den row r):=Z5C e ix row
 refine ⟨_,h.poked (w':=w) mv i _ (.arr true t (.o3 (.set t k) e ix row)) ⟨(g i).blk,(g i).val,ov.toList++(Fs.set (Int.toNat (den ix r)) F').flatten⟩ hid himm rfl rfl (fun k hk l hl=>by obtain ⟨_,_,_,q⟩:=j2 k hk;rw [q] at hl;cases hl) (fun b _ _ _=>rfl) ?_ ⟨he,hix,q3⟩ ?_ ?_ ?_ (Yh _) rfl rfl rfl⟩
 ·intro M' hk _
  refine Zy.2 ⟨ov,xs,Fs.set (Int.toNat (den ix r)) F',?_,?_,?_⟩
  ·simp only [if_true]
   rw [hdn,YC]
   exact b1
  ·simp only [if_true]
  ·rw [hdn]
   have hsp:splice us j [v]=us:=by rw [Z5y q1,Z6w husj]
   have hlx:=b3.lx
   have hle:(Int.toNat (den ix r)+1) * t.size≤(den e r:List t.D).length * t.size:=Yk _ hlt
   rw [Nat.add_mul,Nat.one_mul] at hle
   have hput2:=b3.put (ho':=Zz) (d:=den row r) (F:=F') (vs:=[v]) (j:=j) hlt a1 a2 (by simp;omega) (by simp only [Zz,Row,if_true];rw [hsp];exact q2) (fun i hi=>by simp [Zz,hi])
   rw [Z5y (by omega),Z6w (a2 j v husj)] at hput2
   exact Rws.keep hk (fun b hb=>rfl) hput2
 ·refine Z4X n1 (Z5F n2 hF'nd fun b hb=>?_) fun b hb hb'=>?_
  ·rcases q4 b hb with q | q
   ·exact .inl q
   ·exact .inr fun hh=>hfm b (by rw [b2];exact Y0 _ hh) q
  ·rcases hnewflat b hb' with q | q
   ·exact n3 b hb b q rfl
   ·exact hfm b (by rw [b2];exact Y3 _ hb) q
 ·intro b hb
  rcases Y6.1 hb with hb | hb
  ·exact .inr (.inl (by rw [b2];exact Y3 _ hb))
  ·rcases hnewflat b hb with q | q
   ·exact .inr (.inl (by rw [b2];exact Y0 _ q))
   ·obtain ⟨k,hk,hbk⟩:=List.mem_flatMap.1 q
    obtain ⟨_,_,_,q⟩:=j2 k hk
    exact .inr (.inr ⟨k,_,hk,q,hbk⟩)
 ·intro c hc hcid
  obtain ⟨_,l,hl⟩:=h.kpl c hc
  rw [hcid,hid] at hl
  cases hl
end
end Go.Sm
namespace Go.Sm
section
variable {P:Program} {bd:Bd} {N:Nat→Prop} {s:St} {r:Env} {g:Nat→G} {st:List (Array Value)} {w:World} {a:Act}
theorem Z5.behind {w w':World} {p:Option Addr} {c sz n l:Nat} {o:Option Nat} {xs:List Value} (hv:Z5 w (.slice p n c) o sz n xs) (hl:l≤n)
  (hpre:∀b off cap cur ety,(.slice (if c=l then p else p.map (·.add (l * sz))) (n - l) (c - l):Value)=.slice (some ⟨b,off,none⟩) (n - l) cap→w.heap[b]?=some (.cells cur ety (0,0))→∃cur',w'.heap[b]?=some (.cells cur' ety (0,0))∧cur'.size=cur.size∧cur'.toList.take (off+(n - l) * sz)=cur.toList.take (off+(n - l) * sz)∧(cap=n - l→cur'=cur)):Z5 w' (.slice p n c) o sz n xs:=by
 refine ⟨hv.1,?_⟩
 rcases hv.2 with h | ⟨b,off,cap,cur,ety,a1,a2,a3,a4,a5,a6,a7⟩
 ·exact .inl h
 ·simp only [Value.slice.injEq,true_and] at a2
  obtain ⟨rfl,rfl⟩:=a2
  have key:∀L:List Value,(L.drop off).take (n * sz)=(L.take (off+n * sz)).drop off:=fun L=>by
   rw [List.drop_take];congr 1;omega
  by_cases hc:c=l
  ·rw [if_pos hc] at hpre
   have hnl:n=l:=by omega
   obtain ⟨cur',e1,e2,e3,e4⟩:=hpre b off (c - l) cur ety rfl a3
   have:=e4 (by omega)
   subst this
   exact .inr ⟨b,off,c,cur',ety,a1,rfl,e1,a4,a5,a6,a7⟩
  ·rw [if_neg hc] at hpre
   obtain ⟨cur',e1,e2,e3,-⟩:=hpre b (off+l * sz) (c - l) cur ety (by simp only [Option.map_some,Z0e (a:=⟨b,off,none⟩) rfl]) a3
   refine .inr ⟨b,off,c,cur',ety,a1,rfl,e1,a4,a5,by rw [e2];exact a6,?_⟩
   have em:off+l * sz+(n - l) * sz=off+n * sz:=by
    rw [Nat.sub_mul]
    have:=Yk sz hl
    omega
   rw [em] at e3
   rw [key,e3,←key]
   exact a7
theorem Z6B (h:R bd N s r g a.tmps st w) {t t2:TypeId} {ts:Array TypeId} {x y:Operand} (op:Oper) (ho:op.op=.call { callee:=.builtin .append,args:=#[x,y],argTypes:=ts }) (hts:ts=#[t,t2]) (ht2:Z0P P t2=true) {ty:Ty} (hel:Z0t P t=some ty)
  {gs:List (E .bool)} {sv:SV} {s':St} (hs:Z0V s ty x y=some (gs,sv,s')) (hg:∀c∈gs,den c r=true):Good P bd N r st (execOp a.eval op) a.tmps w sv s':=by
 obtain ⟨hxv,hxn⟩:=Z3o h x
 unfold Z0V at hs
 split at hs
 case h_2=>cases hs
 rename_i j ty1 lo hi hx
 rw [hx] at hxv hxn
 split at hs
 case h_2=>cases hs
 rename_i ty' e1 hj
 split at hs
 case isFalse=>cases hs
 rename_i hty
 subst hty
 split at hs
 case isFalse=>cases hs
 rename_i hty1
 have hty2:=hty1.symm
 subst hty2
 split at hs
 case h_2=>cases hs
 rename_i e2 mv hsrc
 split at hs
 case isFalse=>cases hs
 rename_i hc
 simp only [Y5,Yr,List.isEmpty_iff] at hc
 simp only [Y4,Y9] at hs
 obtain ⟨rfl,rfl,rfl⟩:=hs
 obtain ⟨l1,l2⟩:=Z54 (e1:=e1) (e2:=e2) (r:=r) fun c hc=>hg c (Yc _ hc)
 have hhi:(den hi r:Int)=((den e1 r:List ty'.D).length:Int):=by
  have:=hg _ (Yd ..)
  simpa [den,Z0,O2.d,cmI,Zh,O1.d] using this
 obtain ⟨hyv,hyn⟩:=Z3o h y
 obtain ⟨he2,Gs,ys,⟨sx,sc,hyx,hys,hy0,hyr⟩,hmv⟩:=Z4U h hsrc hyv hyn
 have hG:Gs.flatten=[]:=by
  rcases hmv with ⟨_,h2⟩ | ⟨k,B,o1,h1,_⟩
  ·exact h2
  ·rw [hc.2] at h1;cases h1
 obtain ⟨p,n,c,l,k,z1,z2,z3,z4,z5,z6⟩:=hxv
 obtain ⟨ov,xs,Fs,b1,b2,b3⟩:=Zy.1 (h.heap j _ hj)
 have hF:Fs.flatten=[]:=Z4S b3
 rw [z1] at b1
 have hn:n=(den e1 r:List ty'.D).length:=by
  rcases b1.2 with ⟨x',q1,q2,q3⟩ | ⟨b,off,cap,cur,ety,q1,q2,_⟩
  ·simp only [Value.slice.injEq] at q1;omega
  ·simp only [Value.slice.injEq] at q2;exact q2.2.1
 have hkn:k=n:=hn▸Int.ofNat_inj.1 (z5.symm.trans hhi)
 subst hkn
 rw [←hn] at b1 l1
 have hkl:((k - l:Nat):Int)≤lim:=Int.le_trans (by omega) l1
 obtain ⟨o1,ho1,c1⟩:=b1.cut z2 (Yh k)
 rw [←z6] at c1
 have hcut:Rws w (Mt bd.Z s.heap g) false ty' Zz ((Fs.take k).drop l) (((den e1 r:List ty'.D).take k).drop l) ((xs.take (k * ty'.size)).drop (l * ty'.size)):=(b3.take k).drop l
 obtain ⟨ety,i,z,ht,hinf,hz,hisz,hzs,hby,_⟩:=Z4V hel
 obtain ⟨e2',hT2⟩:=Z4Z ht2
 have c1':=c1
 rw [←hisz] at c1'
 have hylx:=hyr.lx
 rw [←hisz] at hylx
 obtain ⟨v',w',o',hrun,hown',ho',hfresh,hsame,hsize,hos,htp,hout,hpre⟩:=Z4Q (ty:=op.type) (c:=sc) ht hT2 hinf hz (hzs.trans hisz.symm) hby c1' hylx hys hy0 hyr.ones hkl l2
 rw [hisz] at hown' hpre
 have hsz0:=h.world.size
 have hown2:Z5 w' (.slice p k c) ov ty'.size k xs :=
  Z5.behind b1 z2 fun b off cap cur ety' hv hb=>hpre b off cap cur ety' (by rw [z6];exact hv) hb
 have hovj:∀b,o1=some b→b∈(g j).foot:=fun b hb=>by
  rcases ho1 with h1 | h1
  ·rw [h1] at hb;cases hb
  ·rw [b2,←h1,hb];simp
 have hjB:(fun i=>(s.heap i).map (Blk.map (Ze j))) j=some (.arr false ty' e1):=by simp [hj,Blk.map]
 have h1:=h.replace (Ze j) (fun i=>(s.heap i).map (Blk.map (Ze j))) s.base (g':=g) (w':=w') (fun i=>i=j) ?_ (fun i hi=>⟨rfl,rfl⟩) ?_ ?_ ?_ hsize hos htp hout ?_ (fun _ _ _=>⟨rfl,rfl⟩)
 ·obtain ⟨hR,hkeep⟩:=h1
  have hR2:=R.freeze hR j
  have hfr:(St.unnest s j).heap j=some (.arr false ty' e1):=hjB
  have hsub:∀i B,((s.unnest j).freeze j).heap i=some B→∃C,(s.unnest j).heap i=some C∧i≠j:=by
   intro i B hB
   unfold St.freeze at hB
   rw [hfr] at hB
   cases hi:(i==j)<;>simp [hi] at hB
   obtain ⟨C,hC,_⟩:=hB
   exact ⟨C,hC,by simpa using hi⟩
  have hnotM:∀b∈o'.toList,¬Mt bd.Z ((s.unnest j).freeze j).heap g b:=by
   rintro b hb (⟨i,B,hB,hbi⟩ | hz)
   ·obtain ⟨C,hC,hij⟩:=hsub i B hB
    simp only [Option.mem_toList] at hb
    rcases ho' with q | q
    ·have hbj:=hovj b (by rw [←q];simpa using hb)
     exact hij (hR.inj i j C _ b hC hfr hbi hbj)
    ·rw [q] at hb
     simp only [Y4] at hb
     subst hb
     obtain ⟨D,hD,_⟩:=Ya.1 hC
     have:=h.lt i D hD _ hbi
     omega
   ·simp only [Option.mem_toList] at hb
    rcases ho' with q | q
    ·exact h.notZ hj (hovj b (by rw [←q];simpa using hb)) hz
    ·rw [q] at hb
     simp only [Y4] at hb
     subst hb
     have:=(h.world.zone _ hz).1
     omega
  have hd:(den (.o2 (.app ty') (.o2 (.drop ty' .i64) (.o2 (.take ty' .i64) e1 hi) lo) e2) r:List ty'.D)=((den e1 r:List ty'.D).take k).drop l++(den e2 r:List ty'.D):=by
   show List.drop (Int.toNat (den lo r)) (List.take (Int.toNat (den hi r)) (den e1 r:List ty'.D))++_=_
   rw [z4,z5];simp
  have hA:Zb w' (Mt bd.Z (s.unnest j).heap g) ⟨0,v',o'.toList⟩ false ty' (fun _=>none) (den (.o2 (.app ty') (.o2 (.drop ty' .i64) (.o2 (.take ty' .i64) e1 hi) lo) e2) r:List ty'.D):=by
   refine Zy.2 ⟨o',(xs.take (k * ty'.size)).drop (l * ty'.size)++ys,(Fs.take k).drop l++Gs,?_,?_,?_⟩
   ·rw [hd,Y7,Yq,Yb,←hn,Nat.min_self]
    exact hown'
   ·rw [List.flatten_append,hG,Z4S hcut];simp
   ·rw [hd]
    exact Rws.append (hcut.keep hkeep fun b hb=>by rw [Z4S hcut] at hb;cases hb) (hyr.keep hkeep fun b hb=>by rw [hG] at hb;cases hb)
  refine ⟨v',w',g,.inl ?_,hR2,?_,?_⟩
  ·rw [Z4c op ho,hts,show (#[x,y]:Array Operand).map a.eval=#[a.eval x,a.eval y] by simp]
   have hyv':a.eval y=.slice sx (den e2 r:List ty'.D).length sc:=hyx
   rw [hyv']
   exact Zv hrun
  ·exact Zb.rep hA (Kept.same fun i B hB=>by obtain ⟨C,hC,_⟩:=hsub i B hB;exact ⟨C,hC⟩) hnotM
  ·exact ⟨⟨⟨h.nheap j _ hj,hxn.1.2⟩,hxn.1.1⟩,he2⟩
 ·intro b hb
  unfold Ze
  cases hu:(b.nst&&b.uses j)
  ·refine .inr ⟨rfl,fun i hi hij=>?_⟩
   subst hij
   refine ⟨congrArg Option.isSome hjB,rfl,rfl,fun hn2=>?_⟩
   rw [hi,hn2] at hu
   cases hu
  ·exact .inl rfl
 ·intro b hb hT
  refine hsame b hb fun hh=>?_
  exact hT j _ rfl hj (hovj b hh.symm)
 ·intro i B hij hB
  subst hij
  have hB2:=hjB.symm.trans hB
  cases hB2
  refine ⟨fun hk=>Zy.2 ⟨ov,xs,Fs,?_,b2,b3.keep hk fun b hb=>by rw [hF] at hb;cases hb⟩,h.nheap _ _ hj,h.nodup _ _ hj,fun b hb=>.inr ⟨_,_,rfl,hj,hb⟩⟩
  rw [z1,←hn]
  exact hown2
 ·intro i i' B C b hi hi' _ _ _ _
  rw [hi,hi']
 ·intro c hc hcj
  obtain ⟨_,l',hl'⟩:=h.kpl c hc
  rw [hcj,hj] at hl'
  cases hl'
theorem Z6C (h0:R bd N s r g a.tmps st w) {frz:Bool} {id:Nat} {t t2:TypeId} {ts:Array TypeId} {x y:Operand} (o:Oper) (ho:o.op=.call { callee:=.builtin .append,args:=#[x,y],argTypes:=ts }) (hts:ts=#[t,t2]) (ht2:Z0P P t2=true)
  {gs:List (E .bool)} {sv:SV} {s':St} (hs:Z0X P frz s id t x y=some (gs,sv,s')) (hg:∀c∈gs,den c r=true):Good P bd N r st (execOp a.eval o) a.tmps w sv s':=by
 unfold Z0X at hs
 split at hs
 case h_2=>cases hs
 rename_i ty hel
 obtain ⟨g1,h⟩:=Z57 h0 frz ty x y
 generalize Z0Q frz s ty x y=s1 at hs h
 unfold Z0W at hs
 split at hs
 ·exact Z6B (h.solid y) o ho hts ht2 hel hs hg
 ·rename_i i hx;exact Z58 h o ho hts ht2 hel hx hs hg
 ·rename_i hx
  have hv:=(Z3o h x).1
  rw [hx] at hv
  exact Z59 h o ho hts ht2 hel hv hs hg
 ·rename_i ty' e1 hx
  split at hs
  case isFalse=>cases hs
  rename_i hty
  subst hty
  exact Z5a h o ho hts ht2 hel hx hs hg
 ·rename_i i t0 k ix j hx;exact Z6v h o ho hts ht2 hel hx hs hg
 ·cases hs
theorem Z6D {α:Type} {l:Array α} {x:α} (h:l.toList=[x]):l=#[x]:=by
 apply Array.ext';simpa using h
theorem Z6E {α:Type} {l:Array α} {x y:α} (h:l.toList=[x,y]):l=#[x,y]:=by
 apply Array.ext';simpa using h
theorem both {sem:Sem Next} {tm:Array Value} {sv:SV} {s':St} {op:Op} {ld:Bool} (h:Zt P bd N r st ld sem tm w sv s') (hk:Z2y op=some ld) :
  Good P bd N r st sem tm w sv s'∧∀l,Z2y op=some l→Zt P bd N r st l sem tm w sv s' :=
 ⟨h.good,fun l e=>by rw [hk] at e;cases e;exact h⟩
theorem oth {sem:Sem Next} {tm:Array Value} {sv:SV} {s':St} {op:Op} (h:Good P bd N r st sem tm w sv s') (hk:Z2y op=none) :
  Good P bd N r st sem tm w sv s'∧∀l,Z2y op=some l→Zt P bd N r st l sem tm w sv s' :=
 ⟨h,fun l e=>by rw [hk] at e;cases e⟩
theorem Z6F (h:R bd N s r g a.tmps st w) {frz:Bool} {id:Nat} (o:Oper) {gs:List (E .bool)} {sv:SV} {s':St} (hs:Z1p P frz s id o.op=some (gs,sv,s')) (hg:∀c∈gs,den c r=true) :
  Good P bd N r st (execOp a.eval o) a.tmps w sv s'∧∀l,Z2y o.op=some l→Zt P bd N r st l (execOp a.eval o) a.tmps w sv s':=by
 generalize hop:o.op=op at hs ⊢
 cases op with
 | move x=>obtain ⟨-,rfl,rfl⟩:=Z3T hs;exact both (Z3x h x o (.inl hop)) (by rfl)
 | assign x=>obtain ⟨-,rfl,rfl⟩:=Z3T hs;exact both (Z3x h x o (.inr hop)) (by rfl)
 | pick c x y=>exact both (Z3F h hs o hop) (by rfl)
 | alloc t=>exact oth (Z4C h o hop hs) (by rfl)
 | box t v=>exact oth (Z4D h o hop hs) (by rfl)
 | build t ps=>exact both (Z6e h o hop hs) (by rfl)
 | buildSlice t n ps=>exact oth (Z5v h o hop hs) (by rfl)
 | load t x=>exact both (Z4p h o hop hs hg) (by rfl)
 | store t x v=>exact oth (Z5Q h o hop hs hg) (by rfl)
 | nilCheck x=>exact both (Z6f h o hop hs) (by rfl)
 | binOp b t x y ty =>
  simp only [Z1p] at hs
  split at hs
  ·rename_i p q hx hy
   split at hs
   ·rename_i pr hnc
    obtain ⟨gs',sv'⟩:=pr
    simp only [Y4,Y9] at hs
    obtain ⟨rfl,rfl,rfl⟩:=hs
    exact both (Z3V h o hop hx hy hnc hg) (by rfl)
   split at hs
   case isFalse=>cases hs
   rename_i hok
   obtain ⟨⟨gs',sv'⟩,hb,h1⟩:=Ya.1 hs
   simp only [Y9] at h1
   obtain ⟨rfl,rfl,rfl⟩:=h1
   exact both (Z3U h o hop hx hy hok hb hg) (by rfl)
  ·rename_i l m hx hy
   split at hs
   ·cases hs
   rename_i hc
   simp only [YL,Yr,not_or,Bool.not_eq_true,Bool.not_eq_false] at hc
   split at hs
   ·obtain ⟨e,he,h1⟩:=Ya.1 hs
    simp only [Y9] at h1
    obtain ⟨rfl,rfl,rfl⟩:=h1
    exact both (Z6r h (neq:=false) o hop hx hy hc.1 hc.2 he) (by rfl)
   ·obtain ⟨e,he,h1⟩:=Ya.1 hs
    simp only [Y9] at h1
    obtain ⟨rfl,rfl,rfl⟩:=h1
    exact both (Z6r h (neq:=true) o hop hx hy hc.1 hc.2 he) (by rfl)
   ·cases hs
  ·cases hs
 | unOp u t x=>exact both (Z3W h o hop hs) (by rfl)
 | convert t d x=>exact both (Z3X h o hop hs) (by rfl)
 | makeFunc f first caps =>
  simp only [Z1p] at hs
  cases f with
  | func f =>
   simp only [] at hs
   split at hs
   case isFalse=>cases hs
   rename_i hfs
   obtain ⟨l,hl,h1⟩:=Option.bind_eq_some_iff.1 hs
   obtain ⟨-,rfl,rfl⟩:=Z3T h1
   exact both (Z6i h o hop hfs hl) (by rfl)
  | _=>cases hs
 | makeSlice t l c=>exact oth (Z5f h o hop hs hg) (by rfl)
 | slice t x lo hi mx=>exact oth (Z69 h o hop hs hg) (by rfl)
 | fieldAddr t x f=>exact both (Z40 h o hop hs) (by rfl)
 | indexAddr t x i=>exact both (Z43 h o hop hs hg) (by rfl)
 | index t x i =>
  simp only [Z1p] at hs
  split at hs
  ·rename_i e k n ht hx hix
   simp only [Y4,Y9] at hs
   obtain ⟨rfl,rfl,rfl⟩:=hs
   exact both (Z6g (gs:=[]) (sv:=.a .no) (s':=s) h o hop ht hx hix (hg _ (by simp)) (hg _ (by simp))) (by rfl)
  ·cases hs
 | field t x f=>exact both (Z6p h o hop hs) (by rfl)
 | extract t i=>exact both (Z44 h o hop hs) (by rfl)
 | call c =>
  obtain ⟨callee,args,ts⟩:=c
  cases callee with
  | builtin b =>
   simp only [Z1p] at hs
   split at hs
   ·rename_i x t hargs hts
    rw [Z6D hargs] at hop
    split at hs
    case isFalse=>cases hs
    rename_i hok
    obtain ⟨e,he,h1⟩:=Option.bind_eq_some_iff.1 hs
    obtain ⟨-,rfl,rfl⟩:=Z3T h1
    exact both (Z4d h (t:=t) (ty:=t) o hop hts he hok) (by rfl)
   ·rename_i x y t hargs hts
    rw [Z6E hargs] at hop
    split at hs
    ·rename_i t2 ht2
     split at hs
     case isFalse=>cases hs
     rename_i hsl
     exact oth (Z6C h o hop (Z53 hts ht2 hsl.2) hsl.1 hs hg) (by rfl)
    ·cases hs
   ·rename_i x y t hargs hts
    rw [Z6E hargs] at hop
    exact oth (Z5_ h o hop hts hs) (by rfl)
   ·exact both (Z6j h (mx:=true) o hop hs) (by rfl)
   ·exact both (Z6j h (mx:=false) o hop hs) (by rfl)
   ·cases hs
  | _=>cases hs
 | _=>cases hs
theorem Z6G (h:R bd N s r g a.tmps st w) {frz:Bool} {id:Nat} (o:Oper) {gs:List (E .bool)} {sv:SV} {s':St} (hs:Z1p P frz s id o.op=some (gs,sv,s')) (hg:∀c∈gs,den c r=true) :
  Good P bd N r st (execOp a.eval o) a.tmps w sv s':=(Z6F h o hs hg).1
theorem Z6H (h:R bd N s r g a.tmps st w) {frz:Bool} {id:Nat} (o:Oper) {gs:List (E .bool)} {sv:SV} {s':St} (hs:Z1p P frz s id o.op=some (gs,sv,s')) (hg:∀c∈gs,den c r=true) {ld:Bool} (hk:Z2y o.op=some ld) :
  Zt P bd N r st ld (execOp a.eval o) a.tmps w sv s':=(Z6F h o hs hg).2 ld hk
end
end Go.Sm
namespace Go.Sm
theorem Ext.trans {w w' w'':World} (h:Ext w w') (h':Ext w' w''):Ext w w'':=by
 intro b hb
 have h1:=h b hb
 have hb':b<w'.heap.size:=by
  rcases Nat.lt_or_ge b w'.heap.size with h2 | h2
  ·exact h2
  ·rw [Array.getElem?_eq_none h2,Array.getElem?_eq_getElem hb] at h1;cases h1
 rw [h' b hb',h1]
theorem Ext.refl (w:World):Ext w w:=fun _ _=>rfl
section
variable {P:Program} {ops:Array Oper} {Q:Exit→Act→World→Prop}
def Z6I (P:Program) (ops:Array Oper) (ld:Bool) (w:World) (o:Oper) (v:Value) (a:Act):Prop :=
 (Region.wanted o (yielded ops a.tmps)=true∧∀w2,(ld=true→Ext w w2)→(execOp a.eval o).run P w2=.ok (.value v) w2) ∨
 (Region.wanted o (yielded ops a.tmps)=false∧v=undef)
theorem Z6I.wpOp {ld:Bool} {i:Nat} {o:Oper} {v:Value} {a:Act} {w:World} (hi:ops[i]?=some o) (hy:Z6I P ops ld w o v a)
  {K:Act→World→Prop} (h:K (a.put o.dst v) w):wpOp P ops Q i K a w:=by
 unfold Go.wpOp
 simp only [hi]
 rcases hy with ⟨hw,hv⟩ | ⟨hw,rfl⟩
 ·simp only [hw,if_true,Oper.wp,hv w (fun _=>Ext.refl w),Oper.upon];exact .inl h
 ·simp only [hw,Yg,if_false];exact h
theorem Z6I.of_same {ld:Bool} {w:World} {o:Oper} {v:Value} {a a':Act} (hy:Z6I P ops ld w o v a) (he:execOp a'.eval o=execOp a.eval o)
  (hw:Region.wanted o (yielded ops a'.tmps)=Region.wanted o (yielded ops a.tmps)):Z6I P ops ld w o v a':=by
 unfold Z6I at *
 rw [he,hw]
 exact hy
theorem Z6I.later {ld:Bool} {w w':World} {o:Oper} {v:Value} {a:Act} (hy:Z6I P ops ld w o v a) (he:ld=true→Ext w w'):Z6I P ops ld w' o v a:=by
 rcases hy with ⟨h1,h2⟩ | h
 ·exact .inl ⟨h1,fun w2 h3=>h2 w2 fun hl=>(he hl).trans (h3 hl)⟩
 ·exact .inr h
theorem Z6J {ld:Bool} {j:Nat} {oi oj:Oper} {v:Value} (hj:ops[j]?=some oj) (hap:oi.apart ops oj=true)
  (hsi:∀cs b,oi.op≠.select cs b) (hsj:∀cs b,oj.op≠.select cs b)
  (hQ:∀c a w,¬Q (.panic c) a w) {K:Act→World→Prop} {a:Act} {w w0:World}
  (hy:Z6I P ops ld w0 oi v a) (h:wpOp P ops Q j K (a.put oi.dst v) w) :
  wpOp P ops Q j (fun a' w'=>Z6I P ops ld w0 oi v a'∧K (a'.put oi.dst v) w') a w:=by
 obtain ⟨h1,h2,h3⟩:=Oper.apart_spec hap
 have keep:∀(a:Act),Z6I P ops ld w0 oi v a→∀u,Z6I P ops ld w0 oi v (a.put oj.dst u):=fun a hy u =>
  hy.of_same (execOp_put oi hsi a oj.dst u h3) (wanted_put oi a oj.dst u h3)
 have keepD:∀d,Z6I P ops ld w0 oi v { a with defers:=d::a.defers }:=fun d=>hy.of_same rfl rfl
 unfold wpOp at *
 simp only [hj] at *
 rw [wanted_put oj a oi.dst v h1] at h
 split
 ·rename_i hw
  simp only [hw,if_true] at h
  rcases h with h | ⟨hasks,hlets⟩
  case inr=>exact .inr ⟨by unfold Oper.asks at *;rw [execOp_put oj hsj a oi.dst v h1] at hasks;exact hasks,hlets⟩
  refine .inl ?_
  unfold Oper.wp at *
  rw [execOp_put oj hsj a oi.dst v h1] at h
  generalize (execOp a.eval oj).run P w=r at *
  cases r with
  | ok n w' =>
   cases n<;>simp only [Oper.upon] at h ⊢
   case value u=>exact ⟨keep a hy u,by rw [←Act.put_comm a v u h2];exact h⟩
   case skip=>exact ⟨keep a hy _,by rw [←Act.put_comm a v undef h2];exact h⟩
   case defer d =>
    refine ⟨keep _ (keepD d) _,?_⟩
    rw [←Act.put_comm _ v undef h2,←Act.put_defers]
    exact h
   case enter f args =>
    refine Calls.mono h fun e w'' he=>?_
    cases e with
    | returned u=>exact ⟨keep a hy u,by rw [←Act.put_comm a v u h2];exact he⟩
    | panicked c=>exact (hQ _ _ _ he).elim
    | outgrown=>exact he
   case row row args=>exact Rows.mono h fun u w'' he=>⟨keep a hy u,by rw [←Act.put_comm a v u h2];exact he⟩
  | halt x w' =>
   cases x<;>simp only [Oper.upon] at h ⊢
   case panic u=>exact (hQ _ _ _ h).elim
 ·rename_i hw
  simp only [hw] at h
  exact ⟨keep a hy _,by rw [←Act.put_comm a v undef h2];exact h⟩
def Z6K (P:Program) (ops:Array Oper) (Q:Exit→Act→World→Prop) (late:Nat→Bool):Nat→Array Bool→Act→World→Prop
 | 0,listed,a,w=>Region.ready .any ops listed=[]∧Q .normal a w
 | fuel+1,listed,a,w =>
  (Region.ready .any ops listed=[]→Q .normal a w) ∧
  ∀i∈Region.ready .any ops listed,wpOp P ops Q i (fun a' w'=>(late i=false→Ext w w')∧Z6K P ops Q late fuel (listed.setIfInBounds i true) a' w') a w
theorem Z6L {late:Nat→Bool}:∀(fuel:Nat) (listed:Array Bool) (a:Act) (w:World),Z6K P ops Q late fuel listed a w→wpAny P .any ops Q fuel listed a w
 | 0,_,_,_,h=>h
 | fuel+1,_,_,_,h=>⟨h.1,fun i hi=>wpOp_mono (fun a' w' h'=>Z6L fuel _ a' w' h'.2) (h.2 i hi)⟩
def Z6M (ops:Array Oper) (listed:Array Bool):Prop :=
 ∀j oj,ops[j]?=some oj→listed.getD j false=true→∀e∈oj.after,Region.binds .any e=true→listed.getD e.on false=true
theorem Z6M.set {listed:Array Bool} (h:Z6M ops listed) {i:Nat} (hi:i∈Region.ready .any ops listed):Z6M ops (listed.setIfInBounds i true):=by
 intro j oj hj hl e he hb
 by_cases hji:i=j
 ·subst hji
  obtain ⟨_,o,ho,hall⟩:=mem_ready.1 hi
  rw [hj] at ho;cases ho
  exact getD_set_true (hall e he hb)
 ·rw [getD_set_ne false hji] at hl
  exact getD_set_true (h j oj hj hl e he hb)
theorem Z6N {late:Nat→Bool} {ld:Bool} {i:Nat} {oi:Oper} {v:Value} (hi:ops[i]?=some oi) (hsel:∀(j:Nat) (o:Oper) cs b,ops[j]?=some o→o.op≠.select cs b)
  (hQ:∀c a w,¬Q (.panic c) a w) :
  ∀(fuel:Nat) (listed:Array Bool) (a:Act) (w:World),
   (∀j oj,ops[j]?=some oj→j≠i→listed.getD j true=false→(∀e∈oj.after,Region.binds .any e=true→e.on≠i)→oi.apart ops oj=true) →
   Z6M ops listed→(ld=true→∀listed',Z6M ops listed'→(∀k,listed.getD k true=true→listed'.getD k true=true)→listed'.getD i true=false→∀j∈Region.ready .any ops listed',late j=false) →
   i∈Region.ready .any ops listed→Z6I P ops ld w oi v a →
   Z6K P ops Q late fuel (listed.setIfInBounds i true) (a.put oi.dst v) w→Z6K P ops Q late (fuel+1) listed a w:=by
 intro fuel
 induction fuel with
 | zero =>
  intro listed a w _ _ _ hr hy H
  refine ⟨fun h=>(by rw [h] at hr;cases hr),fun j hj=>?_⟩
  by_cases hji:j=i
  ·subst hji;exact hy.wpOp hi ⟨fun _=>Ext.refl w,H⟩
  ·have:=ready_mono hj hji
   rw [H.1] at this
   cases this
 | succ fuel ih =>
  intro listed a w hfree hcl hlate hr hy H
  refine ⟨fun h=>(by rw [h] at hr;cases hr),fun j hj=>?_⟩
  by_cases hji:j=i
  ·subst hji;exact hy.wpOp hi ⟨fun _=>Ext.refl w,H⟩
  ·have h1:=H.2 j (ready_mono hj hji)
   obtain ⟨hjun,oj,hoj,hall⟩:=mem_ready.1 hj
   have hiun:=(mem_ready.1 hr).1
   have hnot:∀e∈oj.after,Region.binds .any e=true→e.on≠i:=fun e he hb heq=>by
    have h1:=hall e he hb
    rw [heq] at h1
    rcases Nat.lt_or_ge i listed.size with h' | h'
    ·simp [h'] at hiun h1;rw [hiun] at h1;cases h1
    ·simp [Array.getElem?_eq_none h'] at h1
   have h2:=Z6J hoj (hfree j oj hoj hji hjun hnot) (fun cs b=>hsel i oi cs b hi) (fun cs b=>hsel j oj cs b hoj) hQ hy h1
   have hfree':∀k ok,ops[k]?=some ok→k≠i→(listed.setIfInBounds j true).getD k true=false →
     (∀e∈ok.after,Region.binds .any e=true→e.on≠i)→oi.apart ops ok=true:=fun k ok hk hki hun hno=>by
    refine hfree k ok hk hki ?_ hno
    by_cases hjk:j=k
    ·subst hjk;exact hjun
    ·rw [getD_set_ne true hjk] at hun;exact hun
   have hgrow:∀k,listed.getD k true=true→(listed.setIfInBounds j true).getD k true=true:=fun k hk=>by
    by_cases hjk:j=k
    ·subst hjk;rw [hk] at hjun;cases hjun
    ·rw [getD_set_ne true hjk];exact hk
   refine wpOp_mono (fun a' w' h3=>⟨h3.2.1,ih (listed.setIfInBounds j true) a' w' hfree' (hcl.set hj) (fun hl l' hc' hg'=>hlate hl l' hc' fun k hk=>hg' k (hgrow k hk)) (ready_mono hr (Ne.symm hji))
    (h3.1.later fun hl=>h3.2.1 (hlate hl listed hcl (fun _ h=>h) hiun j hj)) ?_⟩) h2
   rw [Array.setIfInBounds_comm _ _ hji]
   exact h3.2.2
theorem Z6O {late:Nat→Bool} {i fuel:Nat} {listed:Array Bool} {a:Act} {w:World} (hr:Region.ready .any ops listed=[i])
  (h:wpOp P ops Q i (fun a' w'=>(late i=false→Ext w w')∧Z6K P ops Q late fuel (listed.setIfInBounds i true) a' w') a w):Z6K P ops Q late (fuel+1) listed a w :=
 ⟨fun h0=>absurd (hr▸h0) (by simp),by rw [hr];intro j hj;simp only [Y1] at hj;subst hj;exact h⟩
theorem Z6P {t:List (List Nat)} (ht:Z2C ops t=true) {listed:Array Bool} (hc:Z6M ops listed) :
  ∀(n j:Nat),j<n→j<ops.size→(∀oj,ops[j]?=some oj→∀e∈oj.after,Region.binds .any e=true→listed.getD e.on false=true)→∀i∈t.getD j [],listed.getD i false=true:=by
 intro n
 induction n with
 | zero=>intro j hj;omega
 | succ n ih =>
  intro j hj hjs hall i hi
  simp only [Z2C,YG,List.mem_range] at ht
  have h1:=ht j hjs i hi
  cases ho:ops[j]? with
  | none=>rw [ho] at h1;cases h1
  | some o =>
   rw [ho] at h1
   simp only [YQ,Y5,YL,beq_iff_eq,Ye] at h1
   obtain ⟨e,he,hb,h2⟩:=h1
   have hel:=hall o ho e (by simpa using he) hb
   rcases h2 with rfl | ⟨hlt,hin⟩
   ·exact hel
   ·exact ih e.on (by omega) (by omega) (fun oj hoj e' he' hb'=>hc e.on oj hoj hel e' he' hb') i (by simpa using hin)
theorem Z6Q {listed:Array Bool} {i:Nat} (h:listed.getD i true=false):listed.getD i false=false:=by
 rcases Nat.lt_or_ge i listed.size with h' | h'
 ·simp only [Array.getD,h',dif_pos] at *;exact h
 ·simp [Array.getD,Nat.not_lt.2 h'] at h
end
def ZB {α:Type}:Sem α→Prop
 | .pure _=>True
 | .load _ _ k=>∀v,ZB (k v)
 | .new _ k=>∀n,ZB (k n)
 | .shape _ k=>∀v,ZB (k v)
 | .frozen _ k=>∀v,ZB (k v)
 | .getObj _ k=>∀v,ZB (k v)
 | .choose _ k=>∀v,ZB (k v)
 | .program k=>∀v,ZB (k v)
 | .mark _ k=>ZB k
 | .halt _=>True
 | _=>False
theorem ZB.bind {α β:Type} {f:α→Sem β}:∀{x:Sem α},ZB x→(∀v,ZB (f v))→ZB (x.bind f):=by
 intro x
 induction x with
 | pure a=>intro _ h;exact h a
 | load m a k ih=>intro h hf v;exact ih v (h v) hf
 | store m a v k ih=>intro h;exact h.elim
 | new o k ih=>intro h hf v;exact ih v (h v) hf
 | shape r k ih=>intro h hf v;exact ih v (h v) hf
 | freeze a n k ih=>intro h;exact h.elim
 | frozen a k ih=>intro h hf v;exact ih v (h v) hf
 | getObj r k ih=>intro h hf v;exact ih v (h v) hf
 | setObj r o k ih=>intro h;exact h.elim
 | choose q k ih=>intro h hf v;exact ih v (h v) hf
 | sys c k ih=>intro h;exact h.elim
 | program k ih=>intro h hf v;exact ih v (h v) hf
 | mark m k ih=>intro h hf;exact ih h hf
 | halt h=>intro _ _;trivial
theorem Ext.push (w:World) (o:Obj):Ext w { w with heap:=w.heap.push o }:=by
 intro b hb
 simp [Array.getElem?_push,Nat.ne_of_lt hb]
theorem ZB.run {α:Type} {P:Program}:∀{x:Sem α},ZB x→∀{w w':World} {v:α},x.run P w=.ok v w'→Ext w w':=by
 intro x
 induction x with
 | pure a=>intro _ w w' v h;simp only [Sem.run] at h;cases h;exact Ext.refl w
 | load m a k ih =>
  intro hg w w' v h
  simp only [Sem.run] at h
  split at h
  ·exact ih _ (hg _) h
  ·split at h
   ·exact ih _ (hg _) h
   ·cases h
 | store m a v k ih=>intro h;exact h.elim
 | new o k ih=>intro hg w w' v h;simp only [Sem.run] at h;exact (Ext.push w o).trans (ih _ (hg _) h)
 | shape r k ih=>intro hg w w' v h;simp only [Sem.run] at h;exact ih _ (hg _) h
 | freeze a n k ih=>intro h;exact h.elim
 | frozen a k ih=>intro hg w w' v h;simp only [Sem.run] at h;exact ih _ (hg _) h
 | getObj r k ih =>
  intro hg w w' v h
  simp only [Sem.run] at h
  split at h
  ·cases h
  ·exact ih _ (hg _) h
  ·cases h
 | setObj r o k ih=>intro h;exact h.elim
 | choose q k ih =>
  intro hg w w' v h
  simp only [Sem.run] at h
  split at h
  ·exact ih _ (hg _) h
  ·have:=ih _ (hg _) h
   exact this
 | sys c k ih=>intro h;exact h.elim
 | program k ih=>intro hg w w' v h;simp only [Sem.run] at h;exact ih _ (hg _) h
 | mark m k ih=>intro hg w w' v h;simp only [Sem.run] at h;exact ih hg h
 | halt h=>intro _ w w' v h;simp only [Sem.run] at h;cases h
theorem Z6R {α β:Type} {x:Sem α} {f:α→Sem β} (h:ZB x) (hf:∀v,ZB (f v)):ZB (x >>= f):=ZB.bind h hf
theorem Z6S {α:Type} (x:α):ZB (pure x:Sem α):=trivial
theorem Z6T {α:Type} (x:String):ZB (stuck x:Sem α):=by simp [stuck,ZB]
theorem Z6U {α:Type} (x:Unsupported):ZB (unsupported x:Sem α):=by simp [unsupported,ZB]
theorem Z6V (t:TypeId):ZB (typeInfo t):=by
 unfold typeInfo
 refine Z6R (fun _=>trivial) fun p=>?_
 split<;>first | exact Z6S _ | exact Z6T _
theorem Z6W (t:TypeId):ZB (underlying t):=by
 unfold underlying
 refine Z6R (fun _=>trivial) fun p=>?_
 split<;>first | exact Z6S _ | exact Z6T _
theorem Z6X (t:TypeId):ZB (sizeOf t):=Z6R (Z6V t) fun _=>Z6S _
theorem Z6Y (t:TypeId):ZB (zeroValue t):=by
 unfold zeroValue
 refine Z6R (Z6V t) fun i=>?_
 split<;>first | exact Z6S _ | exact Z6T _ | exact Z6U _
theorem Z6Z (t:TypeId) (c:Array Value):ZB (newRow t c):=Z6R (fun _=>trivial) fun _=>Z6S _
theorem Z6_ (t:TypeId) (c:Value):ZB (newVar t c):=Z6Z _ _
theorem Z70 {ρ:Operand→Value} {o:Oper} (h:(∃t,o.op=.alloc t)∨(∃t v,o.op=.box t v)∨∃t n ps,o.op=.buildSlice t n ps):ZB (execOp ρ o):=by
 have v:∀{x:Sem Value},ZB x→ZB ((do pure (.value (←x))):Sem Next):=fun h=>Z6R h fun _=>Z6S _
 rcases h with ⟨t,h⟩ | ⟨t,x,h⟩ | ⟨t,n,ps,h⟩<;>simp only [execOp,h]
 ·refine v ?_
  unfold Instr.alloc
  exact Z6R (Z6Y _) fun z=>Z6R (Z6_ _ _) fun _=>Z6S _
 ·refine v ?_
  unfold Instr.box
  exact Z6R (Z6_ _ _) fun _=>Z6S _
 ·refine v ?_
  unfold Instr.buildSlice
  refine Z6R (Z6W _) fun u=>?_
  split
  ·refine Z6R (Z6X _) fun sz=>?_
   dsimp only
   repeat' first
    | split
    | exact Z6T _
    | exact Z6S _
    | refine Z6R (Z6U _) fun _=>?_
    | refine Z6R (Z6Y _) fun _=>?_
    | refine Z6R (Z6Z _ _) fun _=>?_
    | refine Z6R (Z6S _) fun _=>?_
  ·exact Z6T _
end Go.Sm
namespace Go.Sm
theorem Z71 {K:Z4} {m:Nat} {t:Tr} {r:Env} {out:Out}:∀{gs:List (E .bool)},run K m (Tr.guards gs t) r=some out→(∀c∈gs,den c r=true)∧run K m t r=some out
 | [],h=>⟨fun _ hc=>(List.not_mem_nil hc).elim,h⟩
 | c::gs,h=>by
  unfold Tr.guards at h
  split at h
  ·rename_i hl
   obtain ⟨h1,h2⟩:=Z71 h
   refine ⟨fun d hd=>?_,h2⟩
   rcases Yl.1 hd with rfl | hd
   ·exact Z3E hl r
   ·exact h1 d hd
  ·simp only [run] at h;cases h
  ·simp only [run] at h
   split at h
   case isFalse=>cases h
   rename_i hc
   obtain ⟨h1,h2⟩:=Z71 h
   refine ⟨fun d hd=>?_,h2⟩
   rcases Yl.1 hd with rfl | hd
   ·exact hc
   ·exact h1 d hd
def Closed (K:Z4) (m:Nat) (t:Tr):Prop:=∀r l vs,run K m t r≠some (.jump l vs)
section
variable {K:Z4} {m:Nat}
theorem Closed.bad:Closed K m .bad:=fun r l vs h=>by simp only [run] at h;cases h
theorem Closed.leaf (x:Ex) (s:St):Closed K m (.leaf x s):=fun r l vs h=>by simp only [run] at h;cases h
theorem Closed.guards {gs:List (E .bool)} {t:Tr} (h:Closed K m t):Closed K m (Tr.guards gs t):=fun r l vs hr=>h r l vs (Z71 hr).2
theorem Closed.ite {c:E .bool} {a b:Tr} (ha:Closed K m a) (hb:Closed K m b):Closed K m (.ite c a b):=fun r l vs h=>by
 simp only [run] at h
 split at h
 ·exact ha r l vs h
 ·exact hb r l vs h
theorem Closed.call {f:FuncId} {ins:List AE} {b:Nat} {t:Tr} (h:Closed K m t):Closed K m (.call f ins b t):=fun r l vs hr=>by
 simp only [run] at hr
 split at hr
 ·exact h _ l vs hr
 ·cases hr
theorem Z72 {t:Tr} {f:Ex→St→Tr} (hf:∀x s,Closed K m (f x s))
  (ih:∀r out,run K m (t.bind f) r=some out→(∃l us,run K m t r=some (.jump l us)∧out=.jump l us)∨(∃us,run K m t r=some (.ret us)∧out=.ret us)∨∃x s r',run K m t r=some (.leaf x s r')∧run K m (f x s) r'=some out) :
  ∀(n:Nat) (vs:List AV) (out:Out),Z3 (run K m (t.bind f)) n vs=some out→(∃l us,Z3 (run K m t) n vs=some (.jump l us)∧out=.jump l us)∨(∃us,Z3 (run K m t) n vs=some (.ret us)∧out=.ret us) ∨
   ∃x s r',Z3 (run K m t) n vs=some (.leaf x s r')∧run K m (f x s) r'=some out
 | 0,_,_,h=>by simp only [Z3] at h;cases h
 | n+1,vs,out,h=>by
  simp only [Z3] at h ⊢
  split at h
  ·rename_i us hr
   rcases ih _ _ hr with ⟨l,us',h1,h2⟩ | ⟨us',h1,h2⟩ | ⟨x,s,r',h1,h2⟩
   ·cases h2;rw [h1];exact Z72 hf ih n us out h
   ·cases h2
   ·exact (hf x s _ _ _ h2).elim
  ·rename_i l us hr
   cases h
   rcases ih _ _ hr with ⟨l',us',h1,h2⟩ | ⟨us',h1,h2⟩ | ⟨x,s,r',h1,h2⟩
   ·cases h2;rw [h1];exact .inl ⟨l,us,rfl,rfl⟩
   ·cases h2
   ·exact (hf x s _ _ _ h2).elim
  ·rename_i x s r' hr
   cases h
   rcases ih _ _ hr with ⟨l',us',h1,h2⟩ | ⟨us',h1,h2⟩ | ⟨x',s',r'',h1,h2⟩
   ·cases h2
   ·cases h2
   ·rw [h1];exact .inr (.inr ⟨x',s',r'',rfl,h2⟩)
  ·rename_i us hr
   cases h
   rcases ih _ _ hr with ⟨l',us',h1,h2⟩ | ⟨us',h1,h2⟩ | ⟨x',s',r'',h1,h2⟩
   ·cases h2
   ·cases h2;rw [h1];exact .inr (.inl ⟨us,rfl,rfl⟩)
   ·rw [h1];exact .inr (.inr ⟨x',s',r'',rfl,h2⟩)
  ·cases h
theorem run_bind {f:Ex→St→Tr} (hf:∀x s,Closed K m (f x s)):∀(t:Tr) (r:Env) (out:Out),run K m (t.bind f) r=some out →
  (∃l us,run K m t r=some (.jump l us)∧out=.jump l us)∨(∃us,run K m t r=some (.ret us)∧out=.ret us)∨∃x s r',run K m t r=some (.leaf x s r')∧run K m (f x s) r'=some out
 | .leaf x s,r,out,h=>.inr (.inr ⟨x,s,r,rfl,h⟩)
 | .bad,r,out,h=>by simp only [Tr.bind,run] at h;cases h
 | .ite c a b,r,out,h=>by
  simp only [Tr.bind,run] at h ⊢
  split at h
  ·rename_i hc;simp only [hc,if_true];exact run_bind hf a r out h
  ·rename_i hc;simp only [hc,if_false,Yg];exact run_bind hf b r out h
 | .guard c t,r,out,h=>by
  simp only [Tr.bind,run] at h ⊢
  split at h
  ·rename_i hc;simp only [hc,if_true];exact run_bind hf t r out h
  ·cases h
 | .call g ins b t,r,out,h=>by
  simp only [Tr.bind,run] at h ⊢
  split at h
  ·rename_i vs hv;exact run_bind hf t _ out h
  ·cases h
 | .jump l vs,r,out,h=>by
  simp only [Tr.bind,run] at h ⊢
  cases h
  exact .inl ⟨_,_,rfl,rfl⟩
 | .ret vs,r,out,h=>by
  simp only [Tr.bind,run] at h ⊢
  cases h
  exact .inr (.inl ⟨_,rfl,rfl⟩)
 | .join t k,r,out,h=>by
  simp only [Tr.bind,run] at h ⊢
  split at h
  ·rename_i us hr
   rcases run_bind hf t _ _ hr with ⟨l,us',h1,h2⟩ | ⟨us',h1,h2⟩ | ⟨x,s,r',h1,h2⟩
   ·cases h2;rw [h1];exact run_bind hf k _ out h
   ·cases h2
   ·exact (hf x s _ _ _ h2).elim
  ·rename_i l us hr
   cases h
   rcases run_bind hf t _ _ hr with ⟨l',us',h1,h2⟩ | ⟨us',h1,h2⟩ | ⟨x,s,r',h1,h2⟩
   ·cases h2;rw [h1];exact .inl ⟨l,us,rfl,rfl⟩
   ·cases h2
   ·exact (hf x s _ _ _ h2).elim
  ·rename_i x s r' hr
   cases h
   rcases run_bind hf t _ _ hr with ⟨l',us',h1,h2⟩ | ⟨us',h1,h2⟩ | ⟨x',s',r'',h1,h2⟩
   ·cases h2
   ·cases h2
   ·rw [h1];exact .inr (.inr ⟨x',s',r'',rfl,h2⟩)
  ·rename_i us hr
   cases h
   rcases run_bind hf t _ _ hr with ⟨l',us',h1,h2⟩ | ⟨us',h1,h2⟩ | ⟨x',s',r'',h1,h2⟩
   ·cases h2
   ·cases h2;rw [h1];exact .inr (.inl ⟨us,rfl,rfl⟩)
   ·rw [h1];exact .inr (.inr ⟨x',s',r'',rfl,h2⟩)
  ·cases h
 | .loop init body,r,out,h=>by
  simp only [Tr.bind,run] at h ⊢
  exact Z72 hf (fun r out h=>run_bind hf body r out h) m _ out h
theorem Closed.bind {t:Tr} {f:Ex→St→Tr} (ht:Closed K m t) (hf:∀x s,Closed K m (f x s)):Closed K m (t.bind f):=fun r l vs h=>by
 rcases run_bind hf t r _ h with ⟨l',us,h1,h2⟩ | ⟨us,h1,h2⟩ | ⟨x,s,r',h1,h2⟩
 ·exact ht _ _ _ h1
 ·cases h2
 ·exact hf _ _ _ _ _ h2
end
def ZC (K:Z4) (m:Nat) (t:Tr):Prop:=∀r out,run K m t r=some out→∃x s r',out=.leaf x s r'
section
variable {K:Z4} {m:Nat}
theorem ZC.closed {t:Tr} (h:ZC K m t):Closed K m t:=fun r l vs hr=>by obtain ⟨_,_,_,h1⟩:=h r _ hr;cases h1
theorem ZC.bad:ZC K m .bad:=fun r out h=>by simp only [run] at h;cases h
theorem ZC.leaf (x:Ex) (s:St):ZC K m (.leaf x s):=fun r out h=>by simp only [run] at h;cases h;exact ⟨_,_,_,rfl⟩
theorem ZC.guards {gs:List (E .bool)} {t:Tr} (h:ZC K m t):ZC K m (Tr.guards gs t):=fun r out hr=>h r out (Z71 hr).2
theorem ZC.ite {c:E .bool} {a b:Tr} (ha:ZC K m a) (hb:ZC K m b):ZC K m (.ite c a b):=fun r out h=>by
 simp only [run] at h
 split at h
 ·exact ha r out h
 ·exact hb r out h
theorem ZC.call {f:FuncId} {ins:List AE} {b:Nat} {t:Tr} (h:ZC K m t):ZC K m (.call f ins b t):=fun r out hr=>by
 simp only [run] at hr
 split at hr
 ·exact h _ out hr
 ·cases hr
theorem ZC.bind {t:Tr} {f:Ex→St→Tr} (ht:ZC K m t) (hf:∀x s,ZC K m (f x s)):ZC K m (t.bind f):=fun r out h=>by
 rcases run_bind (fun x s=>(hf x s).closed) t r _ h with ⟨l',us,h1,h2⟩ | ⟨us,h1,h2⟩ | ⟨x,s,r',h1,h2⟩
 ·obtain ⟨_,_,_,h3⟩:=ht _ _ h1;cases h3
 ·obtain ⟨_,_,_,h3⟩:=ht _ _ h1;cases h3
 ·exact hf _ _ _ _ h2
end
section
variable {P:Program} {bd:Bd} {N N':Nat→Prop} {s:St} {r:Env} {g:Nat→G} {tm:Array Value} {st:List (Array Value)} {w:World}
theorem SV.all_mono {p q:Atom→Prop} (hpq:∀a,p a→q a) {v:SV} (h:v.all p):v.all q:=by
 cases v with
 | a x=>exact hpq _ h
 | agg l=>exact fun a ha=>hpq _ (h a ha)
 | tup l=>exact fun c hc a ha=>hpq _ (h c hc a ha)
theorem Blk.ok_mono (hN:∀i,N i→N' i) {h:Nat→Option Blk} {B:Blk} (hB:B.ok N h):B.ok N' h:=by
 cases B with
 | box l=>exact fun a ha=>Atom.ok_mono hN (fun _ h=>h) (hB a ha)
 | arr dp t e=>exact E.vs_mono hN _ hB
 | hole t e k i j a=>exact ⟨E.vs_mono hN _ hB.1,E.vs_mono hN _ hB.2.1,Atom.ok_mono hN (fun _ h=>h) hB.2.2⟩
 | lent t e k i a=>exact ⟨E.vs_mono hN _ hB.1,E.vs_mono hN _ hB.2.1,Atom.ok_mono hN (fun _ h=>h) hB.2.2⟩
theorem R.mono (h:R bd N s r g tm st w) (hN:∀i,N i→N' i):R bd N' s r g tm st w :=
 {h with
  ncur:=fun v hv=>SV.all_mono (fun a ha=>Atom.ok_mono hN (fun _ h=>h) ha) (h.ncur v hv)
  nstk:=fun f hf v hv=>SV.all_mono (fun a ha=>Atom.ok_mono hN (fun _ h=>h) ha) (h.nstk f hf v hv)
  nheap:=fun id B hB=>Blk.ok_mono hN (h.nheap id B hB) }
theorem R.based (h:R bd N s r g tm st w) (b:Nat):R bd N { s with base:=b } r g tm st w :=
 {cur:=h.cur,stk:=h.stk,heap:=h.heap,inj:=h.inj,nodup:=h.nodup,own:=h.own,lt:=h.lt,world:=h.world,pin:=h.pin,np:=h.np,kp:=h.kp,kept:=h.kept,kpl:=h.kpl,ncur:=h.ncur,nstk:=h.nstk,nheap:=h.nheap }
theorem R.slots (h:R bd N s r g tm st w) {cur:List SV} {stk:List (List SV)} {tm':Array Value} {st':List (Array Value)} (hc:Za w (Mt bd.Z s.heap g) g r cur tm'.toList) (hs:Z0i w (Mt bd.Z s.heap g) g r stk st')
  (nc:∀v∈cur,v.all (Atom.ok N s.heap)) (ns:∀f∈stk,∀v∈f,v.all (Atom.ok N s.heap)):R bd N { s with cur:=cur,stk:=stk } r g tm' st' w :=
 {cur:=hc,stk:=hs,heap:=h.heap,inj:=h.inj,nodup:=h.nodup,own:=h.own,lt:=h.lt,world:=h.world,pin:=h.pin,np:=h.np,kp:=h.kp,kept:=h.kept,kpl:=h.kpl,ncur:=nc,nstk:=ns,nheap:=h.nheap }
theorem Za.imp1 {M:Nat→Prop} (f:SV→SV) (hf:∀v u,Z9 w M g r v u→Z9 w M g r (f v) u):∀{l:List SV} {vs:List Value},Za w M g r l vs→Za w M g r (l.map f) vs
 | [],[],_=>trivial
 | _::_,_::_,h=>⟨hf _ _ h.1,Za.imp1 f hf h.2⟩
 | [],_::_,h=>h.elim
 | _::_,[],h=>h.elim
theorem Z73 {e:E .bool} {b:Bool} {h:Nat→Option Blk} {a:Atom} (ha:a.ok N h):(Z1u e b a).ok N h:=by
 unfold Z1u
 split
 ·split
  ·trivial
  ·exact ha
 ·exact ha
theorem Z74 {M:Nat→Prop} {e:E .bool} {b:Bool} (he:den e r=b) {a:Atom} {v:Value} (hv:Z7 w M g r a v):Z7 w M g r (Z1u e b a) v:=by
 unfold Z1u
 split
 ·split
  ·rename_i e' hq
   have:=Z3q hv
   rw [this,←Z3B hq r,he]
   exact Z3t rfl
  ·exact hv
 ·exact hv
theorem R.asm (h:R bd N s r g tm st w) {e:E .bool} {b:Bool} (he:den e r=b):R bd N (s.asm e b) r g tm st w:=by
 refine h.slots (stk:=s.stk) (h.cur.map (p:=fun _=>True) (fun a v _ hv=>Z74 he hv) (fun c _=>?_)) h.stk (fun v hv=>?_) h.nstk
 ·cases c<;>simp [SV.all]
 ·obtain ⟨u,hu,rfl⟩:=Yo.1 hv
  exact SV.all_map (h.ncur u hu) fun a ha=>Z73 ha
theorem Z75 {M:Nat→Prop} {live:List Nat}:∀{l:List SV} {vs:List Value} (i:Nat),Za w M g r l vs→Za w M g r (Z1H live i l) vs
 | [],[],_,_=>trivial
 | v::_,_::_,i,h=>by
  refine ⟨?_,Z75 (i+1) h.2⟩
  cases live.contains i
  ·trivial
  ·exact h.1
 | [],_::_,_,h=>h.elim
 | _::_,[],_,h=>h.elim
theorem Z76 {p:Atom→Prop} (hp:p .no) {live:List Nat}:∀{l:List SV} (i:Nat),(∀v∈l,v.all p)→∀v∈Z1H live i l,v.all p
 | [],_,_,v,hv=>by cases hv
 | u::l,i,h,v,hv=>by
  rcases Yl.1 hv with rfl | hv
  ·cases live.contains i
   ·exact hp
   ·exact h u (Yd ..)
  ·exact Z76 hp (i+1) (fun v hv=>h v (Yc _ hv)) v hv
theorem R.keep (h:R bd N s r g tm st w) (live:List Nat):R bd N (s.keep live) r g tm st w :=
 h.slots (stk:=s.stk) (Z75 0 h.cur) h.stk (Z76 trivial 0 h.ncur) h.nstk
theorem R.putD {a:Act} (h:R bd N s r g a.tmps st w) {d:Option Tmp} {sv:SV} {v:Value} (hv:Z9 w (Mt bd.Z s.heap g) g r sv v) (hn:sv.all (Atom.ok N s.heap)):R bd N (s.putD d sv) r g (a.put d v).tmps st w:=by
 cases d with
 | none=>exact h
 | some d=>exact h.put hv hn
end
def Enters (P : Program) (f : FuncId) : Prop := ∃ fn, P.funcs[f]? = some fn ∧ fn.name ≠ "runtime.NumGoroutine" ∧ fn.body.isSome = true
theorem Z77 {P:Program} {f:FuncId} (h:Enters P f) (args:Array Value) (w:World):(callFunc f args).run P w=.ok (.enter f args) w:=by
 obtain ⟨fn,h1,h2,h3⟩:=h
 have hb:fn.body.isNone=false:=by cases hb:fn.body<;>simp_all
 unfold callFunc
 rw [run_bind_ok (v:=P) (w':=w) rfl]
 simp only [h1]
 simp [h2,hb]
theorem Z78 {ρ:Operand→Value} {o:Oper} {x:Operand} {xs:Array Operand} {ats:Array TypeId} (ho:o.op=.call { callee:=.value x,args:=xs,argTypes:=ats }) {f:FuncId} {caps:Array Value} (hx:ρ x=.func (.func f) #[] caps) :
  execOp ρ o=callFunc f (#[]++xs.map ρ++caps):=by
 obtain ⟨dst,op,ty,pos,after,guard⟩:=o
 simp only at ho
 subst ho
 simp only [execOp,resolve,hx]
 rfl
def Z79 (c:Cx) (K:Z4) (m:Nat) (inl:Inl):Prop :=
 ∀(f:FuncId) (args:List SV) (s:St) (k:SV→St→Tr) (bd:Bd) (r:Env) (g:Nat→G) (tm:Array Value) (st:List (Array Value)) (w:World) (vs:List Value) (out:Out),
  R bd (·<s.base) s r g tm st w→Za w (Mt bd.Z s.heap g) g r args vs→(∀v∈args,v.all (Atom.ok (·<s.base) s.heap))→(∀v s',ZC K m (k v s'))→run K m (inl f args s k) r=some out →
  Enters c.P f∧Calls c.P f vs.toArray w fun e w'=>∃v sv s' r' g',e=.returned v∧R bd (·<s'.base) s' r' g' tm st w'∧Z9 w' (Mt bd.Z s'.heap g') g' r' sv v∧sv.all (Atom.ok (·<s'.base) s'.heap)∧run K m (k sv s') r'=some out
def Z7a (K:Z4) (m:Nat) (inl:Inl):Prop:=∀f args s k,(∀v s',ZC K m (k v s'))→ZC K m (inl f args s k)
def Z7b (c:Cx):Prop :=
 ∀(f:FuncId) (ty:Ty) (s:St) (id:Nat) (ops:List Operand) (gs:List (E .bool)) (sv:SV) (s':St) (bd:Bd) (N:Nat→Prop) (r:Env) (g:Nat→G) (a:Act) (st:List (Array Value)) (w:World),
  c.ins f=some ty→Z2r s id ty ops=some (gs,sv,s')→R bd N s r g a.tmps st w→(∀e∈gs,den e r=true) →
  Enters c.P f∧Calls c.P f (ops.map a.eval).toArray w fun e w'=>∃v g',e=.returned v∧R bd N s' r g' a.tmps st w'∧Z9 w' (Mt bd.Z s'.heap g') g' r sv v∧sv.all (Atom.ok N s'.heap)
def Z7c (c:Cx) (K:Z4):Prop:=∀f sig ins outs,c.sg f=some sig→K f ins=some outs→outs.length=sig.outs
def Z7d (c:Cx) (K:Z4):Prop:=(Z7b c∧Z7c c K) ∧
 ∀(f:FuncId) (sig:Sig) (s:St) (id:Nat) (ops:List Operand) (gs:List (E .bool)) (ins:List AE) (sv:SV) (s':St) (outs:List AV) (bd:Bd) (N:Nat→Prop) (r:Env) (g:Nat→G) (a:Act) (st:List (Array Value)) (w:World),
  c.sg f=some sig→Z2g sig s id ops=some (gs,ins,sv,s')→R bd N s r g a.tmps st w→(∀i,N i→i<id)→(∀e∈gs,den e r=true)→K f (ins.map (Z0 · r))=some outs →
  Enters c.P f∧Calls c.P f (ops.map a.eval).toArray w fun e w'=>∃v g',e=.returned v∧((sig.ps.all fun h=>!h.byRef)=true→Ext w w')∧R bd (·<id+64) s' (Z2 r id outs) g' a.tmps st w'∧Z9 w' (Mt bd.Z s'.heap g') g' (Z2 r id outs) sv v∧sv.all (Atom.ok (·<id+64) s'.heap)
section
variable {c:Cx} {K:Z4} {m:Nat} {inl:Inl} {fn:FuncId} {rid:Nat} {ops:Array Oper} {bd:Bd} {st:List (Array Value)}
def Nx (K:Z4) (m:Nat) (bd:Bd) (st:List (Array Value)) (df:List Deferred) (i:Nat) (k:St→Tr) (out:Out) (a:Act) (w:World):Prop :=
 a.defers=df∧∃s r g,R bd (·<s.base+64 * i) s r g a.tmps st w∧run K m (k s) r=some out
theorem put_defers (a:Act) (d:Option Tmp) (v:Value):(a.put d v).defers=a.defers:=by cases d<;>rfl
inductive Done (c:Cx) (a:Act) (o:Oper) (w:World) (Kp:Act→World→Prop):Prop where
 | val (v:Value) (w':World) (h:(execOp a.eval o).run c.P w=.ok (.value v) w'∨((execOp a.eval o).run c.P w=.ok .skip w'∧v=undef)) (hk:Kp (a.put o.dst v) w')
 | call (x:Operand) (xs:Array Operand) (ats:Array TypeId) (ho:o.op=.call { callee:=.value x,args:=xs,argTypes:=ats }) (f:FuncId) (args:Array Value) (h:(execOp a.eval o).run c.P w=.ok (.enter f args) w)
   (hc:Calls c.P f args w fun e w'=>∃v,e=.returned v∧Kp (a.put o.dst v) w')
theorem Za.get_ops {s:St} {r:Env} {g:Nat→G} {w:World} {a:Act} {N:Nat→Prop} (h:R bd N s r g a.tmps st w):∀(xs:List Operand),Za w (Mt bd.Z s.heap g) g r (xs.map s.get) (xs.map a.eval)∧∀v∈xs.map s.get,v.all (Atom.ok N s.heap)
 | []=>⟨trivial,fun v hv=>by cases hv⟩
 | x::xs=>by
  obtain ⟨h1,h2⟩:=Z3m h x
  obtain ⟨h3,h4⟩:=Za.get_ops h xs
  refine ⟨⟨h1,h3⟩,fun v hv=>?_⟩
  rcases Yl.1 hv with rfl | hv
  ·exact h2
  ·exact h4 v hv
theorem Za.app {w:World} {M:Nat→Prop} {g:Nat→G} {r:Env}:∀{l l':List SV} {vs vs':List Value},Za w M g r l vs→Za w M g r l' vs'→Za w M g r (l++l') (vs++vs')
 | [],_,[],_,_,h'=>h'
 | _::_,_,_::_,_,h,h'=>⟨h.1,Za.app h.2 h'⟩
 | [],_,_::_,_,h,_=>h.elim
 | _::_,_,[],_,h,_=>h.elim
theorem Za.take {w:World} {M:Nat→Prop} {g:Nat→G} {r:Env}:∀{l:List SV} {vs:List Value} (n:Nat),Za w M g r l vs→Za w M g r (l.take n) (vs.take n)
 | _,_,0,_=>by simp only [List.take_zero];trivial
 | [],[],n+1,_=>trivial
 | _::_,_::_,n+1,h=>⟨h.1,Za.take n h.2⟩
 | [],_::_,n+1,h=>h.elim
 | _::_,[],n+1,h=>h.elim
theorem Z7e {a:Act} {s:St} {r:Env} {g:Nat→G} {w:World} {N:Nat→Prop} {P:Program} {bd:Bd} {st:List (Array Value)} (h:R bd N s r g a.tmps st w) (o:Oper) {id:Nat} {gs:List (E .bool)} {sv:SV} {s':St} (hs:Z1s P s id o.op=some (gs,sv,s')) (hg:∀c∈gs,den c r=true) :
  (∃t x,o.op=.load t x)∧Zt P bd N r st true (execOp a.eval o) a.tmps w sv s':=by
 unfold Z1s at hs
 split at hs
 case h_2=>cases hs
 rename_i t x ho
 refine ⟨⟨t,x,ho⟩,?_⟩
 split at hs
 ·rename_i gs0 i0 t0 k ix j s1 hl
  split at hs
  case h_2=>cases hs
  rename_i i1 s2 hle
  simp only [Y4,Y9] at hs
  obtain ⟨rfl,rfl,rfl⟩:=hs
  obtain ⟨v,g',hrun,hR,hv,hn⟩:=Z4p h o ho hl hg
  have hlen:s1.cur.length=a.tmps.size:=by rw [hR.cur.length,Yi]
  have h2:R bd N { s1 with cur:=s1.cur++[.a (.nref i0 t0 k ix j)] } r g' ({ a with tmps:=a.tmps.push v }:Act).tmps st w:=by
   refine hR.slots (cur:=s1.cur++[.a (.nref i0 t0 k ix j)]) (stk:=s1.stk) (st':=st) ?_ hR.stk (fun u hu=>?_) hR.nstk
   ·simp only [Array.toList_push]
    exact hR.cur.app ⟨hv,trivial⟩
   ·rcases Y6.1 hu with hu | hu
    ·exact hR.ncur u hu
    ·rw [Y1.1 hu];exact hn
  obtain ⟨g2,h3⟩:=Z6z h2 hle
  have hl3:s2.cur.length=s1.cur.length+1:=by rw [h3.cur.length,Yi,Array.size_push,hlen]
  have hget:s2.cur[s1.cur.length]?=some (s2.cur.getD s1.cur.length (.a .no)):=by
   rw [Y8,List.getElem?_eq_getElem (by omega)];rfl
  obtain ⟨v',hv',hs'⟩:=h3.cur.get hget
  have hvv:v'=v:=by
   rw [hlen] at hv'
   simp only [Array.toList_push] at hv'
   rw [Yt (by simp)] at hv'
   simpa using hv'.symm
  rw [hvv] at hs'
  refine ⟨v,g2,hrun,h3.slots (cur:=s2.cur.take s1.cur.length) (stk:=s2.stk) (tm':=a.tmps) (st':=st) ?_ h3.stk (fun u hu=>h3.ncur u (List.mem_of_mem_take hu)) h3.nstk,hs',h3.ncur _ (YD hget)⟩
  have:=Za.take s1.cur.length h3.cur
  rw [show (({ a with tmps:=a.tmps.push v }:Act).tmps.toList.take s1.cur.length)=a.tmps.toList by
   simp only [Array.toList_push]
   rw [hlen,←Yi,List.take_left']
   rfl] at this
  exact this
 ·exact Z4p h o ho hs hg
theorem Za.ptrs {w:World} {M:Nat→Prop} {g:Nat→G} {r:Env}:∀(caps:List (Nat×Nat)),Za w M g r (caps.map fun p=>.a (.ptr p.1 p.2)) (caps.map fun c=>Value.pointer (some ⟨(g c.1).blk,c.2,none⟩))
 | []=>trivial
 | p::l=>⟨by simp [Z9,Z7],Za.ptrs l⟩
theorem Z7f {o:Oper} (h:Z2z c o=true):((∃t,o.op=.alloc t)∨(∃t v,o.op=.box t v)∨∃t n ps,o.op=.buildSlice t n ps) ∨
  ∃f xs ats sg,o.op=.call { callee:=.value (.func f),args:=xs,argTypes:=ats }∧c.ins f=none∧c.sg f=some sg∧(sg.ps.all fun h=>!h.byRef)=true:=by
 unfold Z2z at h
 split at h
 ·rename_i t ho;exact .inl (.inl ⟨t,ho⟩)
 ·rename_i t v ho;exact .inl (.inr (.inl ⟨t,v,ho⟩))
 ·rename_i t n ps ho;exact .inl (.inr (.inr ⟨t,n,ps,ho⟩))
 ·rename_i f xs ats ho
  split at h
  ·rename_i sg hsg
   simp only [Y5,Option.isNone_iff_eq_none] at h
   exact .inr ⟨f,xs,ats,sg,ho,h.1,hsg,h.2⟩
  ·cases h
 ·cases h
def Z7g (K:Z4) (m:Nat) (bd:Bd) (st:List (Array Value)) (i:Nat) (k:SV→St→Tr) (out:Out) (tm:Array Value) (v:Value) (w:World):Prop :=
 ∃sv s r g,R bd (·<s.base+64 * (i+1)) s r g tm st w∧Z9 w (Mt bd.Z s.heap g) g r sv v∧sv.all (Atom.ok (·<s.base+64 * (i+1)) s.heap)∧run K m (k sv s) r=some out
def Z7h (c:Cx) (a:Act) (o:Oper) (w:World) (Kp:Value→World→Prop):Prop :=
 (∀ld,Z2y o.op=some ld→∃v,(∀w2,(ld=true→Ext w w2)→(execOp a.eval o).run c.P w2=.ok (.value v) w2)∧Kp v w) ∧
 Done c a o w fun a' w'=>(Z2z c o=true→Ext w w')∧∃v,a'=a.put o.dst v∧Kp v w'
theorem Z7i (hcall:Z7d c K) (hinl:Z79 c K m inl) {s:St} {r:Env} {g:Nat→G} {a:Act} {w:World} {i:Nat} {o:Oper} {rest:List Oper} {k:SV→St→Tr} {out:Out}
  (hkc:∀v s',ZC K m (k v s')) (h:R bd (·<s.base+64 * i) s r g a.tmps st w) (hrun:run K m (Z2v c fn rid inl ops i o rest k s) r=some out) :
  Z7h c a o w (Z7g K m bd st i k out a.tmps):=by
 have hm:∀j,j<s.base+64 * i→j<s.base+64 * (i+1):=fun j hj=>by omega
 have plain:∀{gs:List (E .bool)} {sv:SV} {s':St} {frz:Bool},(∀x xs ats,o.op≠.call { callee:=.value x,args:=xs,argTypes:=ats })→Z1p c.P frz s (s.base+64 * i) o.op=some (gs,sv,s')→run K m (.guards gs (k sv { s' with base:=s.base })) r=some out →
   Z7h c a o w (Z7g K m bd st i k out a.tmps):=by
  intro gs sv s' frz hnc hs hr
  obtain ⟨hg,hr'⟩:=Z71 hr
  refine ⟨fun ld hld=>?_,?_⟩
  ·obtain ⟨v,g',h1,h2,h3,h4⟩:=Z6H h o hs hg hld
   exact ⟨v,h1,sv,{ s' with base:=s.base },r,g',(h2.mono hm).based s.base,h3,SV.all_mono (fun b hb=>Atom.ok_mono hm (fun _ h=>h) hb) h4,hr'⟩
  ·obtain ⟨v,w',g',h1,h2,h3,h4⟩:=Z6G h o hs hg
   refine .val v w' h1 ⟨fun hf=>?_,v,rfl,sv,{ s' with base:=s.base },r,g',(h2.mono hm).based s.base,h3,SV.all_mono (fun b hb=>Atom.ok_mono hm (fun _ h=>h) hb) h4,hr'⟩
   rcases Z7f hf with hf | ⟨f,xs,ats,sg,ho,_⟩
   ·rcases h1 with h1 | ⟨h1,_⟩
    ·exact (Z70 hf).run h1
    ·exact (Z70 hf).run h1
   ·exact (hnc _ _ _ ho).elim
 unfold Z2v at hrun
 split at hrun
 ·rename_i f args ts hop
  split at hrun
  case h_2=>simp only [run] at hrun;cases hrun
  rename_i gf caps hget
  obtain ⟨hv,hok⟩:=Zu h hget
  simp only [Z7] at hv
  have hex:=Z78 (ρ:=a.eval) hop hv
  refine ⟨fun ld hld=>by rw [hop] at hld;simp [Z2y] at hld,?_⟩
  have hfr:Z2z c o=true→c.ins gf=none∧∃sg,c.sg gf=some sg∧(sg.ps.all fun h=>!h.byRef)=true:=by
   intro hf
   rcases Z7f hf with (⟨t,ho⟩ | ⟨t,v,ho⟩ | ⟨t,n,ps,ho⟩) | ⟨f',xs,ats,sg,ho,h0,h1,h2⟩
   ·rw [hop] at ho;cases ho
   ·rw [hop] at ho;cases ho
   ·rw [hop] at ho;cases ho
   ·rw [hop] at ho
    cases ho
    simp only [St.get,SV.a.injEq,Atom.clo.injEq] at hget
    obtain ⟨rfl,_⟩:=hget
    exact ⟨h0,sg,h1,h2⟩
  split at hrun
  ·rename_i ty hins
   split at hrun
   case h_2=>simp only [run] at hrun;cases hrun
   split at hrun
   case h_2=>simp only [run] at hrun;cases hrun
   rename_i gs sv s' hsi
   obtain ⟨hg,hr'⟩:=Z71 hrun
   obtain ⟨hent,hcalls⟩:=hcall.1.1 gf ty s _ args.toList gs sv s' bd _ r g a st w hins hsi h hg
   refine .call f args ts hop gf (#[]++args.map a.eval++#[]) (by rw [hex];exact Z77 hent _ w) ?_
   have harr:(#[]++args.map a.eval++#[]:Array Value)=(args.toList.map a.eval).toArray:=by
    apply Array.ext';simp
   rw [harr]
   refine hcalls.mono ?_
   rintro e w' ⟨v,g',rfl,h1,h2,h3⟩
   refine ⟨v,rfl,fun hf=>?_,v,rfl,sv,{ s' with base:=s.base },_,g',(h1.mono hm).based s.base,h2,SV.all_mono (fun b hb=>Atom.ok_mono hm (fun _ h=>h) hb) h3,hr'⟩
   have:=(hfr hf).1
   rw [hins] at this;cases this
  split at hrun
  ·rename_i sig hsig
   split at hrun
   case isFalse =>
    rename_i hce
    split at hrun
    case isFalse=>simp only [run] at hrun;cases hrun
    rename_i hbe
    split at hrun
    case h_2=>simp only [run] at hrun;cases hrun
    rename_i gs ins sv s' hsc
    obtain ⟨hg,hr'⟩:=Z71 hrun
    simp only [run] at hr'
    split at hr'
    case h_2=>cases hr'
    rename_i outs hK
    obtain ⟨cvs,hcvs⟩:∃cvs:List Value,cvs=caps.map fun c=>Value.pointer (some ⟨(g c.1).blk,c.2,none⟩):=⟨_,rfl⟩
    have hlen:s.cur.length=a.tmps.size:=by rw [h.cur.length,Yi]
    have hcl:cvs.length=caps.length:=by rw [hcvs,YF]
    have h2:R bd (·<s.base+64 * i) { s with cur:=s.cur++caps.map fun p=>.a (.ptr p.1 p.2) } r g ({ a with tmps:=a.tmps++cvs.toArray }:Act).tmps st w:=by
     refine h.slots (cur:=s.cur++caps.map fun p=>.a (.ptr p.1 p.2)) (stk:=s.stk) (st':=st) ?_ h.stk (fun v hv=>?_) h.nstk
     ·simp only [Array.toList_append]
      exact h.cur.app (by rw [hcvs];exact Za.ptrs caps)
     ·rcases Y6.1 hv with hv | hv
      ·exact h.ncur v hv
      ·obtain ⟨p,hp,rfl⟩:=Yo.1 hv
       exact hok p hp
    obtain ⟨hent,hcalls⟩:=hcall.2 gf sig _ _ _ gs ins sv s' outs bd _ r g { a with tmps:=a.tmps++cvs.toArray } st w hsig hsc h2 (fun _ h=>h) hg hK
    refine .call f args ts hop gf _ (by rw [hex];exact Z77 hent _ w) ?_
    have harr:(#[]++args.map a.eval++(caps.map fun c=>Value.pointer (some ⟨(g c.1).blk,c.2,none⟩)).toArray:Array Value)=((args.toList++(List.range caps.length).map fun j=>Operand.tmp (s.cur.length+j)).map ({ a with tmps:=a.tmps++cvs.toArray }:Act).eval).toArray:=by
     rw [←hcvs]
     apply Array.ext'
     simp only [YK,List.map_map,Array.toList_append,Array.toList_map,List.nil_append]
     congr 1
     ·refine Ys fun x hx=>?_
      have hb:=YG.1 hbe x hx
      cases x with
      | tmp t =>
       simp only [Z2u,Ye] at hb
       rw [hlen] at hb
       simp only [Act.eval]
       rw [Array.getD_eq_getD_getElem?,Array.getD_eq_getD_getElem?,Array.getElem?_append_left hb]
      | _=>rfl
     ·apply List.ext_getElem
      ·simp [hcl]
      ·intro j h3 h4
       simp only [List.getElem_map,List.getElem_range,Function.comp,Act.eval]
       have h3':j<cvs.length:=h3
       rw [Array.getD_eq_getD_getElem?,hlen,Array.getElem?_append_right (by omega),Nat.add_sub_cancel_left]
       simp [h3']
    rw [harr]
    refine hcalls.mono ?_
    rintro e w' ⟨v,g',rfl,h0,h1,h2,h3⟩
    have hm:∀j,j<s.base+64 * i+64→j<s.base+64 * (i+1):=fun j hj=>by omega
    have h1':R bd (·<s.base+64 * i+64) { s' with cur:=s'.cur.take s.cur.length } (Z2 r (s.base+64 * i) outs) g' a.tmps st w':=by
     refine h1.slots (cur:=s'.cur.take s.cur.length) (stk:=s'.stk) (st':=st) ?_ h1.stk (fun v hv=>h1.ncur v (List.mem_of_mem_take hv)) h1.nstk
     have:=h1.cur.take s.cur.length
     simp only [Array.toList_append] at this
     rw [show s.cur.length=a.tmps.toList.length by rw [hlen,Yi],List.take_left] at this
     rw [show s.cur.length=a.tmps.toList.length by rw [hlen,Yi]]
     exact this
    refine ⟨v,rfl,fun hf=>?_,v,rfl,sv,{ s' with cur:=s'.cur.take s.cur.length,base:=s.base },_,g',(h1'.mono hm).based s.base,h2,SV.all_mono (fun b hb=>Atom.ok_mono hm (fun _ h=>h) hb) h3,hr'⟩
    exfalso
    rcases Z7f hf with (⟨t,ho⟩ | ⟨t,v,ho⟩ | ⟨t,n,ps,ho⟩) | ⟨f',xs,ats,sg,ho,h0,h1,h2⟩
    ·rw [hop] at ho;cases ho
    ·rw [hop] at ho;cases ho
    ·rw [hop] at ho;cases ho
    ·rw [hop] at ho
     cases ho
     simp only [St.get,SV.a.injEq,Atom.clo.injEq] at hget
     obtain ⟨_,rfl⟩:=hget
     simp at hce
   rename_i hce
   have hce':caps=[]:=by simpa using hce
   subst hce'
   split at hrun
   case h_2=>simp only [run] at hrun;cases hrun
   rename_i gs ins sv s' hsc
   obtain ⟨hg,hr'⟩:=Z71 hrun
   simp only [run] at hr'
   split at hr'
   case h_2=>cases hr'
   rename_i outs hK
   obtain ⟨hent,hcalls⟩:=hcall.2 gf sig s _ _ gs ins sv s' outs bd _ r g a st w hsig hsc h (fun _ h=>h) hg hK
   refine .call f args ts hop gf (#[]++args.map a.eval++#[]) (by rw [hex];exact Z77 hent _ w) ?_
   have harr:(#[]++args.map a.eval++#[]:Array Value)=(args.toList.map a.eval).toArray:=by
    apply Array.ext';simp
   rw [harr]
   refine hcalls.mono ?_
   rintro e w' ⟨v,g',rfl,h0,h1,h2,h3⟩
   have hm:∀j,j<s.base+64 * i+64→j<s.base+64 * (i+1):=fun j hj=>by omega
   refine ⟨v,rfl,fun hf=>?_,v,rfl,sv,{ s' with base:=s.base },_,g',(h1.mono hm).based s.base,h2,SV.all_mono (fun b hb=>Atom.ok_mono hm (fun _ h=>h) hb) h3,hr'⟩
   obtain ⟨_,sg,e1,e2⟩:=hfr hf
   rw [hsig] at e1;cases e1
   exact h0 e2
  ·rename_i hsn
   have h':R bd (·<s.base+64 * (i+1)) (s.keepAt (Z2h rest++((rest.filterMap (·.guard)).filterMap fun gd=>(ops[gd.1]?).bind (·.dst))++(c.hint fn).liveOut rid) (s.base+64 * (i+1))) r g a.tmps st w:=((h.mono hm).keep _).based (s.base+64 * (i+1))
   obtain ⟨h1,h2⟩:=Za.get_ops h args.toList
   have hargs:Za w (Mt bd.Z s.heap g) g r (args.toList.map s.get++caps.map fun p=>.a (.ptr p.1 p.2)) (args.toList.map a.eval++caps.map fun c=>Value.pointer (some ⟨(g c.1).blk,c.2,none⟩)):=h1.app (Za.ptrs caps)
   have hall:∀v∈args.toList.map s.get++caps.map fun p=>.a (.ptr p.1 p.2),v.all (Atom.ok (·<s.base+64 * (i+1)) s.heap):=by
    intro v hv
    rcases Y6.1 hv with hv | hv
    ·exact SV.all_mono (fun b hb=>Atom.ok_mono hm (fun _ h=>h) hb) (h2 v hv)
    ·obtain ⟨p,hp,rfl⟩:=Yo.1 hv
     exact hok p hp
   obtain ⟨hent,hcalls⟩:=hinl gf _ (s.keepAt (Z2h rest++((rest.filterMap (·.guard)).filterMap fun gd=>(ops[gd.1]?).bind (·.dst))++(c.hint fn).liveOut rid) (s.base+64 * (i+1))) k bd r g a.tmps st w _ out h' hargs hall hkc hrun
   ·refine .call f args ts hop gf _ (by rw [hex];exact Z77 hent _ w) ?_
    have harr:(#[]++args.map a.eval++(caps.map fun c=>Value.pointer (some ⟨(g c.1).blk,c.2,none⟩)).toArray:Array Value)=(args.toList.map a.eval++caps.map fun c=>Value.pointer (some ⟨(g c.1).blk,c.2,none⟩)).toArray:=by
     apply Array.ext';simp
    rw [harr]
    refine hcalls.mono ?_
    rintro e w' ⟨v,sv,s',r',g',rfl,h1,h2,h3,h4⟩
    have hm:∀j,j<s'.base→j<s'.base+64 * (i+1):=fun j hj=>by omega
    refine ⟨v,rfl,fun hf=>?_,v,rfl,sv,s',r',g',h1.mono hm,h2,SV.all_mono (fun b hb=>Atom.ok_mono hm (fun _ h=>h) hb) h3,h4⟩
    obtain ⟨_,sg,e1,e2⟩:=hfr hf
    rw [hsn] at e1;cases e1
 ·rename_i hnc
  split at hrun
  ·split at hrun
   ·rename_i gs sv s' hs
    obtain ⟨hg,hr'⟩:=Z71 hrun
    unfold Z2t at hs
    split at hs
    case h_2=>cases hs
    rename_i x ho
    split at hs
    case h_2=>cases hs
    rename_i t e hx
    simp only [Y4,Y9] at hs
    obtain ⟨rfl,rfl,rfl⟩:=hs
    have h1:=h.solid x
    obtain ⟨hv,hn⟩:=Zu h1 hx
    have hne:=hg _ (Y1.2 rfl)
    have hex:∀w2,(execOp a.eval o).run c.P w2=.ok (.value (a.eval x)) w2:=fun w2=>by simp only [execOp,ho];rfl
    have hrep:Z9 w (Mt bd.Z (s.solid x).heap g) g r (.a (.x (.sl true t) (.o1 (.re false true t) e))) (a.eval x):=by
     obtain ⟨y,cp,a1,a2,a3,a4,a5⟩:=hv
     simp only [den,O1.d,Yr,List.isEmpty_eq_false_iff] at hne
     refine ⟨y,cp,a1,a2,fun _=>⟨fun hx=>?_,fun hx=>(hne hx).elim⟩,a4,a5⟩
     have h0:=a4 hx
     have hpos:=YJ.2 hne
     have a2':(den e r:List t.D).length≤cp:=a2
     omega
    have hp:Z7g K m bd st i k out a.tmps (a.eval x) w:=⟨_,{ s.solid x with base:=s.base },r,g,(h1.mono hm).based s.base,hrep,Atom.ok_mono hm (fun _ h=>h) hn,hr'⟩
    refine ⟨fun ld hld=>⟨_,fun w2 _=>hex w2,hp⟩,.val _ w (.inl (hex w)) ⟨fun hf=>?_,_,rfl,hp⟩⟩
    rcases Z7f hf with (⟨t,hx⟩ | ⟨t,v,hx⟩ | ⟨t,n,ps,hx⟩) | ⟨f,xs,ats,sg,hx,_⟩<;>(rw [ho] at hx;cases hx)
   split at hrun
   ·rename_i gs sv s' hs
    obtain ⟨hg,hr'⟩:=Z71 hrun
    have hsl:∃t x v,o.op=.store t x v:=by
     unfold Z1t at hs
     split at hs
     ·rename_i t x v ho;exact ⟨t,x,v,ho⟩
     ·cases hs
    obtain ⟨t,x,v0,ho⟩:=hsl
    refine ⟨fun ld hld=>by rw [ho] at hld;simp [Z2y] at hld,?_⟩
    obtain ⟨v,w',g',h1,h2,h3,h4⟩:=Z5R h o hs
    refine .val v w' h1 ⟨fun hf=>?_,v,rfl,sv,{ s' with base:=s.base },r,g',(h2.mono hm).based s.base,h3,SV.all_mono (fun b hb=>Atom.ok_mono hm (fun _ h=>h) hb) h4,hr'⟩
    rcases Z7f hf with (⟨t,hx⟩ | ⟨t,v,hx⟩ | ⟨t,n,ps,hx⟩) | ⟨f,xs,ats,sg,hx,_⟩<;>(rw [ho] at hx;cases hx)
   split at hrun
   ·rename_i gs sv s' hs
    obtain ⟨hg,hr'⟩:=Z71 hrun
    obtain ⟨⟨t,x,ho⟩,v,g',h1,h2,h3,h4⟩:=Z7e h o hs hg
    have hp:Z7g K m bd st i k out a.tmps v w:=⟨_,{ s' with base:=s.base },r,g',(h2.mono hm).based s.base,h3,SV.all_mono (fun b hb=>Atom.ok_mono hm (fun _ h=>h) hb) h4,hr'⟩
    refine ⟨fun ld hld=>⟨v,fun w2 hw2=>h1 w2 fun _=>hw2 (by rw [ho] at hld;simp only [Z2y,Y4] at hld;exact hld.symm),hp⟩,.val v w (.inl (h1 w fun _=>Ext.refl w)) ⟨fun hf=>?_,_,rfl,hp⟩⟩
    rcases Z7f hf with (⟨t,hx⟩ | ⟨t,v,hx⟩ | ⟨t,n,ps,hx⟩) | ⟨f,xs,ats,sg,hx,_⟩<;>(rw [ho] at hx;cases hx)
   split at hrun
   ·rename_i gs sv s' hs
    obtain ⟨hg,hr'⟩:=Z71 hrun
    have hsl:∃t x lo hi mx,o.op=.slice t x lo hi mx:=by
     unfold Z1j at hs
     split at hs
     ·rename_i t x lo hi ho;exact ⟨t,x,lo,hi,none,ho⟩
     ·cases hs
    obtain ⟨t,x,lo,hi,mx,ho⟩:=hsl
    refine ⟨fun ld hld=>by rw [ho] at hld;simp [Z2y] at hld,?_⟩
    obtain ⟨v,w',g',h1,h2,h3,h4⟩:=Z6a h o hs hg
    refine .val v w' h1 ⟨fun hf=>?_,v,rfl,sv,{ s' with base:=s.base },r,g',(h2.mono hm).based s.base,h3,SV.all_mono (fun b hb=>Atom.ok_mono hm (fun _ h=>h) hb) h4,hr'⟩
    rcases Z7f hf with (⟨t,hx⟩ | ⟨t,v,hx⟩ | ⟨t,n,ps,hx⟩) | ⟨f,xs,ats,sg,hx,_⟩<;>(rw [ho] at hx;cases hx)
   ·simp only [run] at hrun;cases hrun
  split at hrun
  ·rename_i hs
   exact plain (fun x xs ats hx=>hnc x xs ats hx) hs hrun
  ·simp only [run] at hrun;cases hrun
theorem Z7j (hcl:Z7a K m inl) {i:Nat} {o:Oper} {rest:List Oper} {k:SV→St→Tr} (hk:∀v s',ZC K m (k v s')) (s:St):ZC K m (Z2v c fn rid inl ops i o rest k s):=by
 unfold Z2v
 split
 ·split
  ·split
   ·split
    ·split
     ·exact ZC.guards (hk _ _)
     ·exact ZC.bad
    ·exact ZC.bad
   ·split
    ·split
     ·split
      ·exact ZC.guards (ZC.call (hk _ _))
      ·exact ZC.bad
     ·split
      ·split
       ·exact ZC.guards (ZC.call (hk _ _))
       ·exact ZC.bad
      ·exact ZC.bad
    ·exact hcl _ _ _ _ hk
  ·exact ZC.bad
 ·split
  ·split
   ·exact ZC.guards (hk _ _)
   ·split
    ·exact ZC.guards (hk _ _)
    ·split
     ·exact ZC.guards (hk _ _)
     ·split
      ·exact ZC.guards (hk _ _)
      ·exact ZC.bad
  ·split
   ·exact ZC.guards (hk _ _)
   ·exact ZC.bad
theorem Z7k (hcl:Z7a K m inl) {i:Nat} {o:Oper} {rest:List Oper} {k:St→Tr} (hk:∀s',ZC K m (k s')) (s:St):ZC K m (Z2w c fn rid inl ops i o rest k s):=by
 unfold Z2w
 split
 ·exact Z7j hcl (fun _ _=>hk _) _
 ·split
  ·exact ZC.bad
  ·split
   ·exact hk _
   ·split
    ·split
     ·exact Z7j hcl (fun _ _=>hk _) _
     ·exact hk _
    ·split
     ·exact ZC.ite (Z7j hcl (fun _ _=>hk _) _) (hk _)
     ·exact ZC.ite (hk _) (Z7j hcl (fun _ _=>hk _) _)
   ·exact ZC.bad
theorem Z7l (hcl:Z7a K m inl) {k:St→Tr} (hk:∀s',ZC K m (k s')):∀(l:List Oper) (i:Nat) (s:St),ZC K m (Z2x c fn rid inl ops k i l s)
 | [],i,s=>hk s
 | o::l,i,s=>Z7k hcl (fun s'=>Z7l hcl hk l (i+1) s') s
theorem Z7g.nx {a:Act} {o:Oper} {w':World} {i:Nat} {k:St→Tr} {out:Out} {v:Value} (h:Z7g K m bd st i (fun v s'=>k (s'.putD o.dst v)) out a.tmps v w'):Nx K m bd st a.defers (i+1) k out (a.put o.dst v) w':=by
 obtain ⟨sv,s,r,g,h2,h3,h4,h5⟩:=h
 refine ⟨put_defers a o.dst v,s.putD o.dst sv,r,g,?_,h5⟩
 ·have:=R.putD (d:=o.dst) h2 h3 h4
  cases hd:o.dst<;>simpa [St.putD,hd] using this
def Z7m (c:Cx) (ops:Array Oper) (a:Act) (o:Oper) (w:World) (Kp:Act→World→Prop):Prop :=
 (Region.wanted o (yielded ops a.tmps)=false∧Kp (a.put o.dst undef) w)∨(Region.wanted o (yielded ops a.tmps)=true∧Z7h c a o w fun v w'=>Kp (a.put o.dst v) w')
theorem Done.mono {a:Act} {o:Oper} {w:World} {K1 K2:Act→World→Prop} (h:Done c a o w K1) (hk:∀a w,K1 a w→K2 a w):Done c a o w K2:=by
 cases h with
 | val v w' h h1=>exact .val v w' h (hk _ _ h1)
 | call x xs ats ho f args h hc=>exact .call x xs ats ho f args h (hc.mono fun e w' ⟨v,he,h1⟩=>⟨v,he,hk _ _ h1⟩)
theorem Z7h.mono {a:Act} {o:Oper} {w:World} {K1 K2:Value→World→Prop} (h:Z7h c a o w K1) (hk:∀v w,K1 v w→K2 v w):Z7h c a o w K2 :=
 ⟨fun ld hld=>let ⟨v,h1,h2⟩:=h.1 ld hld;⟨v,h1,hk _ _ h2⟩,h.2.mono fun a' w' ⟨h1,v,h2,h3⟩=>⟨h1,v,h2,hk _ _ h3⟩⟩
theorem Z7n (hcall:Z7d c K) (hinl:Z79 c K m inl) {s:St} {r:Env} {g:Nat→G} {a:Act} {w:World} {i:Nat} {o:Oper} {rest:List Oper} {k:St→Tr} {out:Out}
  (hkc:∀s',ZC K m (k s')) (h:R bd (·<s.base+64 * i) s r g a.tmps st w) (hrun:run K m (Z2w c fn rid inl ops i o rest k s) r=some out) :
  Z7m c ops a o w (Nx K m bd st a.defers (i+1) k out):=by
 have go:∀{s:St},R bd (·<s.base+64 * i) s r g a.tmps st w→run K m (Z2v c fn rid inl ops i o rest (fun v s'=>k (s'.putD o.dst v)) s) r=some out→Z7h c a o w fun v w'=>Nx K m bd st a.defers (i+1) k out (a.put o.dst v) w' :=
  fun h hr=>(Z7i hcall hinl (fun _ _=>hkc _) h hr).mono fun v w' hp=>hp.nx
 have skip:∀{s:St},R bd (·<s.base+64 * i) s r g a.tmps st w→run K m (k (s.putD o.dst (.a .un))) r=some out→Nx K m bd st a.defers (i+1) k out (a.put o.dst undef) w:=by
  intro s h hr
  refine Z7g.nx (v:=undef) (k:=k) ⟨.a .un,s,r,g,h.mono fun j hj=>by omega,rfl,trivial,hr⟩
 unfold Z2w at hrun
 split at hrun
 ·rename_i hg
  exact .inr ⟨by simp [Region.wanted,hg],go h hrun⟩
 ·rename_i j want hg
  split at hrun
  ·simp only [run] at hrun;cases hrun
  ·rename_i t ht
   split at hrun
   ·rename_i hcur
    have hc:s.cur[t]?=some (.a .un):=by
     rw [Y8] at hcur
     cases hx:s.cur[t]? with
     | none=>rw [hx] at hcur;cases hcur
     | some y=>rw [hx] at hcur;simp at hcur;rw [hcur]
    obtain ⟨v,hv,hs⟩:=h.cur.get hc
    simp only [Z9,Z7] at hs
    subst hs
    refine .inl ⟨?_,skip h hrun⟩
    have hv':a.tmps[t]?=some undef:=by rw [←Array.getElem?_toList];exact hv
    simp [Region.wanted,hg,yielded,ht,hv',undef]
   ·rename_i e hcur
    have hc:s.cur[t]?=some (.a (.x .bool e)):=by
     rw [Y8] at hcur
     cases hx:s.cur[t]? with
     | none=>rw [hx] at hcur;cases hcur
     | some y=>rw [hx] at hcur;simp at hcur;rw [hcur]
    obtain ⟨v,hv,hs⟩:=h.cur.get hc
    have hvb:v=.bool (den e r):=Z3q (w:=w) (M:=Mt bd.Z s.heap g) (g:=g) hs
    have hv':a.tmps[t]?=some (.bool (den e r)):=by rw [←Array.getElem?_toList,hv,hvb]
    have hwant:Region.wanted o (yielded ops a.tmps)=(den e r==want):=by
     simp [Region.wanted,hg,yielded,ht,hv']
    split at hrun
    ·rename_i b hl
     have hd:=Z3E hl r
     split at hrun
     ·rename_i hbw
      exact .inr ⟨by rw [hwant,hd,hbw];simp,go h hrun⟩
     ·rename_i hbw
      exact .inl ⟨by rw [hwant,hd];simpa using hbw,skip h hrun⟩
    ·split at hrun
     ·rename_i hwt
      simp only [run] at hrun
      split at hrun
      ·rename_i hd
       exact .inr ⟨by rw [hwant,hd,hwt];rfl,go (s:=s.asm e true) (h.asm hd) hrun⟩
      ·rename_i hd
       have hd:den e r=false:=by simpa using hd
       exact .inl ⟨by rw [hwant,hd,hwt];rfl,skip (s:=s.asm e false) (h.asm hd) hrun⟩
     ·rename_i hwt
      have hwt:want=false:=by simpa using hwt
      simp only [run] at hrun
      split at hrun
      ·rename_i hd
       exact .inl ⟨by rw [hwant,hd,hwt];rfl,skip (s:=s.asm e true) (h.asm hd) hrun⟩
      ·rename_i hd
       have hd:den e r=false:=by simpa using hd
       exact .inr ⟨by rw [hwant,hd,hwt];rfl,go (s:=s.asm e false) (h.asm hd) hrun⟩
   ·simp only [run] at hrun;cases hrun
theorem Done.upon {Q:Exit→Act→World→Prop} {a:Act} {o:Oper} {w:World} {Kp:Act→World→Prop} (h:Done c a o w Kp):o.wp c.P a w Kp Q:=by
 unfold Oper.wp
 cases h with
 | val v w' h hk =>
  rcases h with h | ⟨h,rfl⟩
  ·rw [h];exact hk
  ·rw [h];exact hk
 | call x xs ats ho f args h hc =>
  rw [h]
  refine hc.mono ?_
  rintro e w' ⟨v,rfl,hk⟩
  exact hk
theorem Z7o (hcall:Z7d c K) (hinl:Z79 c K m inl) (hcl:Z7a K m inl) {k:St→Tr} (hkc:∀s',ZC K m (k s')) {Q:Exit→Act→World→Prop} {df:List Deferred} {out:Out} :
  ∀(l:List Oper) (i:Nat) (a:Act) (w:World),(∀a' w',Nx K m bd st df (i+l.length) k out a' w'→Q .normal a' w')→Nx K m bd st df i (Z2x c fn rid inl ops k i l) out a w→wpList c.P ops Q l a w
 | [],i,a,w,hQ,h=>hQ a w h
 | o::l,i,a,w,hQ,h=>by
  obtain ⟨hdf,s,r,g,hR,hrun⟩:=h
  have hs:=Z7n hcall hinl (fun s'=>Z7l hcl hkc l (i+1) s') hR hrun
  rw [hdf] at hs
  have ih:=fun a' w' h'=>Z7o hcall hinl hcl hkc l (i+1) a' w' (fun a' w' h'=>hQ a' w' (by rw [YA,←Nat.add_assoc,Nat.add_right_comm];exact h')) h'
  unfold wpList
  rcases hs with ⟨hw,hk⟩ | ⟨hw,-,hd⟩
  ·simp only [hw,Yg,if_false]
   exact ih _ _ hk
  ·simp only [hw,if_true]
   refine .inl (Done.upon (hd.mono ?_))
   rintro a' w' ⟨-,v,rfl,hk⟩
   exact ih _ _ hk
theorem Z7p (hcall:Z7d c K) (hinl:Z79 c K m inl) (hcl:Z7a K m inl) {k:St→Tr} (hkc:∀s',ZC K m (k s')) {Q:Exit→Act→World→Prop} (hQp:∀ch a w,¬Q (.panic ch) a w) {df:List Deferred} {out:Out}
  (hsel:Region.noSelect ops=true) {t:List (List Nat)} (ht:Z2C ops t=true) :
  ∀(n i:Nat) (listed:Array Bool) (l:List Oper) (a:Act) (w:World),Z2E c ops t n listed=some l→Z6M ops listed→(∀a' w',Nx K m bd st df (i+l.length) k out a' w'→Q .normal a' w') →
   Nx K m bd st df i (Z2x c fn rid inl ops k i l) out a w→Z6K c.P ops Q (fun j=>match ops[j]? with | some oj=>Z2A c oj | none=>false) n listed a w
 | 0,i,listed,l,a,w,ho,hc,hQ,h=>by
  unfold Z2E at ho
  split at ho
  case isFalse=>cases ho
  rename_i he
  cases ho
  exact ⟨by simpa using he,hQ a w h⟩
 | n+1,i,listed,l,a,w,ho,hc,hQ,h=>by
  unfold Z2E at ho
  split at ho
  case h_2=>cases ho
  rename_i j hfind
  have hj:=List.find?_some hfind
  have hmem:=List.mem_of_find?_eq_some hfind
  split at ho
  case h_2=>cases ho
  rename_i o hoj
  rw [hoj] at hj
  simp only at hj
  obtain ⟨l',hl',rfl⟩:=Ya.1 ho
  obtain ⟨hdf,s,r,g,hR,hrun⟩:=h
  have hs:=Z7n hcall hinl (fun s'=>Z7l hcl hkc l' (i+1) s') hR hrun
  rw [hdf] at hs
  have ih:=fun a' w' h'=>Z7p hcall hinl hcl hkc hQp hsel ht n (i+1) _ l' a' w' hl' (hc.set hmem) (fun a' w' h'=>hQ a' w' (by rw [YA,←Nat.add_assoc,Nat.add_right_comm];exact h')) h'
  unfold Z2D at hj
  split at hj
  ·rename_i ld hld
   simp only [Y5,YL,Yr] at hj
   obtain ⟨hfree,hlate⟩:=hj
   have hlate':ld=true→∀listed',Z6M ops listed'→(∀k,listed.getD k true=true→listed'.getD k true=true)→listed'.getD j true=false→∀x∈Region.ready .any ops listed',(match ops[x]? with | some oj=>Z2A c oj | none=>false)=false:=by
    intro hl listed' hc' hsub hun x hx
    rcases hlate with hlate | hlate
    ·rw [hl] at hlate;cases hlate
    obtain ⟨hxun,ox,hox,hxall⟩:=mem_ready.1 hx
    have hxs:x<ops.size:=(Array.getElem?_eq_some_iff.1 hox).1
    simp only [YG,List.mem_range,YL] at hlate
    have h0:=hlate x hxs
    simp only [hox] at h0 ⊢
    rcases h0 with h1 | h1
    ·rw [hsub x h1] at hxun;cases hxun
    ·rcases YL ..▸h1 with h1 | h1
     ·simpa using h1
     ·have:=Z6P ht hc' (x+1) x (by omega) hxs (fun oj hoj e he hb=>by rw [hox] at hoj;cases hoj;exact hxall e he hb) j (by simpa using h1)
      rw [Z6Q hun] at this;cases this
   rcases hs with ⟨hw,hk⟩ | ⟨hw,hp,-⟩
   ·exact Z6N hoj (Region.noSelect_spec hsel) hQp n listed a w (Region.free_spec hoj hfree) hc hlate' hmem (.inr ⟨hw,rfl⟩) (ih _ _ hk)
   ·obtain ⟨v,h1,h2⟩:=hp ld hld
    exact Z6N hoj (Region.noSelect_spec hsel) hQp n listed a w (Region.free_spec hoj hfree) hc hlate' hmem (.inl ⟨hw,h1⟩) (ih _ _ h2)
  ·rename_i hnone
   have hr:Region.ready .any ops listed=[j]:=by simpa using hj
   refine Z6O hr ?_
   unfold wpOp
   simp only [hoj]
   rcases hs with ⟨hw,hk⟩ | ⟨hw,-,hd⟩
   ·simp only [hw,Yg,if_false]
    exact ⟨fun _=>Ext.refl w,ih _ _ hk⟩
   ·simp only [hw,if_true]
    refine .inl (Done.upon (hd.mono ?_))
    rintro a' w' ⟨hf,v,rfl,hk⟩
    refine ⟨fun hl=>hf ?_,ih _ _ hk⟩
    simp only [Z2A,hnone,Option.isNone_none,Bool.true_and,Bool.not_eq_false'] at hl
    exact hl
end
end Go.Sm
