/- A machine over symbols for loaded functions, and that it tells the truth; no condition. -/
import Derived.Test.YtdgpohclhppodaaGreatSmLib2
set_option linter.unusedSimpArgs false
set_option linter.unusedVariables false
namespace Go.Sm
def Z7q (w:World) (o:Option Nat) (n:Nat) (ys:List Value) (e:Ending) (w':World):Prop :=
 ∃v' o',e=.returned v'∧Z5 w' v' o' 1 (n+1) ys∧(o'=o∨o'=some w.heap.size)∧(o'=some w.heap.size→w.heap.size<w'.heap.size) ∧
  (∀b,b<w.heap.size→some b≠o→w'.heap[b]?=w.heap[b]?)∧w.heap.size≤w'.heap.size∧w'.os=w.os∧w'.tape=w.tape∧w'.output=w.output
def Z7r (P:Program) (f:FuncId):Prop:=Enters P f ∧
 ∀(w:World) (v:Value) (o:Option Nat) (n k vb voff vc:Nat) (xs:List Value) (cu2:Array Value) (ety2:TypeId) (u:Value),Z5 w v o 1 n xs→k≤n→(n:Int)≤lim→o≠some vb →
  w.heap[vb]?=some (.cells cu2 ety2 (0,0))→cu2[voff]?=some u→(∀x∈xs,x.oneCell'=true)→u.oneCell'=true →
  Calls P f #[v,.int .i64 k,.slice (some ⟨vb,voff,none⟩) 1 vc] w (Z7q w o n (xs.take k++[u]++xs.drop k))
theorem Z7s {P:Program} {f:FuncId} (hrun:∀(w:World) (v:Value) (o:Option Nat) (n k vb voff vc:Nat) (xs:List Value) (cu2:Array Value) (ety2:TypeId) (u:Value),Z5 w v o 1 n xs→k≤n→(n:Int)≤lim→o≠some vb →
  w.heap[vb]?=some (.cells cu2 ety2 (0,0))→cu2[voff]?=some u→(∀x∈xs,x.oneCell'=true)→u.oneCell'=true →
  Calls P f #[v,.int .i64 k,.slice (some ⟨vb,voff,none⟩) 1 vc] w (Z7q w o n (xs.take k++[u]++xs.drop k)))
  {bd:Bd} {N:Nat→Prop} {s s':St} {r:Env} {g:Nat→G} {a:Act} {st:List (Array Value)} {w:World} (h:R bd N s r g a.tmps st w) {dp:Bool} {id:Nat} {ty:Ty} {i j:Nat} {k:E (.int .i64)} {x n y:Operand} {gs:List (E .bool)} {sv:SV}
  (hs:Z2j dp s id ty i j k=some (gs,sv,s')) (hg:∀c∈gs,den c r=true) (hxv:a.eval x=(g i).val) (hyv:a.eval y=(g j).val) (hnv:a.eval n=.int .i64 (den k r)) (hnn:k.vs N) :
  Calls P f #[a.eval x,a.eval n,a.eval y] w fun e w'=>∃v g',e=.returned v∧R bd N s' r g' a.tmps st w'∧Z9 w' (Mt bd.Z s'.heap g') g' r sv v∧sv.all (Atom.ok N s'.heap):=by
 unfold Z2j at hs
 split at hs
 case h_2=>cases hs
 rename_i d1 ty1 e1 d2 ty2 e2 hi hj
 split at hs
 case isFalse=>cases hs
 rename_i hd
 obtain ⟨rfl,rfl⟩:=hd
 split at hs
 case isFalse=>cases hs
 rename_i h1
 subst h1
 split at hs
 case isFalse=>cases hs
 rename_i h2
 subst h2
 split at hs
 case isFalse=>cases hs
 rename_i hc
 obtain ⟨hij,hsz,hfree⟩:=hc
 simp only [Y4,Y9] at hs
 obtain ⟨rfl,rfl,rfl⟩:=hs
 obtain ⟨hid,hnp⟩:=free_eq hfree
 have g0:(0:Int)≤den k r:=Zw.1 (hg (gLe (eI .i64 0) k) (by simp))
 have g1:(den k r:Int)≤((den e1 r:List ty2.D).length:Int):=Zw.1 (hg (gLe k (Zh e1)) (by simp))
 have g2:((den e1 r:List ty2.D).length:Int)≤lim:=Zw.1 (hg (gLe (Zh e1) (eI .i64 lim)) (by simp))
 have g3:(den e2 r:List ty2.D).length=1:=by
  have:=hg (.o2 (.cm .eql .i64 .i64) (Zh e2) (eI .i64 1)) (by simp)
  simp only [den,O2.d,O1.d,cmI,Zh,eI,beq_iff_eq] at this
  exact Int.ofNat_inj.1 this
 obtain ⟨o1,xs,Fs,b1,b2,b3⟩:=Zy.1 (h.heap i _ hi)
 obtain ⟨o2,us,Gs,c1,c2,c3⟩:=Zy.1 (h.heap j _ hj)
 rw [hsz] at b1 c1
 obtain ⟨kk,hkk⟩:∃kk:Nat,(den k r:Int)=kk:=⟨Int.toNat (den k r),(Int.toNat_of_nonneg g0).symm⟩
 have hkn:kk≤(den e1 r:List ty2.D).length:=by rw [hkk] at g1;exact Int.ofNat_le.1 g1
 have hc1:=c1
 rw [g3] at hc1
 obtain ⟨hul,hrest⟩:=hc1
 have hul:us.length=1:=by simpa using hul
 obtain ⟨u,rfl⟩:=List.length_eq_one_iff.1 hul
 rcases hrest with ⟨_,_,h0,_⟩ | ⟨vb,voff,vc,cu2,ety2,ho2,hval,hcells,_,_,_,htk⟩
 ·cases h0
 have hu:cu2[voff]?=some u:=by
  have h3:((cu2.toList.drop voff).take (1 * 1))[0]?=some u:=by rw [htk];rfl
  rw [List.getElem?_take_of_lt (by omega),YB] at h3
  simpa using h3
 have hne:o1≠some vb:=by
  intro h3
  have m1:vb∈(g i).foot:=by rw [b2,h3];simp
  have m2:vb∈(g j).foot:=by rw [c2,ho2];simp
  exact hij (h.inj i j _ _ vb hi hj m1 m2)
 have hcalls:=hrun w (a.eval x) o1 _ kk vb voff vc xs cu2 ety2 u (by rw [hxv];exact b1) hkn g2 hne hcells hu b3.ones (c3.ones u (by simp))
 rw [hnv,hyv,hval,hkk]
 refine hcalls.mono ?_
 rintro e w' ⟨v',o',rfl,hown',ho',hfresh,hsame,hsize,hos,htp,hout⟩
 have hden:(den (.o2 (.app ty2) (.o2 (.app ty2) (.o2 (.take ty2 .i64) e1 k) e2) (.o2 (.drop ty2 .i64) e1 k)) r:List ty2.D)=(den e1 r:List ty2.D).take kk++(den e2 r:List ty2.D)++(den e1 r:List ty2.D).drop kk:=by
  simp only [den,O2.d,hkk,Yv]
 have hrws:Rws w (Mt bd.Z s.heap g) d2 ty2 Zz (Fs.take kk++Gs++Fs.drop kk) ((den e1 r:List ty2.D).take kk++(den e2 r:List ty2.D)++(den e1 r:List ty2.D).drop kk) (xs.take kk++[u]++xs.drop kk):=by
  have t1:=b3.take kk
  have t2:=b3.drop kk
  rw [hsz,Nat.mul_one] at t1 t2
  exact (t1.append c3).append t2
 have hlen:((den e1 r:List ty2.D).take kk++(den e2 r:List ty2.D)++(den e1 r:List ty2.D).drop kk).length=(den e1 r:List ty2.D).length+1:=by
  simp only [Y7,Yb,Yq,g3]
  omega
 have hnd:=h.nodup i _ hi
 rw [b2] at hnd
 obtain ⟨n1,n2,n3⟩:=Yp.1 hnd
 have hnd2:=h.nodup j _ hj
 rw [c2] at hnd2
 obtain ⟨-,m2,-⟩:=Yp.1 hnd2
 have hGi:∀b∈Gs.flatten,b∉(g i).foot:=fun b hb hbi=>hij (h.inj i j _ _ b hi hj hbi (by rw [c2];exact Y0 _ hb))
 have hFsub:(Fs.take kk).flatten++(Fs.drop kk).flatten=Fs.flatten:=by rw [←List.flatten_append,List.take_append_drop]
 have hflat:(Fs.take kk++Gs++Fs.drop kk).flatten=(Fs.take kk).flatten++Gs.flatten++(Fs.drop kk).flatten:=by simp
 have hmem:∀b,b∈(Fs.take kk++Gs++Fs.drop kk).flatten→b∈Fs.flatten∨b∈Gs.flatten:=by
  intro b hb
  rw [hflat] at hb
  rcases Y6.1 hb with hb | hb
  ·rcases Y6.1 hb with hb | hb
   ·exact .inl (by rw [←hFsub];exact Y3 _ hb)
   ·exact .inr hb
  ·exact .inl (by rw [←hFsub];exact Y0 _ hb)
 have hFnd:(Fs.take kk++Gs++Fs.drop kk).flatten.Nodup:=by
  rw [hflat]
  have hp:((Fs.take kk).flatten++Gs.flatten++(Fs.drop kk).flatten).Perm (Gs.flatten++Fs.flatten):=by
   rw [←hFsub,←Ym]
   exact (List.perm_append_comm).append_right _
  rw [hp.nodup_iff]
  refine Yp.2 ⟨m2,n2,?_⟩
  rintro b hb c hc rfl
  exact hGi b hb (by rw [b2];exact Y0 _ hc)
 have hlt:∀b∈(Fs.take kk++Gs++Fs.drop kk).flatten,b<w.heap.size∧some b≠o1:=by
  intro b hb
  rcases hmem b hb with hb | hb
  ·exact ⟨h.lt i _ hi b (by rw [b2];exact Y0 _ hb),fun hh=>n3 b (by rw [←hh];simp) b hb rfl⟩
  ·exact ⟨h.lt j _ hj b (by rw [c2];exact Y0 _ hb),fun hh=>hGi b hb (by rw [b2,←hh];simp)⟩
 have hK:∀q,q∈(bif d2 then [i,j] else [i])→q=i∨q=j:=by
  intro q hq
  cases d2<;>simp at hq<;>omega
 have hiK:i∈(bif d2 then [i,j] else [i]):=by cases d2<;>simp
 have hGK:∀b∈Gs.flatten,j∈(bif d2 then [i,j] else [i]):=by
  intro b hb
  cases d2 with
  | true=>simp
  | false=>rw [Z4S c3] at hb;cases hb
 have hmade:=h.made (w':=w') (bif d2 then [i,j] else [i]) id (.arr d2 ty2 (.o2 (.app ty2) (.o2 (.app ty2) (.o2 (.take ty2 .i64) e1 k) e2) (.o2 (.drop ty2 .i64) e1 k))) ⟨0,v',o'.toList++(Fs.take kk++Gs++Fs.drop kk).flatten⟩ hid hnp (fun q hq l hl=>by
   rcases hK q hq with rfl | rfl
   ·rw [hi] at hl;cases hl
   ·rw [hj] at hl;cases hl) (fun b hb hnot=>hsame b hb fun h3=>hnot i _ hiK hi (by rw [b2,←h3];simp)) ?_ ⟨⟨⟨h.nheap i _ hi,hnn⟩,h.nheap j _ hj⟩,h.nheap i _ hi,hnn⟩ ?_ ?_ hsize hos htp hout
 ·refine ⟨v',_,rfl,hmade,by simp [Z9,Z7],by simp [SV.all,Atom.ok,St.new,upd]⟩
 ·intro M' hk _ _ _
  simp only [Zc]
  rw [hden]
  refine Zy.2 ⟨o',_,_,?_,by simp,hrws.keep hk fun b hb=>hsame b (hlt b hb).1 (hlt b hb).2⟩
  simp only [if_true]
  rw [hlen,hsz]
  exact hown'
 ·refine Yp.2 ⟨by cases o'<;>simp,hFnd,?_⟩
  rintro b hb c hc rfl
  simp only [Option.mem_toList] at hb
  obtain ⟨q1,q2⟩:=hlt b hc
  rcases ho' with h3 | h3
  ·exact q2 (by rw [←h3,hb])
  ·rw [h3] at hb
   simp only [Y4] at hb
   omega
 ·intro b hb
  rcases Y6.1 hb with hb | hb
  ·simp only [Option.mem_toList] at hb
   rcases ho' with h3 | h3
   ·right
    exact ⟨i,_,hiK,hi,by rw [b2,←h3,hb];simp⟩
   ·rw [h3] at hb
    simp only [Y4] at hb
    subst hb
    exact .inl ⟨Yh _,hfresh h3⟩
  ·rcases hmem b hb with hb | hb
   ·exact .inr ⟨i,_,hiK,hi,by rw [b2];exact Y0 _ hb⟩
   ·exact .inr ⟨j,_,hGK b hb,hj,by rw [c2];exact Y0 _ hb⟩
theorem Z7t {P:Program} {f:FuncId} (hrun:Z7r P f) {s:St} {id:Nat} {ty:Ty} {x n y:Operand} {gs:List (E .bool)} {sv:SV} {s':St} {bd:Bd} {N:Nat→Prop} {r:Env} {g:Nat→G} {a:Act} {st:List (Array Value)} {w:World}
  (hs:Z2k s id ty x n y=some (gs,sv,s')) (h:R bd N s r g a.tmps st w) (hg:∀e∈gs,den e r=true) :
  Enters P f∧Calls P f #[a.eval x,a.eval n,a.eval y] w fun e w'=>∃v g',e=.returned v∧R bd N s' r g' a.tmps st w'∧Z9 w' (Mt bd.Z s'.heap g') g' r sv v∧sv.all (Atom.ok N s'.heap):=by
 obtain ⟨hent,hrun⟩:=hrun
 refine ⟨hent,?_⟩
 unfold Z2k at hs
 split at hs
 case h_2=>cases hs
 rename_i i k j hx hn hy
 obtain ⟨hxv,hxn⟩:=Z3o h x
 rw [hx] at hxv hxn
 obtain ⟨hyv,hyn⟩:=Z3o h y
 rw [hy] at hyv hyn
 obtain ⟨hnv,hnn⟩:=Zu h hn
 have hnv:=Z3p hnv
 simp only [Z7] at hxv hyv
 split at hs
 ·rename_i q hq
  cases hs
  exact Z7s hrun h hq hg hxv hyv hnv hnn
 ·obtain ⟨g',hgg,h'⟩:=h.shallow j
  rw [←(hgg i).1] at hxv
  rw [←(hgg j).1] at hyv
  exact Z7s hrun h' hs hg hxv hyv hnv hnn
theorem Rws.ints {w:World} {M:Nat→Prop} {Fs:List (List Nat)} {ds:List Int} {xs:List Value} (h:Rws w M false (.int .i64) Zz Fs ds xs):xs=ds.map (Value.int .i64):=by
 have hl:xs.length=ds.length:=h.lx.trans (Nat.mul_one _)
 apply List.ext_getElem
 ·rw [hl,YF]
 ·intro i h1 h2
  have hi:i<ds.length:=by omega
  obtain ⟨us,a1,a2,a3⟩:=h.row i hi
  have a4:us=[.int .i64 ds[i]]:=a3.2
  have a5:=a2 0 (.int .i64 ds[i]) (by rw [a4];rfl)
  have a5:xs[i]?=some (.int .i64 ds[i]):=by simpa [Ty.size] using a5
  rw [List.getElem?_eq_getElem h1] at a5
  rw [List.getElem_map]
  exact Option.some.inj a5
theorem Rws.of_ints {w:World} {M:Nat→Prop} (ds:List Int):Rws w M false (.int .i64) Zz (List.replicate ds.length []) ds (ds.map (Value.int .i64)):=by
 refine ⟨by simp,by rw [YF];exact (Nat.mul_one _).symm,fun i hi=>⟨[.int .i64 ds[i]],rfl,fun j u hu=>?_,?_⟩⟩
 ·cases j with
  | zero =>
   simp only [List.getElem?_cons_zero,Y4] at hu
   subst hu
   simp [Ty.size,hi]
  | succ j=>simp at hu
 ·refine ⟨?_,rfl⟩
  rw [Y8]
  cases hx:(List.replicate ds.length ([]:List Nat))[i]? with
  | none=>rfl
  | some y => 
   have:=YD hx
   exact (List.mem_replicate.1 this).2
def Z7u (w:World) (sz n:Nat) (ys:List Value) (e:Ending) (w':World):Prop :=
 ∃v' o',e=.returned v'∧Z5 w' v' o' sz n ys∧(∀b,o'=some b→w.heap.size≤b∧b<w'.heap.size)∧(∀b,b<w.heap.size→w'.heap[b]?=w.heap[b]?)∧w.heap.size≤w'.heap.size∧w'.os=w.os∧w'.tape=w.tape∧w'.output=w.output
def Z7v (w:World) (o:Option Nat) (w':World):Prop :=
 (∀b,b<w.heap.size→some b≠o→w'.heap[b]?=w.heap[b]?)∧w.heap.size≤w'.heap.size∧w'.os=w.os∧w'.tape=w.tape∧w'.output=w.output
def Z7w (P:Program) (f:FuncId):Prop:=Enters P f ∧
 ∀(w:World) (x:Option Addr) (c:Nat) (zs:List Int),(∀p,x=some p→zs≠[]→p.spot=none∧∀j u,(zs.map (Value.int .i64))[j]?=some u→cell w p.block (p.off+j)=some u)→(x=none→zs.length=0)→(zs.length:Int)≤lim →
  Calls P f #[.slice x zs.length c] w (Z7u w 1 zs.length (zs.map (Value.int .i64)))
def Z7x (P:Program) (f:FuncId) (sz:Nat):Prop:=Enters P f ∧
 ∀(w:World) (n:Nat),(n:Int)≤lim→Calls P f #[.slice none 0 0,.int .i64 n] w (Z7u w sz 0 [])
def Z7y (P:Program) (f:FuncId):Prop:=Enters P f ∧
 ∀(w:World) (v:Value) (o:Option Nat) (zs:List Int),Z5 w v o 1 zs.length (zs.map (Value.int .i64))→(zs.length:Int)≤lim →
  Calls P f #[v] w fun e w'=>e=.returned (.tuple #[])∧Z5 w' v o 1 (Z02 zs).length ((Z02 zs).map (Value.int .i64))∧Z7v w o w'
def Z7z (P:Program) (f:FuncId):Prop:=Enters P f ∧
 ∀(w:World) (v:Value) (o:Option Nat) (zs:List Int),Z5 w v o 1 zs.length (zs.map (Value.int .i64))→(zs.length:Int)≤lim →
  Calls P f #[v] w fun e w'=>∃v',e=.returned v'∧Z5 w' v' o 1 (Z03 zs).length ((Z03 zs).map (Value.int .i64))∧Z7v w o w'
def Z7A (P:Program) (f:FuncId):Ty→Prop
 | .bool=>Z7y P f
 | .int .i64=>Z7z P f
 | .str=>Z7w P f
 | .pr u .bool=>Z7x P f u.size
 | .sl _ _=>Z7r P f
 | _=>True
section
variable {P:Program} {f:FuncId} {s s':St} {id:Nat} {gs:List (E .bool)} {sv:SV} {bd:Bd} {N:Nat→Prop} {r:Env} {g:Nat→G} {a:Act} {st:List (Array Value)} {w:World}
theorem Z7B (h:R bd N s r g a.tmps st w) (hf:free s id=true) {dp:Bool} {t:Ty} {e:E (.sl false t)} (he:e.vs N) {args:Array Value} {Fs:List (List Nat)} {ys:List Value} (hF:Fs.flatten=[])
  (hr:∀(w':World) (M':Nat→Prop),Kept w (Mt bd.Z s.heap g) w' M'→Rws w' M' dp t Zz Fs (den e r) ys) (hc:Calls P f args w (Z7u w t.size (den e r:List t.D).length ys)) :
  Calls P f args w fun e1 w'=>∃v g',e1=.returned v∧R bd N ((s.kills []).new id (.arr dp t e)) r g' a.tmps st w'∧Z9 w' (Mt bd.Z ((s.kills []).new id (.arr dp t e)).heap g') g' r (.a (.ref id)) v∧SV.all (Atom.ok N ((s.kills []).new id (.arr dp t e)).heap) (.a (.ref id)):=by
 obtain ⟨hid,hnp⟩:=free_eq hf
 refine hc.mono ?_
 rintro e1 w' ⟨v',o',rfl,hown,hfresh,hsame,hsz,hos,htp,hout⟩
 have hmade:=h.made (w':=w') [] id (.arr dp t e) ⟨0,v',o'.toList++Fs.flatten⟩ hid hnp (by simp) (fun b hb _=>hsame b hb) ?_ he ?_ ?_ hsz hos htp hout
 ·exact ⟨v',_,rfl,hmade,by simp [Z9,Z7],by simp [SV.all,Atom.ok,St.new,upd]⟩
 ·intro M' hk _ _ _
  simp only [Zc]
  exact Zy.2 ⟨o',_,_,by simp only [if_true];exact hown,by simp,hr w' M' hk⟩
 ·rw [hF,Yx];cases o'<;>simp
 ·intro b hb
  rw [hF,Yx] at hb
  exact .inl (hfresh b (by simpa using hb))
theorem Z7C (hrun:Z7w P f) {x:Operand} (hs:Z2n s id x=some (gs,sv,s')) (h:R bd N s r g a.tmps st w) (hg:∀e∈gs,den e r=true) :
  Enters P f∧Calls P f #[a.eval x] w fun e w'=>∃v g',e=.returned v∧R bd N s' r g' a.tmps st w'∧Z9 w' (Mt bd.Z s'.heap g') g' r sv v∧sv.all (Atom.ok N s'.heap):=by
 obtain ⟨hent,hrun⟩:=hrun
 refine ⟨hent,?_⟩
 unfold Z2n at hs
 split at hs
 case h_2=>cases hs
 rename_i e mv hsrc
 split at hs
 case isFalse=>cases hs
 rename_i hf
 simp only [Y4,Y9] at hs
 obtain ⟨rfl,rfl,rfl⟩:=hs
 obtain ⟨hxv,hxn⟩:=Z3o h x
 obtain ⟨he,Fs,xs,⟨p,c,hv,hp,h0,hr⟩,-⟩:=Z4U h hsrc hxv hxn
 have hxs:=Rws.ints hr
 have g1:((den e r:List Int).length:Int)≤lim:=Zw.1 (hg (gLe (Zh e) (eI .i64 lim)) (by simp))
 rw [hv]
 refine Z7B h hf he (Z4R (den e r:List Int).length) (fun w' M' _=>Rws.of_ints (den e r)) ?_
 refine hrun w p c (den e r) (fun q hq hne=>?_) h0 g1
 obtain ⟨b1,b2⟩:=hp q hq (by rw [hxs];intro h;exact hne (List.map_eq_nil_iff.1 h))
 rw [hxs] at b2
 exact ⟨b1,b2⟩
theorem Z7D {u:Ty} (hrun:Z7x P f u.size) {x n:Operand} (hs:Z2o s id u x n=some (gs,sv,s')) (h:R bd N s r g a.tmps st w) (hg:∀e∈gs,den e r=true) :
  Enters P f∧Calls P f #[a.eval x,a.eval n] w fun e w'=>∃v g',e=.returned v∧R bd N s' r g' a.tmps st w'∧Z9 w' (Mt bd.Z s'.heap g') g' r sv v∧sv.all (Atom.ok N s'.heap):=by
 obtain ⟨hent,hrun⟩:=hrun
 refine ⟨hent,?_⟩
 unfold Z2o at hs
 split at hs
 case h_2=>cases hs
 rename_i k hx hn
 split at hs
 case isFalse=>cases hs
 rename_i hf
 simp only [Y4,Y9] at hs
 obtain ⟨rfl,rfl,rfl⟩:=hs
 obtain ⟨hxv,hxn⟩:=Z3o h x
 rw [hx] at hxv
 simp only [Z7] at hxv
 obtain ⟨hnv,hnn⟩:=Zu h hn
 have hnv:=Z3p hnv
 have g0:(0:Int)≤den k r:=Zw.1 (hg (gLe (eI .i64 0) k) (by simp))
 have g1:(den k r:Int)≤lim:=Zw.1 (hg (gLe k (eI .i64 lim)) (by simp))
 obtain ⟨kk,hkk⟩:∃kk:Nat,(den k r:Int)=kk:=⟨Int.toNat (den k r),(Int.toNat_of_nonneg g0).symm⟩
 rw [hxv,hnv,hkk]
 exact Z7B h hf (e:=.nil false u) trivial (Fs:=[]) rfl (fun w' M' _=>Rws.nil) (hrun w kk (by rw [←hkk];exact g1))
theorem Z7E (hrun:Z7y P f) {x:Operand} (hs:Z2l s x=some (gs,sv,s')) (h:R bd N s r g a.tmps st w) (hg:∀e∈gs,den e r=true) :
  Enters P f∧Calls P f #[a.eval x] w fun e w'=>∃v g',e=.returned v∧R bd N s' r g' a.tmps st w'∧Z9 w' (Mt bd.Z s'.heap g') g' r sv v∧sv.all (Atom.ok N s'.heap):=by
 obtain ⟨hent,hrun⟩:=hrun
 refine ⟨hent,?_⟩
 unfold Z2l at hs
 split at hs
 case h_2=>cases hs
 rename_i i hx
 split at hs
 case h_2=>cases hs
 rename_i e hi
 simp only [Y4,Y9] at hs
 obtain ⟨rfl,rfl,rfl⟩:=hs
 obtain ⟨hxv,hxn⟩:=Z3o h x
 rw [hx] at hxv
 simp only [Z7] at hxv
 have g1:((den e r:List Int).length:Int)≤lim:=Zw.1 (hg (gLe (Zh e) (eI .i64 lim)) (by simp))
 obtain ⟨o,xs,Fs,b1,b2,b3⟩:=Zy.1 (h.heap i _ hi)
 have hxs:=Rws.ints b3
 have hF:=Z4S b3
 rw [hF,Yx] at b2
 rw [hxs] at b1
 rw [hxv]
 refine (hrun w (g i).val o (den e r) b1 g1).mono ?_
 rintro e1 w' ⟨rfl,hown,hsame,hsz,hos,htp,hout⟩
 have hpoke:=h.poked (w':=w') [] i _ (.arr false (.int .i64) (.o1 (.hnd 0) e)) (g i) hi (by simp) rfl rfl (by simp) (fun b hb hnb _=>hsame b hb fun hh=>hnb (by rw [b2,←hh];simp)) ?_ (h.nheap i _ hi) (h.nodup i _ hi) (fun b hb=>.inr (.inl hb)) ?_ hsz hos htp hout
 ·exact ⟨_,_,rfl,hpoke,⟨_,rfl,trivial⟩,by simp [SV.all]⟩
 ·intro M' hk _
  simp only [Zc,if_true]
  refine Zy.2 ⟨o,_,_,?_,by rw [b2,Z4R,Yx],Rws.of_ints (Z02 (den e r))⟩
  exact hown
 ·intro c hc hci
  obtain ⟨_,l,hl⟩:=h.kpl c (by rw [←h.kp] at hc;rw [h.kp] at hc;exact hc)
  rw [hci,hi] at hl;cases hl
theorem Z7F (hrun:Z7z P f) {x:Operand} (hs:Z2m s id x=some (gs,sv,s')) (h:R bd N s r g a.tmps st w) (hg:∀e∈gs,den e r=true) :
  Enters P f∧Calls P f #[a.eval x] w fun e w'=>∃v g',e=.returned v∧R bd N s' r g' a.tmps st w'∧Z9 w' (Mt bd.Z s'.heap g') g' r sv v∧sv.all (Atom.ok N s'.heap):=by
 obtain ⟨hent,hrun⟩:=hrun
 refine ⟨hent,?_⟩
 unfold Z2m at hs
 split at hs
 case h_2=>cases hs
 rename_i i hx
 split at hs
 case h_2=>cases hs
 rename_i e hi
 split at hs
 case isFalse=>cases hs
 rename_i hf
 obtain ⟨hid,hnp⟩:=free_eq hf
 simp only [Y4,Y9] at hs
 obtain ⟨rfl,rfl,rfl⟩:=hs
 obtain ⟨hxv,hxn⟩:=Z3o h x
 rw [hx] at hxv
 simp only [Z7] at hxv
 have g1:((den e r:List Int).length:Int)≤lim:=Zw.1 (hg (gLe (Zh e) (eI .i64 lim)) (by simp))
 obtain ⟨o,xs,Fs,b1,b2,b3⟩:=Zy.1 (h.heap i _ hi)
 have hxs:=Rws.ints b3
 have hF:=Z4S b3
 rw [hF,Yx] at b2
 rw [hxs] at b1
 rw [hxv]
 refine (hrun w (g i).val o (den e r) b1 g1).mono ?_
 rintro e1 w' ⟨v',rfl,hown,hsame,hsz,hos,htp,hout⟩
 have hmade:=h.made (w':=w') [i] id (.arr false (.int .i64) (.o1 (.hnd 1) e)) ⟨0,v',o.toList⟩ hid hnp (fun q hq l hl=>by rw [Y1.1 hq,hi] at hl;cases hl) (fun b hb hnot=>hsame b hb fun hh=>hnot i _ (by simp) hi (by rw [b2,←hh];simp)) ?_ (h.nheap i _ hi) ?_ ?_ hsz hos htp hout
 ·exact ⟨v',_,rfl,hmade,by simp [Z9,Z7],by simp [SV.all,Atom.ok,St.new,upd]⟩
 ·intro M' hk _ _ _
  simp only [Zc]
  refine Zy.2 ⟨o,_,_,?_,by simp only [if_true];rw [Z4R,Yx],Rws.of_ints (Z03 (den e r))⟩
  simp only [if_true]
  exact hown
 ·cases o<;>simp
 ·intro b hb
  exact .inr ⟨i,_,by simp,hi,by rw [b2];exact hb⟩
end
theorem Z7G {P:Program} {f:FuncId} {s s':St} {id:Nat} {gs:List (E .bool)} {sv:SV} {bd:Bd} {N:Nat→Prop} {r:Env} {g:Nat→G} {a:Act} {st:List (Array Value)} {w:World} (hrun:Z7y P f) {x:Operand} (hs:Z2p s id x=some (gs,sv,s')) (h:R bd N s r g a.tmps st w) (hg:∀e∈gs,den e r=true) :
  Enters P f∧Calls P f #[a.eval x] w fun e w'=>∃v g',e=.returned v∧R bd N s' r g' a.tmps st w'∧Z9 w' (Mt bd.Z s'.heap g') g' r sv v∧sv.all (Atom.ok N s'.heap):=by
 unfold Z2p at hs
 split at hs
 case h_2=>cases hs
 rename_i t
 split at hs
 case h_2=>cases hs
 rename_i i s1 hl
 split at hs
 case h_2=>cases hs
 rename_i gs0 s2 hss
 obtain ⟨s3,hu,heq⟩:=Ya.1 hs
 simp only [Y9] at heq
 obtain ⟨rfl,rfl,rfl⟩:=heq
 obtain ⟨g1,h1⟩:=Z6z h hl
 obtain ⟨hent,hc⟩:=Z7E hrun hss h1 hg
 refine ⟨hent,hc.mono ?_⟩
 rintro e w' ⟨v,g2,rfl,h2,⟨cs,hv,hcs⟩,h4⟩
 obtain ⟨g3,h3⟩:=Z6A h2 hu
 refine ⟨v,g3,rfl,h3,⟨cs,hv,?_⟩,by simp [SV.all]⟩
 generalize cs.toList=l at hcs
 cases l with
 | nil=>trivial
 | cons=>exact hcs.elim
theorem Z7H {P:Program} {f:FuncId} {s s':St} {id:Nat} {gs:List (E .bool)} {sv:SV} {bd:Bd} {N:Nat→Prop} {r:Env} {g:Nat→G} {a:Act} {st:List (Array Value)} {w:World} (hrun:Z7z P f) {x:Operand} (hs:Z2q s id x=some (gs,sv,s')) (h:R bd N s r g a.tmps st w) (hg:∀e∈gs,den e r=true) :
  Enters P f∧Calls P f #[a.eval x] w fun e w'=>∃v g',e=.returned v∧R bd N s' r g' a.tmps st w'∧Z9 w' (Mt bd.Z s'.heap g') g' r sv v∧sv.all (Atom.ok N s'.heap):=by
 unfold Z2q at hs
 split at hs
 case h_2=>cases hs
 rename_i t
 split at hs
 case h_2=>cases hs
 rename_i i s1 hl
 obtain ⟨g1,h1⟩:=Z6z h hl
 exact Z7F hrun hs h1 hg
theorem Z7I {c:Cx} (hI:∀f ty,c.ins f=some ty→Z7A c.P f ty):Z7b c:=by
 intro f ty s id ops gs sv s' bd N r g a st w hf hs h hg
 have hr:=hI f ty hf
 unfold Z2r at hs
 split at hs
 ·split at hs
  ·rename_i q hq
   cases hs
   exact Z7E hr hq h hg
  ·exact Z7G hr hs h hg
 ·split at hs
  ·rename_i q hq
   cases hs
   exact Z7F hr hq h hg
  ·exact Z7H hr hs h hg
 ·exact Z7C hr hs h hg
 ·exact Z7D hr hs h hg
 ·exact Z7t hr hs h hg
 ·cases hs
end Go.Sm
namespace Go.Sm
def Z7J:G:=⟨0,.slice none 0 0,[]⟩
def ZD (ρ:Nat→Option Nat) (g:Nat→G):Nat→G:=fun k=>match ρ k with
 | some i=>g i
 | none=>Z7J
def AEq (ρ:Nat→Option Nat) (r r':Env):Atom→Atom→Prop
 | _,.no=>True
 | .un,.un=>True
 | .nil,.nil=>True
 | .nil,.ref k=>ρ k=none
 | .nil,.x t e=>∃u,Z0 ⟨t,e⟩ r'=⟨.sl false u,([]:List u.D)⟩∨Z0 ⟨t,e⟩ r'=⟨.sl true u,([]:List u.D)⟩
 | .x t e,.x t' e'=>Z0 ⟨t,e⟩ r=Z0 ⟨t',e'⟩ r'
 | .xc t e,.xc t' e'=>Z0 ⟨.sl false t,e⟩ r=Z0 ⟨.sl false t',e'⟩ r'
 | .ref i,.ref k=>ρ k=some i
 | .ptr i j,.ptr k j'=>ρ k=some i∧j=j'
 | .eptr id t _ i j,.eptr k t' _ i' j'=>ρ k=some id∧t=t'∧(den i r:Int)=den i' r'∧j=j'
 | .xptr c t l _ i j,.xptr c' t' l' _ i' j'=>Z0 ⟨.sl c t,l⟩ r=Z0 ⟨.sl c' t',l'⟩ r'∧(den i r:Int)=den i' r'∧j=j'
 | .clo f caps,.clo f' caps'=>f=f'∧caps'.map (fun c=>(ρ c.1,c.2))=caps.map (fun c=>(some c.1,c.2))
 | .nref id t _ i j,.nref k t' _ i' j'=>ρ k=some id∧t=t'∧(den i r:Int)=den i' r'∧j=j'
 | .vw id t lo hi,.vw k t' lo' hi'=>ρ k=some id∧t=t'∧(den lo r:Int)=den lo' r'∧(den hi r:Int)=den hi' r'
 | .nptr id t _ i j u _ i2 j2,.nptr k t' _ i' j' u' _ i2' j2'=>ρ k=some id∧t=t'∧(den i r:Int)=den i' r'∧j=j'∧u=u'∧(den i2 r:Int)=den i2' r'∧j2=j2'
 | _,_=>False
theorem AV.rep_eq {w:World} {M:Nat→Prop} {t t':Ty} {d:t.D} {d':t'.D} (h:(⟨t,d⟩:AV)=⟨t',d'⟩) {vs:List Value} (hr:Rep w M t d vs):Rep w M t' d' vs:=by
 cases h;exact hr
theorem ZE {ρ:Nat→Option Nat} {g:Nat→G} {k i:Nat} (h:ρ k=some i):ZD ρ g k=g i:=by simp [ZD,h]
section
variable {w:World} {M M':Nat→Prop} {g:Nat→G} {r r':Env} {ρ:Nat→Option Nat}
theorem Z7.ren (hM:∀b,M' b→M b) {a a':Atom} {v:Value} (h:Z7 w M g r a v) (he:AEq ρ r r' a a'):Z7 w M' (ZD ρ g) r' a' v:=by
 have hk:Kept w M w M':=⟨fun _ _ _=>rfl,fun b _ h=>hM b h⟩
 cases a' with
 | no=>trivial
 | un=>cases a<;>first | exact he.elim | exact h
 | nil=>cases a<;>first | exact he.elim | exact h
 | x t' e' =>
  cases a<;>try exact he.elim
  ·simp only [Z7] at h
   subst h
   obtain ⟨u,he | he⟩:=he
   ·have:Rep w M' (.sl false u) ([]:List u.D) [.slice none 0 0]:=⟨none,0,rfl,Yh _,fun h=>by (cases h),fun _=>rfl,fun p hp=>by cases hp⟩
    exact AV.rep_eq he.symm this
   ·have:Rep w M' (.sl true u) ([]:List u.D) [.slice none 0 0]:=⟨none,0,rfl,Yh _,fun _=>by simp,fun _=>rfl,fun p hp=>by cases hp⟩
    exact AV.rep_eq he.symm this
  ·exact AV.rep_eq he (Rep.keep hk h)
 | xc t' e' =>
  cases a<;>try exact he.elim
  rename_i t e
  obtain ⟨h1,x,h2⟩:=h
  have he':(⟨.sl false t,den e r⟩:AV)=⟨.sl false t',den e' r'⟩:=he
  have ht:t=t':=by have:=congrArg Sigma.fst he';simpa using this
  subst ht
  have hd:(den e r:List t.D)=den e' r':=by simpa using he'
  exact ⟨by rw [←hd];exact Rep.keep hk h1,x,by rw [←hd];exact h2⟩
 | ref k =>
  cases a<;>try exact he.elim
  ·simp only [AEq] at he;simp only [Z7] at h ⊢;rw [h,ZD,he];rfl
  ·simp only [AEq] at he;simp only [Z7] at h ⊢;rw [h,ZE he]
 | ptr k j' =>
  cases a<;>try exact he.elim
  obtain ⟨h1,rfl⟩:=he
  simp only [Z7] at h ⊢;rw [h,ZE h1]
 | eptr k t' k' i' j' =>
  cases a<;>try exact he.elim
  obtain ⟨h1,rfl,h2,rfl⟩:=he
  simp only [Z7] at h ⊢;rw [ZE h1,←h2];exact h
 | xptr c' t' l' k' i' j' =>
  cases a<;>try exact he.elim
  rename_i c t l kk i j
  obtain ⟨h1,h2,rfl⟩:=he
  obtain ⟨p,n,cp,a1,a2,a3,a4,a5⟩:=h
  have ht:(Ty.sl c t)=.sl c' t':=by have:=congrArg Sigma.fst h1;simpa [Z0] using this
  cases ht
  exact ⟨p,n,cp,AV.rep_eq h1 (Rep.keep hk a1),a2,by rw [←h2];exact a3,by rw [←h2];exact a4,by rw [←h2];exact a5⟩
 | clo f' caps' =>
  cases a<;>try exact he.elim
  rename_i f caps
  obtain ⟨rfl,h1⟩:=he
  simp only [Z7] at h ⊢
  rw [h]
  have h2:∀(l l':List (Nat×Nat)),l'.map (fun c=>(ρ c.1,c.2))=l.map (fun c=>(some c.1,c.2))→l.map (fun c=>Value.pointer (some ⟨(g c.1).blk,c.2,none⟩))=l'.map (fun c=>Value.pointer (some ⟨(ZD ρ g c.1).blk,c.2,none⟩)):=by
   intro l
   induction l with
   | nil=>intro l' h;simp at h;subst h;rfl
   | cons c l ih =>
    intro l' h
    cases l' with
    | nil=>simp at h
    | cons c' l' =>
     simp only [List.map_cons,List.cons.injEq,Y9] at h
     simp only [List.map_cons]
     rw [ih l' h.2,ZE h.1.1,h.1.2]
  rw [h2 caps caps' h1]
 | nref k t' k' i' j' =>
  cases a<;>try exact he.elim
  obtain ⟨h1,rfl,h2,rfl⟩:=he
  simp only [Z7] at h ⊢;rw [ZE h1,←h2];exact h
 | nptr k t' k' i' j' u' k2 i2' j2' =>
  cases a<;>try exact he.elim
  obtain ⟨h1,rfl,h2,rfl,rfl,h3,rfl⟩:=he
  simp only [Z7] at h ⊢;rw [ZE h1,←h2,←h3];exact h
 | vw k t' lo' hi' =>
  cases a<;>try exact he.elim
  obtain ⟨h1,rfl,h2,h3⟩:=he
  simp only [Z7] at h ⊢;rw [ZE h1,←h2,←h3];exact h
def Z7K (ρ:Nat→Option Nat) (r r':Env):List Atom→List Atom→Prop
 | [],[]=>True
 | a::l,a'::l'=>AEq ρ r r' a a'∧Z7K ρ r r' l l'
 | _,_=>False
theorem Z8.ren (hM:∀b,M' b→M b):∀{l l':List Atom} {vs:List Value},Z8 w M g r l vs→Z7K ρ r r' l l'→Z8 w M' (ZD ρ g) r' l' vs
 | [],[],[],_,_=>trivial
 | _::_,_::_,_::_,h,he=>⟨h.1.ren hM he.1,Z8.ren hM h.2 he.2⟩
 | [],[],_::_,h,_=>h.elim
 | [],_::_,_,_,he=>he.elim
 | _::_,[],_,_,he=>he.elim
 | _::_,_::_,[],h,_=>h.elim
def Z7L (ρ:Nat→Option Nat) (r r':Env):List (Bool×List Atom)→List (Bool×List Atom)→Prop
 | [],[]=>True
 | a::l,a'::l'=>(a.1=a'.1∧Z7K ρ r r' a.2 a'.2)∧Z7L ρ r r' l l'
 | _,_=>False
theorem Z0h.ren (hM:∀b,M' b→M b):∀{l l':List (Bool×List Atom)} {vs:List Value},Z0h w M g r l vs→Z7L ρ r r' l l'→Z0h w M' (ZD ρ g) r' l' vs
 | [],[],[],_,_=>trivial
 | (b,l)::_,(b',l')::_,_::_,h,he=>by
  obtain ⟨⟨hb,h1⟩,h2⟩:=he
  simp only at hb
  subst hb
  refine ⟨?_,Z0h.ren hM h.2 h2⟩
  have:=h.1
  unfold Z0g at this ⊢
  simp only at this ⊢
  split
  ·rename_i hb;rw [if_pos hb] at this;obtain ⟨cs,e1,e2⟩:=this;exact ⟨cs,e1,e2.ren hM h1⟩
  ·rename_i hb;rw [if_neg hb] at this;exact this.ren hM h1
 | [],[],_::_,h,_=>h.elim
 | [],_::_,_,_,he=>he.elim
 | _::_,[],_,_,he=>he.elim
 | _::_,_::_,[],h,_=>h.elim
def SEq (ρ:Nat→Option Nat) (r r':Env):SV→SV→Prop
 | .a x,.a y=>AEq ρ r r' x y
 | .agg l,.agg m=>Z7K ρ r r' l m
 | .tup l,.tup m=>Z7L ρ r r' l m
 | _,_=>False
theorem Z9.ren (hM:∀b,M' b→M b) {s s':SV} {v:Value} (h:Z9 w M g r s v) (he:SEq ρ r r' s s'):Z9 w M' (ZD ρ g) r' s' v:=by
 cases s<;>cases s'<;>first | exact he.elim | skip
 ·exact Z7.ren hM h he
 ·obtain ⟨cs,h1,h2⟩:=h;exact ⟨cs,h1,h2.ren hM he⟩
 ·obtain ⟨cs,h1,h2⟩:=h;exact ⟨cs,h1,h2.ren hM he⟩
def Z7M (ρ:Nat→Option Nat) (r r':Env):List SV→List SV→Prop
 | [],[]=>True
 | a::l,a'::l'=>SEq ρ r r' a a'∧Z7M ρ r r' l l'
 | _,_=>False
theorem Za.ren (hM:∀b,M' b→M b):∀{l l':List SV} {vs:List Value},Za w M g r l vs→Z7M ρ r r' l l'→Za w M' (ZD ρ g) r' l' vs
 | [],[],[],_,_=>trivial
 | _::_,_::_,_::_,h,he=>⟨h.1.ren hM he.1,Za.ren hM h.2 he.2⟩
 | [],[],_::_,h,_=>h.elim
 | [],_::_,_,_,he=>he.elim
 | _::_,[],_,_,he=>he.elim
 | _::_,_::_,[],h,_=>h.elim
def Z7N (ρ:Nat→Option Nat) (r r':Env):List (List SV)→List (List SV)→Prop
 | [],[]=>True
 | a::l,a'::l'=>Z7M ρ r r' a a'∧Z7N ρ r r' l l'
 | _,_=>False
theorem Z0i.ren (hM:∀b,M' b→M b):∀{l l':List (List SV)} {vs:List (Array Value)},Z0i w M g r l vs→Z7N ρ r r' l l'→Z0i w M' (ZD ρ g) r' l' vs
 | [],[],[],_,_=>trivial
 | _::_,_::_,_::_,h,he=>⟨h.1.ren hM he.1,Z0i.ren hM h.2 he.2⟩
 | [],[],_::_,h,_=>h.elim
 | [],_::_,_,_,he=>he.elim
 | _::_,[],_,_,he=>he.elim
 | _::_,_::_,[],h,_=>h.elim
def Z7O (ρ:Nat→Option Nat) (r r':Env):Blk→Blk→Prop
 | .box l,.box m=>Z7K ρ r r' l m
 | .arr dp t e,.arr dp' t' e'=>dp=dp'∧Z0 ⟨.sl false t,e⟩ r=Z0 ⟨.sl false t',e'⟩ r'
 | .hole t e _ i j a,.hole t' e' _ i' j' a'=>Z0 ⟨.sl false t,e⟩ r=Z0 ⟨.sl false t',e'⟩ r'∧(den i r:Int)=den i' r'∧j=j'∧AEq ρ r r' a a'
 | .lent t e _ i a,.lent t' e' _ i' a'=>Z0 ⟨.sl false t,e⟩ r=Z0 ⟨.sl false t',e'⟩ r'∧(den i r:Int)=den i' r'∧AEq ρ r r' a a'
 | _,_=>False
theorem Z7P {t t':Ty} {e:E (.sl false t)} {e':E (.sl false t')} (h:Z0 ⟨.sl false t,e⟩ r=Z0 ⟨.sl false t',e'⟩ r'):∃h:t=t',(den e' r':List t'.D)=h▸(den e r:List t.D):=by
 have ht:t=t':=by have:=congrArg Sigma.fst h;simpa [Z0] using this
 subst ht
 exact ⟨rfl,by simpa [Z0] using h.symm⟩
theorem Zc.ren (hM:∀b,M' b→M b) {k i:Nat} (hk:ρ k=some i) {B B':Blk} (h:Zc w M g r i B) (he:Z7O ρ r r' B B'):Zc w M' (ZD ρ g) r' k B':=by
 have hkept:Kept w M w M':=⟨fun _ _ _=>rfl,fun b _ h=>hM b h⟩
 cases B<;>cases B'<;>first | exact he.elim | skip
 ·obtain ⟨h1,c,ty,h2,h3⟩:=h
  simp only [Zc]
  rw [ZE hk]
  exact ⟨h1,c,ty,h2,h3.ren hM he⟩
 ·obtain ⟨rfl,h1⟩:=he
  obtain ⟨rfl,h2⟩:=Z7P h1
  simp only [Zc] at h ⊢
  rw [ZE hk,h2]
  exact h.keep hkept fun _ _=>rfl
 ·obtain ⟨h1,h3,rfl,h4⟩:=he
  obtain ⟨rfl,h2⟩:=Z7P h1
  simp only [Zc] at h ⊢
  obtain ⟨q1,v,q2,q3⟩:=h
  refine ⟨?_,v,?_,q3.ren hM h4⟩
  ·rw [ZE hk,h2,←h3]
   exact q1.keep hkept fun _ _=>rfl
  ·simp only [Z7] at q2 ⊢
   rw [ZE hk,←h3]
   exact q2
 ·obtain ⟨h1,h3,h4⟩:=he
  obtain ⟨rfl,h2⟩:=Z7P h1
  simp only [Zc] at h ⊢
  obtain ⟨v,q1,q3⟩:=h
  refine ⟨v,?_,q3.ren hM h4⟩
  rw [ZE hk,h2,←h3]
  exact q1.keep hkept fun _ _=>rfl
end
section
variable {bd:Bd} {N N':Nat→Prop} {s s':St} {r r':Env} {g:Nat→G} {tm tm':Array Value} {st st':List (Array Value)} {w:World} {ρ:Nat→Option Nat}
def Z7Q (ρ:Nat→Option Nat) (r r':Env) (h h':Nat→Option Blk):Prop :=
 ∀k B',h' k=some B'→match ρ k with
  | some i=>∃B,h i=some B∧Z7O ρ r r' B B'
  | none=>∃dp t e,B'=.arr dp t e∧(den e r':List t.D)=[]
theorem Z7R (hh:Z7Q ρ r r' s.heap s'.heap) {k:Nat} {B':Blk} (hk:s'.heap k=some B') {b:Nat} (hb:b∈(ZD ρ g k).foot):∃i B,ρ k=some i∧s.heap i=some B∧b∈(g i).foot:=by
 have:=hh k B' hk
 unfold ZD at hb
 split at this
 ·rename_i i hi
  rw [hi] at hb
  obtain ⟨B,h3,_⟩:=this
  exact ⟨i,B,hi,h3,hb⟩
 ·rename_i hi
  rw [hi] at hb
  simp [Z7J] at hb
theorem Z7S (hh:Z7Q ρ r r' s.heap s'.heap) {b:Nat} (hb:Mt bd.Z s'.heap (ZD ρ g) b):Mt bd.Z s.heap g b:=by
 rcases hb with ⟨k,B',h1,h2⟩ | hz
 ·obtain ⟨i,B,_,h3,h4⟩:=Z7R hh h1 h2
  exact .inl ⟨i,B,h3,h4⟩
 ·exact .inr hz
theorem Z7T {M:Nat→Prop} {g:Nat→G} {k:Nat} (hk:g k=Z7J) {dp:Bool} {t:Ty} {e:E (.sl false t)} (he:(den e r':List t.D)=[]):Zc w M g r' k (.arr dp t e):=by
 simp only [Zc]
 rw [hk,he]
 refine ⟨none,[],[],⟨by simp,.inl ⟨none,rfl,rfl,rfl⟩⟩,rfl,rfl,fun i hi=>by simp at hi⟩
theorem R.ren (h:R bd N s r g tm st w) (hh:Z7Q ρ r r' s.heap s'.heap) (hinj:∀k k' i,(s'.heap k).isSome=true→(s'.heap k').isSome=true→ρ k=some i→ρ k'=some i→k=k')
  (hcur:Za w (Mt bd.Z s'.heap (ZD ρ g)) (ZD ρ g) r' s'.cur tm'.toList) (hstk:Z0i w (Mt bd.Z s'.heap (ZD ρ g)) (ZD ρ g) r' s'.stk st')
  (hown:∀k B,s'.heap k=some B→∀b∈(ZD ρ g k).foot,bd.M0 b∨bd.w0.heap.size≤b) (hw:Wd bd w) (hpin:∀k p,bd.pins[k]?=some p→k<s'.np→(ZD ρ g k).blk=p.blk∧(ZD ρ g k).val=p.val)
  (hnp:s'.np=bd.pins.length) (hkp:s'.kp=bd.kp) (hkept:∀c∈bd.kp,cell w (ZD ρ g c.1).blk c.2=bd.kept c.1 c.2) (hkpl:∀c∈bd.kp,c.1<s'.np∧∃l,s'.heap c.1=some (.box l))
  (n1:∀v∈s'.cur,v.all (Atom.ok N' s'.heap)) (n2:∀f∈s'.stk,∀v∈f,v.all (Atom.ok N' s'.heap)) (n3:∀id B,s'.heap id=some B→B.ok N' s'.heap) :
  R bd N' s' r' (ZD ρ g) tm' st' w:=by
 have foot:∀k B',s'.heap k=some B'→∀b∈(ZD ρ g k).foot,∃i B,ρ k=some i∧s.heap i=some B∧b∈(g i).foot:=by
  intro k B' hk b hb
  have:=hh k B' hk
  unfold ZD at hb
  split at this
  ·rename_i i hi
   rw [hi] at hb
   obtain ⟨B,h3,_⟩:=this
   exact ⟨i,B,hi,h3,hb⟩
  ·rename_i hi
   rw [hi] at hb
   simp [Z7J] at hb
 refine { cur:=hcur,stk:=hstk,heap:=?_,inj:=?_,nodup:=?_,own:=hown,lt:=?_,world:=hw,pin:=hpin,np:=hnp,kp:=hkp,kept:=hkept,kpl:=hkpl,ncur:=n1,nstk:=n2,nheap:=n3 }
 ·intro k B' hk
  have:=hh k B' hk
  split at this
  ·rename_i i hi
   obtain ⟨B,h3,h4⟩:=this
   exact (h.heap i B h3).ren (fun b hb=>Z7S hh hb) hi h4
  ·rename_i hi
   obtain ⟨dp,t,e,rfl,he⟩:=this
   exact Z7T (by simp [ZD,hi]) he
 ·intro k k' B B' b hk hk' hb hb'
  obtain ⟨i,C,e1,e2,e3⟩:=foot k B hk b hb
  obtain ⟨i',C',e1',e2',e3'⟩:=foot k' B' hk' b hb'
  have:=h.inj i i' C C' b e2 e2' e3 e3'
  subst this
  exact hinj k k' i (by simp [hk]) (by simp [hk']) e1 e1'
 ·intro k B hk
  have:=hh k B hk
  split at this
  ·rename_i i hi
   obtain ⟨C,h3,_⟩:=this
   rw [ZE hi]
   exact h.nodup i C h3
  ·rename_i hi
   simp [ZD,hi,Z7J]
 ·intro k B hk b hb
  obtain ⟨i,C,e1,e2,e3⟩:=foot k B hk b hb
  exact h.lt i C e2 b e3
end
end Go.Sm
namespace Go.Sm
def Seg {α:Type} (E:List α) (n:Nat) (l:List α):Prop:=∃p q,E=p++(l++q)∧p.length=n
theorem Seg.left {α:Type} {E:List α} {n:Nat} {l m:List α} (h:Seg E n (l++m)):Seg E n l:=by
 obtain ⟨p,q,h1,h2⟩:=h;exact ⟨p,m++q,by rw [h1,Ym],h2⟩
theorem Seg.right {α:Type} {E:List α} {n:Nat} {l m:List α} (h:Seg E n (l++m)):Seg E (n+l.length) m:=by
 obtain ⟨p,q,h1,h2⟩:=h;exact ⟨p++l,q,by rw [h1];simp [Ym],by simp [h2]⟩
theorem Seg.get {α:Type} {E:List α} {n:Nat} {l:List α} (h:Seg E n l) {i:Nat} {a:α} (hi:l[i]?=some a):E[n+i]?=some a:=by
 obtain ⟨p,q,h1,h2⟩:=h
 have hl:i<l.length:=(Yn.1 hi).1
 rw [h1,Yt (by omega),Yw (by omega)]
 rw [←hi];congr 1;omega
theorem Seg.get0 {α:Type} {E:List α} {n:Nat} {l:List α} {a:α} (h:Seg E n (a::l)):E[n]?=some a:=h.get (i:=0) rfl
theorem Seg.all {α:Type} (E:List α):Seg E 0 E:=⟨[],[],by simp,rfl⟩
theorem Seg.lt {α:Type} {E:List α} {n:Nat} {l:List α} (h:Seg E n l) {i:Nat} (hi:i<l.length):n+i<E.length:=by
 have:=h.get (List.getElem?_eq_getElem hi)
 exact (Yn.1 this).1
theorem Z7U:∀{L:List Nat} {x k:Nat},Z1w L x=some k→L[k]?=some x
 | [],x,k,h=>by simp [Z1w] at h
 | a::L,x,k,h=>by
  unfold Z1w at h
  split at h
  ·rename_i ha;cases h;simp [ha]
  ·obtain ⟨j,hj,rfl⟩:=Ya.1 h
   simpa using Z7U hj
theorem Z7V {L:List Nat}:∀{l l':List (Nat×Nat)},Z1x L l=some l'→l'.map (fun c=>(L[c.1]?,c.2))=l.map (fun c=>(some c.1,c.2))
 | [],l',h=>by simp [Z1x] at h;subst h;rfl
 | (i,j)::l,l',h=>by
  unfold Z1x at h
  split at h
  ·rename_i k r hk hr
   cases h
   simp only [List.map_cons]
   rw [Z7V hr,Z7U hk]
  ·cases h
section
variable {L:List Nat} {Es:List AE} {r r':Env}
def Holds (Es:List AE) (r r':Env):Prop:=∀i x,Es[i]?=some x→r' i=Z0 x r
theorem Z7W {t:Ty} {e:E t} {n:Nat} (hh:Holds Es r r') (hs:Es[n]?=some ⟨t,e⟩):den (.var t n) r'=den e r:=by
 simp only [den]
 rw [hh n _ hs]
 exact AV.as_mk t _
theorem Z7X {t:Ty} {e:E t} (h:isLit e=true):den e r'=den e r:=by
 cases e<;>first | rfl | (simp [isLit] at h)
theorem Z7Y {N:Nat→Prop} {t:Ty} {e:E t} (h:isLit e=true):e.vs N:=by
 cases e<;>first | trivial | (simp [isLit] at h)
theorem Z7Z (hh:Holds Es r r') {a:Atom} {b:Bool} {n:Nat} (hs:Seg Es n ((ren L a).es b)):AEq (fun k=>L[k]?) r r' a ((ren L a).sub b n):=by
 cases a with
 | no=>trivial
 | un=>trivial
 | nil=>trivial
 | x t e =>
  simp only [ren,Atom.sub,Atom.es] at hs ⊢
  split
  ·rename_i hb
   simp only [AEq,Z0]
   simp only [Y5] at hb
   rw [Z7X hb.2]
  ·rename_i hb
   rw [if_neg hb] at hs
   simp only [AEq,Z0]
   rw [Z7W hh hs.get0]
 | xc t e =>
  simp only [ren,Atom.sub,Atom.es] at hs ⊢
  simp only [AEq,Z0]
  rw [Z7W hh hs.get0]
 | ref id =>
  simp only [ren] at hs ⊢
  split<;>rename_i h
  ·exact Z7U h
  ·trivial
 | ptr id j =>
  simp only [ren] at hs ⊢
  split<;>rename_i h
  ·exact ⟨Z7U h,rfl⟩
  ·trivial
 | eptr id t k i j =>
  simp only [ren] at hs ⊢
  cases h:Z1w L id with
  | none=>trivial
  | some kk =>
   simp only [h,Atom.sub,Atom.es] at hs ⊢
   exact ⟨Z7U h,rfl,by rw [Z7W hh hs.get0],rfl⟩
 | xptr c t l k i j =>
  simp only [ren,Atom.sub,Atom.es] at hs ⊢
  refine ⟨?_,?_,rfl⟩
  ·simp only [Z0];rw [Z7W hh hs.get0]
  ·rw [Z7W hh (hs.get (i:=1) rfl)]
 | clo f caps =>
  simp only [ren] at hs ⊢
  split<;>rename_i h
  ·exact ⟨rfl,Z7V h⟩
  ·trivial
 | nref id t k i j =>
  simp only [ren] at hs ⊢
  cases h:Z1w L id with
  | none=>trivial
  | some kk =>
   simp only [h,Atom.sub,Atom.es] at hs ⊢
   exact ⟨Z7U h,rfl,by rw [Z7W hh hs.get0],rfl⟩
 | nptr id t k i j u k2 i2 j2 =>
  simp only [ren] at hs ⊢
  cases h:Z1w L id with
  | none=>trivial
  | some kk =>
   simp only [h,Atom.sub,Atom.es] at hs ⊢
   exact ⟨Z7U h,rfl,by rw [Z7W hh hs.get0],rfl,rfl,by rw [Z7W hh (hs.get (i:=1) rfl)],rfl⟩
 | vw id t lo hi =>
  simp only [ren] at hs ⊢
  cases h:Z1w L id with
  | none=>trivial
  | some kk =>
   simp only [h,Atom.sub,Atom.es] at hs ⊢
   exact ⟨Z7U h,rfl,by rw [Z7W hh hs.get0],by rw [Z7W hh (hs.get (i:=1) rfl)]⟩
theorem Z7_ (hh:Holds Es r r') {b:Bool}:∀{l:List Atom} {n:Nat},Seg Es n (esL b (l.map (ren L)))→Z7K (fun k=>L[k]?) r r' l (Z1y b n (l.map (ren L)))
 | [],n,_=>trivial
 | a::l,n,hs=>⟨Z7Z hh hs.left,Z7_ hh hs.right⟩
theorem Z80 (hh:Holds Es r r') {b:Bool}:∀{l:List (Bool×List Atom)} {n:Nat},Seg Es n (esC b (l.map fun c=>(c.1,c.2.map (ren L))))→Z7L (fun k=>L[k]?) r r' l (Z1z b n (l.map fun c=>(c.1,c.2.map (ren L))))
 | [],n,_=>trivial
 | c::l,n,hs=>⟨⟨rfl,Z7_ hh hs.left⟩,Z80 hh hs.right⟩
theorem Z81 (hh:Holds Es r r') {b:Bool} {v:SV} {n:Nat} (hs:Seg Es n ((v.map (ren L)).es b)):SEq (fun k=>L[k]?) r r' v ((v.map (ren L)).sub b n):=by
 cases v with
 | a x=>exact Z7Z hh hs
 | agg l=>exact Z7_ hh hs
 | tup l=>exact Z80 hh hs
theorem Z82 (hh:Holds Es r r') {b:Bool}:∀{l:List SV} {n:Nat},Seg Es n (esS b (l.map (SV.map (ren L))))→Z7M (fun k=>L[k]?) r r' l (Z1A b n (l.map (SV.map (ren L))))
 | [],n,_=>trivial
 | v::l,n,hs=>⟨Z81 hh hs.left,Z82 hh hs.right⟩
theorem Z83 (hh:Holds Es r r'):∀{l:List (List SV)} {n:Nat},Seg Es n (Z1B (l.map (List.map (SV.map (ren L)))))→Z7N (fun k=>L[k]?) r r' l (Z1C n (l.map (List.map (SV.map (ren L)))))
 | [],n,_=>trivial
 | v::l,n,hs=>⟨Z82 hh hs.left,Z83 hh hs.right⟩
theorem Z84 (hh:Holds Es r r') {B:Blk} {n:Nat} (hs:Seg Es n (B.map (ren L)).es):Z7O (fun k=>L[k]?) r r' B ((B.map (ren L)).sub n):=by
 cases B with
 | box l=>exact Z7_ hh hs
 | arr dp t e =>
  refine ⟨rfl,?_⟩
  simp only [Z0];rw [Z7W hh hs.get0]
 | hole t e k i j a =>
  refine ⟨?_,?_,rfl,Z7Z hh (hs.right (l:=[_,_]))⟩
  ·simp only [Z0];rw [Z7W hh hs.get0]
  ·rw [Z7W hh (hs.get (i:=1) rfl)]
 | lent t e k i a =>
  refine ⟨?_,?_,Z7Z hh (hs.right (l:=[_,_]))⟩
  ·simp only [Z0];rw [Z7W hh hs.get0]
  ·rw [Z7W hh (hs.get (i:=1) rfl)]
theorem Z85:∀{l:List Blk} {n k:Nat} {B':Blk},Seg Es n (esB l)→(Z1D n l)[k]?=some B'→∃B m,l[k]?=some B∧B'=B.sub m∧Seg Es m B.es
 | [],n,k,B',_,h=>by simp [Z1D] at h
 | B::l,n,0,B',hs,h=>by simp only [Z1D,List.getElem?_cons_zero,Y4] at h;exact ⟨B,n,rfl,h.symm,hs.left⟩
 | B::l,n,k+1,B',hs,h=>by
  simp only [Z1D,List.getElem?_cons_succ] at h
  obtain ⟨C,m,h1,h2,h3⟩:=Z85 hs.right h
  exact ⟨C,m,by simpa using h1,h2,h3⟩
theorem Z86:∀(l:List Blk) (n:Nat),(Z1D n l).length=l.length
 | [],_=>rfl
 | B::l,n=>by simp [Z1D,Z86 l]
theorem Z87 {s:St}:∀{l:List Nat} {hl:List Blk},Z1E s L l=some hl→hl.length=l.length∧∀(k id:Nat),l[k]?=some id→∃B,s.heap id=some B∧hl[k]?=some (B.map (ren L))
 | [],hl,h=>by simp [Z1E] at h;subst h;simp
 | id::l,hl,h=>by
  unfold Z1E at h
  split at h
  case h_2=>cases h
  rename_i B l' hB hl'
  cases h
  obtain ⟨h1,h2⟩:=Z87 hl'
  refine ⟨by simp [h1],fun k id' hk=>?_⟩
  cases k with
  | zero=>simp at hk;subst hk;exact ⟨B,hB,rfl⟩
  | succ k=>simpa using h2 k id' (by simpa using hk)
section
variable {h':Nat→Option Blk} (hl:∀k,(L[k]?).isSome=true→(h' k).isSome=true)
include hl
theorem Z88 {a:Atom} {b:Bool} {n:Nat} (hs:Seg Es n ((ren L a).es b)):((ren L a).sub b n).ok (·<Es.length) h':=by
 have hf:∀{id k:Nat},Z1w L id=some k→(h' k).isSome=true:=fun h=>hl _ (by rw [Z7U h];rfl)
 cases a with
 | no=>trivial
 | un=>trivial
 | nil=>trivial
 | x t e =>
  simp only [ren,Atom.sub,Atom.es] at hs ⊢
  split
  ·rename_i hb
   simp only [Y5] at hb
   exact Z7Y hb.2
  ·rename_i hb
   rw [if_neg hb] at hs
   exact hs.lt (i:=0) (by simp)
 | xc t e=>exact hs.lt (i:=0) (by simp [ren,Atom.es])
 | ref id =>
  simp only [ren] at hs ⊢
  split<;>rename_i h
  ·exact hf h
  ·trivial
 | ptr id j =>
  simp only [ren] at hs ⊢
  split<;>rename_i h
  ·exact hf h
  ·trivial
 | eptr id t k i j =>
  simp only [ren] at hs ⊢
  cases h:Z1w L id with
  | none=>trivial
  | some kk =>
   simp only [h,Atom.sub,Atom.es] at hs ⊢
   exact ⟨hs.lt (i:=0) (by simp),hf h⟩
 | xptr c t l k i j=>exact ⟨hs.lt (i:=0) (by simp [ren,Atom.es]),hs.lt (i:=1) (by simp [ren,Atom.es])⟩
 | clo f caps =>
  simp only [ren] at hs ⊢
  split<;>rename_i h
  ·intro c hc
   have h1:=Z7V h
   have h2:(L[c.1]?,c.2)∈caps.map (fun c=>(some c.1,c.2)):=by rw [←h1];exact Yo.2 ⟨c,hc,rfl⟩
   obtain ⟨d,_,hd⟩:=Yo.1 h2
   simp only [Y9] at hd
   exact hl _ (by rw [←hd.1];rfl)
  ·trivial
 | nref id t k i j =>
  simp only [ren] at hs ⊢
  cases h:Z1w L id with
  | none=>trivial
  | some kk =>
   simp only [h,Atom.sub,Atom.es] at hs ⊢
   exact ⟨hs.lt (i:=0) (by simp),hf h⟩
 | nptr id t k i j u k2 i2 j2 =>
  simp only [ren] at hs ⊢
  cases h:Z1w L id with
  | none=>trivial
  | some kk =>
   simp only [h,Atom.sub,Atom.es] at hs ⊢
   exact ⟨⟨hs.lt (i:=0) (by simp),hs.lt (i:=1) (by simp)⟩,hf h⟩
 | vw id t lo hi =>
  simp only [ren] at hs ⊢
  cases h:Z1w L id with
  | none=>trivial
  | some kk =>
   simp only [h,Atom.sub,Atom.es] at hs ⊢
   exact ⟨⟨hs.lt (i:=0) (by simp),hs.lt (i:=1) (by simp)⟩,hf h⟩
theorem Z89 {b:Bool}:∀{l:List Atom} {n:Nat},Seg Es n (esL b (l.map (ren L)))→∀a∈Z1y b n (l.map (ren L)),a.ok (·<Es.length) h'
 | [],n,_,a,ha=>by cases ha
 | x::l,n,hs,a,ha=>by
  rcases Yl.1 ha with rfl | ha
  ·exact Z88 hl hs.left
  ·exact Z89 hs.right a ha
theorem Z8a {b:Bool}:∀{l:List (Bool×List Atom)} {n:Nat},Seg Es n (esC b (l.map fun c=>(c.1,c.2.map (ren L))))→∀c∈Z1z b n (l.map fun c=>(c.1,c.2.map (ren L))),∀a∈c.2,a.ok (·<Es.length) h'
 | [],n,_,a,ha=>by cases ha
 | x::l,n,hs,a,ha=>by
  rcases Yl.1 ha with rfl | ha
  ·exact Z89 hl hs.left
  ·exact Z8a hs.right a ha
theorem Z8b {b:Bool} {v:SV} {n:Nat} (hs:Seg Es n ((v.map (ren L)).es b)):((v.map (ren L)).sub b n).all (Atom.ok (·<Es.length) h'):=by
 cases v with
 | a x=>exact Z88 hl hs
 | agg l=>exact Z89 hl hs
 | tup l=>exact Z8a hl hs
theorem Z8c {b:Bool}:∀{l:List SV} {n:Nat},Seg Es n (esS b (l.map (SV.map (ren L))))→∀v∈Z1A b n (l.map (SV.map (ren L))),v.all (Atom.ok (·<Es.length) h')
 | [],n,_,a,ha=>by cases ha
 | x::l,n,hs,a,ha=>by
  rcases Yl.1 ha with rfl | ha
  ·exact Z8b hl hs.left
  ·exact Z8c hs.right a ha
theorem Z8d:∀{l:List (List SV)} {n:Nat},Seg Es n (Z1B (l.map (List.map (SV.map (ren L)))))→∀f∈Z1C n (l.map (List.map (SV.map (ren L)))),∀v∈f,v.all (Atom.ok (·<Es.length) h')
 | [],n,_,a,ha=>by cases ha
 | x::l,n,hs,a,ha=>by
  rcases Yl.1 ha with rfl | ha
  ·exact Z8c hl hs.left
  ·exact Z8d hs.right a ha
theorem Z8e {B:Blk} {n:Nat} (hs:Seg Es n (B.map (ren L)).es):((B.map (ren L)).sub n).ok (·<Es.length) h':=by
 cases B with
 | box l=>exact Z89 hl hs
 | arr dp t e=>exact hs.lt (i:=0) (by simp [Blk.map,Blk.es])
 | hole t e k i j a=>exact ⟨hs.lt (i:=0) (by simp [Blk.map,Blk.es]),hs.lt (i:=1) (by simp [Blk.map,Blk.es]),Z88 hl (hs.right (l:=[_,_]))⟩
 | lent t e k i a=>exact ⟨hs.lt (i:=0) (by simp [Blk.map,Blk.es]),hs.lt (i:=1) (by simp [Blk.map,Blk.es]),Z88 hl (hs.right (l:=[_,_]))⟩
end
end
theorem Z8f:∀{L:List Nat},nodupB L=true→∀k k' i:Nat,L[k]?=some i→L[k']?=some i→k=k'
 | [],_,k,k',i,h,_=>by simp at h
 | a::L,hn,k,k',i,h,h'=>by
  simp only [nodupB,Y5,Yr,YN,YH] at hn
  cases k<;>cases k'<;>simp only [List.getElem?_cons_zero,List.getElem?_cons_succ,Y4] at h h'
  ·rfl
  ·subst h;exact (hn.1 (YD h')).elim
  ·subst h';exact (hn.1 (YD h)).elim
  ·rw [Z8f hn.2 _ _ i h h']
theorem Z8g {l:List AV} {i:Nat} {v:AV} (h:l[i]?=some v):Z1 l i=v:=by
 simp [Z1,h]
section
variable {bd:Bd} {N:Nat→Prop} {s:St} {r:Env} {g:Nat→G} {tm:Array Value} {st:List (Array Value)} {w:World}
theorem Z8h {L:List Nat} {n k:Nat} (h:L.take n=List.range n) (hk:k<n):L[k]?=some k:=by
 have:(L.take n)[k]?=(List.range n)[k]?:=by rw [h]
 rw [List.getElem?_take_of_lt hk,List.getElem?_range hk] at this
 exact this
theorem Z8i (h:R bd N s r g tm st w) {vs:List AE} {n:NS} (hn:norm s=some (vs,n)) (b:Nat):∃g',R bd (·<vs.length) (n.toSt b) (Z1 (vs.map (Z0 · r))) g' tm st w:=by
 unfold norm at hn
 generalize Z1v s.heap 400 ((List.range s.np).flatMap (fun k=>((s.heap k).map Blk.ids).getD [])++(s.cur.flatMap SV.ids++s.stk.flatMap (List.flatMap SV.ids))) (List.range s.np)=L at hn
 simp only at hn
 split at hn
 case isFalse=>cases hn
 rename_i hL
 simp only [Y5,beq_iff_eq] at hL
 obtain ⟨hl,hb,h1⟩:=Ya.1 hn
 simp only [Y9] at h1
 obtain ⟨rfl,rfl⟩:=h1
 obtain ⟨hlen,hget⟩:=Z87 hb
 generalize hE:esS false (s.cur.map (SV.map (ren L)))++(Z1B (s.stk.map (List.map (SV.map (ren L))))++esB hl)=Es
 have hh:Holds Es r (Z1 (Es.map (Z0 · r))):=by
  intro i x hi
  exact Z8g (by simp [hi])
 have hall:Seg Es 0 Es:=Seg.all Es
 have s1:Seg Es 0 (esS false (s.cur.map (SV.map (ren L)))):=by rw [←hE] at hall ⊢;exact hall.left
 have s23:Seg Es (0+(esS false (s.cur.map (SV.map (ren L)))).length) (Z1B (s.stk.map (List.map (SV.map (ren L))))++esB hl):=by rw [←hE] at hall ⊢;exact hall.right
 rw [Nat.zero_add] at s23
 have s2:=s23.left
 have s3:=s23.right
 have hpin:∀k,k<s.np→L[k]?=some k:=fun k hk=>Z8h hL.2 hk
 have hlive:∀k:Nat,(L[k]?).isSome=true→((Z1D ((esS false (s.cur.map (SV.map (ren L)))).length+(Z1B (s.stk.map (List.map (SV.map (ren L))))).length) hl)[k]?).isSome=true:=by
  intro k hk
  rw [isSome_getElem?] at hk ⊢
  rw [Z86,hlen]
  simpa using hk
 have hheap:Z7Q (fun k=>L[k]?) r (Z1 (Es.map (Z0 · r))) s.heap (NS.toSt ⟨Z1A false 0 (s.cur.map (SV.map (ren L))),Z1C (esS false (s.cur.map (SV.map (ren L)))).length (s.stk.map (List.map (SV.map (ren L)))),Z1D ((esS false (s.cur.map (SV.map (ren L)))).length+(Z1B (s.stk.map (List.map (SV.map (ren L))))).length) hl,s.np,s.kp⟩ b).heap:=by
  intro k B' hk
  simp only [NS.toSt] at hk
  obtain ⟨B,m,e1,rfl,e3⟩:=Z85 s3 hk
  have hk':k<L.length:=by rw [←hlen];exact (Yn.1 e1).1
  obtain ⟨C,c1,c2⟩:=hget k L[k] (List.getElem?_eq_getElem hk')
  rw [c2] at e1
  cases e1
  have hk2:L[k]?=some L[k]:=List.getElem?_eq_getElem hk'
  simp only [hk2]
  exact ⟨C,c1,Z84 hh e3⟩
 refine ⟨ZD (fun k=>L[k]?) g,h.ren hheap ?_ ?_ ?_ ?_ h.world ?_ h.np h.kp ?_ ?_ ?_ ?_ ?_⟩
 ·intro k k' i _ _ e1 e2
  exact Z8f hL.1 k k' i e1 e2
 ·exact h.cur.ren (fun b hb=>Z7S hheap hb) (Z82 hh s1)
 ·exact h.stk.ren (fun b hb=>Z7S hheap hb) (Z83 hh s2)
 ·intro k B hk b' hb'
  obtain ⟨i,C,_,c1,c2⟩:=Z7R hheap hk hb'
  exact h.own i C c1 b' c2
 ·intro k p hp hk
  rw [ZE (hpin k hk)]
  exact h.pin k p hp hk
 ·intro c hc
  rw [ZE (hpin c.1 (h.kpl c hc).1)]
  exact h.kept c hc
 ·intro c hc
  obtain ⟨h1,l,h2⟩:=h.kpl c hc
  refine ⟨h1,?_⟩
  obtain ⟨C,c1,c2⟩:=hget c.1 c.1 (hpin _ h1)
  rw [h2] at c1
  cases c1
  have hlt:c.1<(Z1D ((esS false (s.cur.map (SV.map (ren L)))).length+(Z1B (s.stk.map (List.map (SV.map (ren L))))).length) hl).length:=by
   rw [Z86];exact (Yn.1 c2).1
  obtain ⟨B,m,e1,e2,e3⟩:=Z85 s3 (List.getElem?_eq_getElem hlt)
  rw [c2] at e1
  cases e1
  exact ⟨_,by simp only [NS.toSt];rw [List.getElem?_eq_getElem hlt,e2];rfl⟩
 ·exact Z8c hlive s1
 ·exact Z8d hlive s2
 ·intro k B hk
  simp only [NS.toSt] at hk
  obtain ⟨B,m,e1,rfl,e3⟩:=Z85 s3 hk
  have hk':k<L.length:=by rw [←hlen];exact (Yn.1 e1).1
  obtain ⟨C,c1,c2⟩:=hget k L[k] (List.getElem?_eq_getElem hk')
  rw [c2] at e1
  cases e1
  exact Z8e hlive e3
end
end Go.Sm
namespace Go.Sm
section
variable {bd:Bd} {N:Nat→Prop} {s:St} {r:Env} {g:Nat→G} {tm:Array Value} {st:List (Array Value)} {w:World}
theorem Z8j {α:Type} {l:List α} {i:Nat} {a:α} (h:l[i]?=some a):l.set i a=l:=by
 apply List.ext_getElem?
 intro j
 rw [YM]
 split
 ·rename_i hij
  subst hij
  split
  ·exact h.symm
  ·rename_i hlt
   rw [Yz (by omega)]
 ·rfl
theorem R.reslot (h:R bd N s r g tm st w) {slot:Nat} {old new:SV} (ho:s.cur[slot]?=some old) (hn:∀v,tm.toList[slot]?=some v→Z9 w (Mt bd.Z s.heap g) g r new v) (hk:new.all (Atom.ok N s.heap)) :
  R bd N { s with cur:=s.cur.set slot new } r g tm st w:=by
 obtain ⟨v,hv,hs⟩:=h.cur.get ho
 have h1:=h.cur.set (i:=slot) (hn v hv)
 rw [Z8j hv] at h1
 refine h.slots (stk:=s.stk) h1 h.stk (fun u hu=>?_) h.nstk
 rcases List.mem_or_eq_of_mem_set hu with hu | rfl
 ·exact h.ncur u hu
 ·exact hk
theorem Z8k {h:Nat→Option Blk} {b:Nat} {B B':Blk} (hb:h b=some B):Mt bd.Z (upd h b (some B')) g=Mt bd.Z h g:=by
 funext x
 apply propext
 constructor
 ·rintro (⟨i,C,h1,h2⟩ | hz)
  ·by_cases hi:i=b
   ·subst hi;exact .inl ⟨i,B,hb,h2⟩
   ·simp only [upd,show (i==b)=false by simpa using hi,cond_false] at h1;exact .inl ⟨i,C,h1,h2⟩
  ·exact .inr hz
 ·rintro (⟨i,C,h1,h2⟩ | hz)
  ·by_cases hi:i=b
   ·subst hi;exact .inl ⟨i,B',by simp [upd],h2⟩
   ·exact .inl ⟨i,C,by simp only [upd,show (i==b)=false by simpa using hi,cond_false];exact h1,h2⟩
  ·exact .inr hz
theorem Z8l {h:Nat→Option Blk} {b:Nat} {B B':Blk} (hb:h b=some B) (i:Nat) (hi:(h i).isSome=true):(upd h b (some B') i).isSome=true:=by
 unfold upd
 cases hib:(i==b)
 ·simpa using hi
 ·simp
theorem Blk.ok_live {h h':Nat→Option Blk} (hh:∀i,(h i).isSome=true→(h' i).isSome=true) {B:Blk} (hB:B.ok N h):B.ok N h':=by
 cases B with
 | box l=>exact fun a ha=>Atom.ok_mono (fun _ h=>h) hh (hB a ha)
 | arr dp t e=>exact hB
 | hole t e k i j a=>exact ⟨hB.1,hB.2.1,Atom.ok_mono (fun _ h=>h) hh hB.2.2⟩
 | lent t e k i a=>exact ⟨hB.1,hB.2.1,Atom.ok_mono (fun _ h=>h) hh hB.2.2⟩
theorem R.reblk (h:R bd N s r g tm st w) {b:Nat} {B B':Blk} (hb:s.heap b=some B) (hB:Zc w (Mt bd.Z s.heap g) g r b B→Zc w (Mt bd.Z s.heap g) g r b B') (hok:B'.ok N s.heap) (hbox:∀l,B=.box l→∃l',B'=.box l') :
  R bd N { s with heap:=upd s.heap b (some B') } r g tm st w:=by
 have hM:=Z8k (bd:=bd) (g:=g) (B':=B') hb
 have hlive:=Z8l (B':=B') hb
 have old:∀i C,upd s.heap b (some B') i=some C→(i=b∧C=B')∨(i≠b∧s.heap i=some C):=by
  intro i C hi
  by_cases hib:i=b
  ·subst hib;simp [upd] at hi;exact .inl ⟨rfl,hi.symm⟩
  ·simp only [upd,show (i==b)=false by simpa using hib,cond_false] at hi;exact .inr ⟨hib,hi⟩
 have dom:∀i C,upd s.heap b (some B') i=some C→∃C',s.heap i=some C':=by
  intro i C hi
  rcases old i C hi with ⟨rfl,_⟩ | ⟨_,h1⟩
  ·exact ⟨B,hb⟩
  ·exact ⟨C,h1⟩
 exact
  {cur:=by simpa only [hM] using h.cur
   stk:=by simpa only [hM] using h.stk
   heap:=by
    intro i C hi
    simp only [hM]
    rcases old i C hi with ⟨rfl,rfl⟩ | ⟨_,h1⟩
    ·exact hB (h.heap i B hb)
    ·exact h.heap i C h1
   inj:=fun i j C D x hi hj=>by
    obtain ⟨C',h1⟩:=dom i C hi
    obtain ⟨D',h2⟩:=dom j D hj
    exact h.inj i j C' D' x h1 h2
   nodup:=fun i C hi=>by obtain ⟨C',h1⟩:=dom i C hi;exact h.nodup i C' h1
   own:=fun i C hi=>by obtain ⟨C',h1⟩:=dom i C hi;exact h.own i C' h1
   lt:=fun i C hi=>by obtain ⟨C',h1⟩:=dom i C hi;exact h.lt i C' h1
   world:=h.world,pin:=h.pin,np:=h.np,kp:=h.kp,kept:=h.kept
   kpl:=fun c hc=>by
    obtain ⟨h1,l,h2⟩:=h.kpl c hc
    refine ⟨h1,?_⟩
    by_cases hcb:c.1=b
    ·rw [hcb] at h2 ⊢
     rw [hb] at h2;cases h2
     obtain ⟨l',rfl⟩:=hbox l rfl
     exact ⟨l',by simp [upd]⟩
    ·exact ⟨l,by simp only [upd,show (c.1==b)=false by simpa using hcb,cond_false];exact h2⟩
   ncur:=fun v hv=>SV.all_mono (fun a ha=>Atom.ok_mono (fun _ h=>h) hlive ha) (h.ncur v hv)
   nstk:=fun f hf v hv=>SV.all_mono (fun a ha=>Atom.ok_mono (fun _ h=>h) hlive ha) (h.nstk f hf v hv)
   nheap:=fun i C hi=>by
    rcases old i C hi with ⟨rfl,rfl⟩ | ⟨_,h1⟩
    ·exact Blk.ok_live hlive hok
    ·exact Blk.ok_live hlive (h.nheap i C h1) }
theorem Z8m (h:R bd N s r g tm st w) {i:Nat} {s':St} (hs:settle s i=some s'):R bd N s' r g tm st w:=by
 unfold settle at hs
 split at hs
 case h_2=>cases hs
 rename_i t e k ix t' v hid
 split at hs
 case isFalse=>cases hs
 rename_i ht
 subst ht
 simp only [Y4] at hs
 subst hs
 refine h.reblk hid (fun hB=>?_) ?_ fun l hl=>(by cases hl)
 ·obtain ⟨v0,⟨c2,ov,xs,b1,b2,b3,b4,b5⟩,hav⟩:=hB
  have hds:(den (.o3 (.set t' k) e ix v) r:List t'.D)=(den e r:List t'.D).set (Int.toNat (den ix r)) (den v r):=Z5C e ix v
  refine ⟨ov,xs,List.replicate (den e r:List t'.D).length [],?_,?_,?_,fun m hm=>?_⟩
  ·rw [hds,YC];exact b1
  ·rw [b2,Z4R,Yx]
  ·rw [hds,YC,Yy]
  ·have hm':m<(den e r:List t'.D).length:=by rw [hds,YC] at hm;exact hm
   by_cases hmn:m=Int.toNat (den ix r)
   ·subst hmn
    refine ⟨[v0],by rw [c2];rfl,fun j u hj=>?_,?_⟩
    ·cases j with
     | zero=>simp only [List.getElem?_cons_zero,Y4] at hj;subst hj;rw [c2,Nat.mul_one,Nat.add_zero];exact b4
     | succ j=>simp at hj
    ·simp only [Row,Yg,if_false]
     refine ⟨by simp [Y8,hm'],?_⟩
     have he:(den (.o3 (.set t' k) e ix v) r:List t'.D)[Int.toNat (den ix r)]=den v r:=by simp only [hds,List.getElem_set_self]
     rw [he]
     exact hav
   ·obtain ⟨us,a1,a2,a3⟩:=b5 m hm' hmn
    refine ⟨us,a1,a2,?_⟩
    simp only [Row,Yg,if_false]
    refine ⟨by simp [Y8,hm'],?_⟩
    have he:(den (.o3 (.set t' k) e ix v) r:List t'.D)[m]=(den e r:List t'.D)[m]:=by simp only [hds];rw [List.getElem_set_ne (Ne.symm hmn)]
    rw [he]
    exact a3
 ·obtain ⟨n1,n2,n3⟩:=h.nheap _ _ hid
  exact ⟨n1,n2,n3⟩
theorem Z8n (h:R bd N s r g tm st w) {i:Nat} {s':St} (hs:back s i=some s'):∃g',R bd N s' r g' tm st w:=by
 unfold back at hs
 split at hs
 ·exact ⟨g,Z8m (h.freeze _) hs⟩
 ·exact ⟨g,Z8m h hs⟩
 ·exact Z6A (a:=⟨tm,[]⟩) h hs
 ·cases hs
theorem Z8o (h:R bd N s r g tm st w) {id:Nat} {a:Atom} {act:Trn} {s':St} {a':Option Atom} (ht:Z1J s id a act=some (s',a')) (ha:a.ok N s.heap) :
  ∃g',R bd N s' r g' tm st w∧∀b,a'=some b→s'.cur=s.cur∧(∀i B,s.heap i=some B→s'.heap i=some B∧g' i=g i)∧b.ok N s'.heap∧∀v,Z7 w (Mt bd.Z s.heap g) g r a v→Z7 w (Mt bd.Z s'.heap g') g' r b v:=by
 unfold Z1J at ht
 split at ht
 ·rename_i dp t
  split at ht
  ·split at ht
   case isFalse=>cases ht
   rename_i hf
   simp only [Y4,Y9] at ht
   obtain ⟨rfl,rfl⟩:=ht
   obtain ⟨hid,hnp⟩:=free_eq hf
   have hm:=h.made (w':=w) [] id (.arr dp t (.nil false t)) Z7J hid hnp (fun k hk=>by cases hk) (fun _ _ _=>rfl)
    (fun M' _ _ _ _=>Z7T (by simp) (by simp [den])) trivial (by simp [Z7J]) (fun b hb=>by simp [Z7J] at hb) (Yh _) rfl rfl rfl
   refine ⟨_,hm,fun b hb=>?_⟩
   cases hb
   refine ⟨rfl,fun i B hi=>?_,by simp [Atom.ok,St.new,upd],fun v hv=>?_⟩
   ·have:i≠id:=by rintro rfl;rw [hid] at hi;cases hi
    exact ⟨by simp [St.new,upd,show (i==id)=false by simpa using this,hi,St.kills],by simp [this]⟩
   ·simp only [Z7] at hv ⊢
    subst hv
    simp [Z7J]
  ·cases ht
 ·rename_i t
  split at ht
  ·simp only [Y4,Y9] at ht
   obtain ⟨rfl,rfl⟩:=ht
   refine ⟨g,h,fun b hb=>?_⟩
   cases hb
   refine ⟨rfl,fun i B hi=>⟨hi,rfl⟩,trivial,fun v hv=>?_⟩
   simp only [Z7] at hv ⊢
   subst hv
   exact ⟨none,0,rfl,Yh _,fun h=>(by cases h),fun _=>rfl,fun p hp=>by cases hp⟩
  ·simp only [Y4,Y9] at ht
   obtain ⟨rfl,rfl⟩:=ht
   exact ⟨g,h.freeze _,fun b hb=>by cases hb⟩
  ·simp only [Y4,Y9] at ht
   obtain ⟨rfl,rfl⟩:=ht
   exact ⟨g,h.freeze _,fun b hb=>by cases hb⟩
  ·simp only [Y4,Y9] at ht
   obtain ⟨rfl,rfl⟩:=ht
   exact ⟨g,h.freeze _,fun b hb=>by cases hb⟩
  ·simp only [Y4,Y9] at ht
   obtain ⟨rfl,rfl⟩:=ht
   refine ⟨g,h,fun b hb=>?_⟩
   cases hb
   exact ⟨rfl,fun i B hi=>⟨hi,rfl⟩,ha,fun v hv=>hv.1⟩
  ·simp only [Y4,Y9] at ht
   obtain ⟨rfl,rfl⟩:=ht
   refine ⟨g,h,fun b hb=>?_⟩
   cases hb
   refine ⟨rfl,fun i B hi=>⟨hi,rfl⟩,ha,fun v hv=>?_⟩
   obtain ⟨x,cp,h1,h2,h3,h4,h5⟩:=hv
   exact ⟨x,cp,h1,h2,fun h=>(by cases h),h4,h5⟩
  ·cases ht
 ·split at ht
  ·rename_i i
   split at ht
   ·rename_i s2 hb
    simp only [Y4,Y9] at ht
    obtain ⟨rfl,rfl⟩:=ht
    obtain ⟨g',h2⟩:=Z8n h hb
    exact ⟨g',h2,fun b hb=>by cases hb⟩
   ·simp only [Y4,Y9] at ht
    obtain ⟨rfl,rfl⟩:=ht
    obtain ⟨g',h1,h2⟩:=h.shallow i
    exact ⟨g',h2,fun b hb=>by cases hb⟩
  ·cases ht
 ·split at ht
  ·simp only [Y4,Y9] at ht
   obtain ⟨rfl,rfl⟩:=ht
   refine ⟨g,h,fun b hb=>?_⟩
   cases hb
   refine ⟨rfl,fun i B hi=>⟨hi,rfl⟩,trivial,fun v hv=>?_⟩
   simp only [Z7] at hv ⊢
   subst hv
   exact ⟨none,0,rfl,Yh _,fun _=>⟨fun _=>rfl,fun _=>rfl⟩,fun _=>rfl,fun p hp=>by cases hp⟩
  ·cases ht
 ·split at ht
  ·rename_i i
   split at ht
   ·rename_i s2 hb
    simp only [Y4,Y9] at ht
    obtain ⟨rfl,rfl⟩:=ht
    obtain ⟨g',h2⟩:=Z8n h hb
    exact ⟨g',h2,fun b hb=>by cases hb⟩
   ·cases ht
  ·cases ht
theorem Z8p {s:St} {slot:Nat} {v:SV} (h:s.cur.getD slot (.a .no)=v) (hv:v≠.a .no):s.cur[slot]?=some v:=by
 rw [Y8] at h
 cases hx:s.cur[slot]? with
 | none=>rw [hx] at h;exact (hv h.symm).elim
 | some y=>rw [hx] at h;simpa using h
theorem Z8q (h:R bd N s r g tm st w) (id slot:Nat) (c:Option Nat) (act:Trn):∃g',R bd N (Z1K s id slot c act) r g' tm st w:=by
 unfold Z1K
 split
 ·split
  ·rename_i a hslot
   split
   ·rename_i s' a' ht
    have hne:(SV.a a)≠.a .no:=by
     intro he
     cases he
     unfold Z1J at ht
     split at ht<;>cases ht
    have hg:=Z8p hslot hne
    obtain ⟨g',h1,h2⟩:=Z8o h ht (h.ncur _ (YD hg))
    obtain ⟨e1,e2,e3,e4⟩:=h2 a' rfl
    refine ⟨g',h1.reslot (old:=.a a) (by rw [e1];exact hg) (fun v hv=>?_) e3⟩
    obtain ⟨v0,hv0,hs0⟩:=h.cur.get hg
    rw [hv0] at hv
    cases hv
    exact e4 _ hs0
   ·rename_i s' ht
    by_cases hne:(SV.a a)=.a .no
    ·cases hne
     unfold Z1J at ht
     split at ht<;>cases ht
    ·have hg:=Z8p hslot hne
     obtain ⟨g',h1,_⟩:=Z8o h ht (h.ncur _ (YD hg))
     exact ⟨g',h1⟩
   ·exact ⟨g,h⟩
  ·exact ⟨g,h⟩
 ·rename_i c
  split
  ·rename_i b l hbox
   have hb:s.heap b=some (.box l):=by
    unfold Z1I at hbox
    split at hbox
    ·split at hbox
     ·rename_i hh;simp only [Y4,Y9] at hbox;obtain ⟨rfl,rfl⟩:=hbox;exact hh
     ·cases hbox
    ·cases hbox
   have hatom:∀s' a',Z1J s id (l.getD c .no) act=some (s',a')→l[c]?=some (l.getD c .no):=by
    intro s' a' ht
    rw [Y8] at ht ⊢
    cases hx:l[c]? with
    | none =>
     rw [hx] at ht
     simp only [Option.getD_none] at ht
     unfold Z1J at ht
     split at ht<;>cases ht
    | some y=>rfl
   split
   ·rename_i s' a' ht
    have hl:=hatom _ _ ht
    obtain ⟨g',h1,h2⟩:=Z8o h ht (h.nheap b _ hb _ (YD hl))
    obtain ⟨e1,e2,e3,e4⟩:=h2 a' rfl
    split
    ·rename_i l' hl'
     have:=(e2 b _ hb).1
     rw [this] at hl'
     cases hl'
     have hbrep:=h.heap b _ hb
     refine ⟨g',h1.reblk this (fun hB=>?_) ?_ fun l0 _=>⟨_,rfl⟩⟩
     ·obtain ⟨f1,cs,ty,f2,f3⟩:=hB
      obtain ⟨_,cs0,ty0,f20,f30⟩:=hbrep
      rw [(e2 b _ hb).2,f20] at f2
      cases f2
      refine ⟨f1,cs,ty,by rw [(e2 b _ hb).2];exact f20,?_⟩
      obtain ⟨v,hv,hs⟩:=f30.get hl
      have h3:=f3.set (i:=c) (e4 v hs)
      rwa [Z8j hv] at h3
     ·intro x hx
      rcases List.mem_or_eq_of_mem_set hx with hx | rfl
      ·exact h1.nheap b _ this x hx
      ·exact e3
    ·exact ⟨g,h⟩
   ·rename_i s' ht
    have hl:=hatom _ _ ht
    obtain ⟨g',h1,_⟩:=Z8o h ht (h.nheap b _ hb _ (YD hl))
    exact ⟨g',h1⟩
   ·exact ⟨g,h⟩
  ·exact ⟨g,h⟩
theorem Z8r:∀{s:St} {g:Nat→G} (id:Nat) (l:List (Nat×Option Nat×Trn)),R bd N s r g tm st w→∃g',R bd N (Z1L s id l) r g' tm st w
 | s,g,id,[],h=>⟨g,h⟩
 | s,g,id,(slot,c,a)::l,h=>by
  obtain ⟨g',h'⟩:=Z8q h id slot c a
  exact Z8r (id+1) l h'
end
end Go.Sm
namespace Go.Sm
theorem Z8s {t t':Ty} {e:E t} {e':E t'} (h:eqV e e'=true):(⟨t,e⟩:AE)=⟨t',e'⟩:=by
 unfold eqV at h
 split at h
 ·simp only [Y5,Ye] at h
  obtain ⟨rfl,rfl⟩:=h
  rfl
 ·cases h
theorem Z8t {t t':Ty} {e:E t} {e':E t'} (h:Z1F e e'=true):(⟨t,e⟩:AE)=⟨t',e'⟩:=by
 unfold Z1F at h
 split at h
 ·simp only [Y5,Ye] at h
  obtain ⟨rfl,rfl⟩:=h
  rfl
 ·simp only [Y5,Ye] at h
  obtain ⟨rfl,rfl⟩:=h
  rfl
 ·simp only [beq_iff_eq] at h
  subst h
  rfl
 ·cases h
theorem Z8u {a b:Atom} (h:eqA a b=true):a=b:=by
 unfold eqA at h
 split at h
 ·rfl
 ·rfl
 ·rfl
 ·simp only [Y5,Ye] at h
  have:=Z8t h.2
  cases this;rfl
 ·simp only [Y5,Ye] at h
  obtain ⟨rfl,h⟩:=h
  have:=Z8s h
  simp at this;rw [this]
 ·simp only [Ye] at h;rw [h]
 ·simp only [Y5,Ye] at h;rw [h.1,h.2]
 ·simp only [Y5,Ye] at h
  obtain ⟨⟨⟨⟨rfl,rfl⟩,rfl⟩,h⟩,rfl⟩:=h
  have:=Z8s h
  simp at this;rw [this]
 ·simp only [Y5,Ye] at h
  obtain ⟨⟨⟨⟨⟨rfl,rfl⟩,h1⟩,rfl⟩,h⟩,rfl⟩:=h
  have h2:=Z8s h
  have h3:=Z8s h1
  simp at h2 h3;rw [h2,h3]
 ·simp only [Y5,Ye] at h;rw [h.1,h.2]
 ·simp only [Y5,Ye] at h
  obtain ⟨⟨⟨⟨rfl,rfl⟩,rfl⟩,h⟩,rfl⟩:=h
  have:=Z8s h
  simp at this;rw [this]
 ·simp only [Y5,Ye] at h
  obtain ⟨⟨⟨⟨⟨⟨⟨⟨rfl,rfl⟩,rfl⟩,h⟩,rfl⟩,rfl⟩,rfl⟩,h2⟩,rfl⟩:=h
  have h3:=Z8s h
  have h4:=Z8s h2
  simp at h3 h4;rw [h3,h4]
 ·simp only [Y5,Ye] at h
  obtain ⟨⟨⟨rfl,rfl⟩,h1⟩,h2⟩:=h
  have h3:=Z8s h1
  have h4:=Z8s h2
  simp at h3 h4;rw [h3,h4]
 ·cases h
theorem Z8v {α:Type} {p:α→α→Bool} (hp:∀a b,p a b=true→a=b):∀{l m:List α},eqL p l m=true→l=m
 | [],[],_=>rfl
 | a::l,b::m,h=>by
  simp only [eqL,Y5] at h
  rw [hp a b h.1,Z8v hp h.2]
 | [],_::_,h=>by simp [eqL] at h
 | _::_,[],h=>by simp [eqL] at h
theorem Z8w {a b:SV} (h:Z1G a b=true):a=b:=by
 unfold Z1G at h
 split at h
 ·rw [Z8u h]
 ·rw [Z8v (fun a b h=>Z8u h) h]
 ·rw [Z8v (fun c d h=>?_) h]
  simp only [Y5,Ye] at h
  exact Prod.ext h.1 (Z8v (fun a b h=>Z8u h) h.2)
 ·cases h
theorem Z8x {a b:Blk} (h:eqB a b=true):a=b:=by
 unfold eqB at h
 split at h
 ·rw [Z8v (fun a b h=>Z8u h) h]
 ·simp only [Y5,Ye] at h
  obtain ⟨⟨rfl,rfl⟩,h⟩:=h
  have:=Z8s h
  simp at this;rw [this]
 ·simp only [Y5,Ye] at h
  obtain ⟨⟨⟨⟨⟨rfl,h⟩,rfl⟩,h2⟩,rfl⟩,h5⟩:=h
  have h3:=Z8s h
  have h4:=Z8s h2
  simp at h3 h4;rw [h3,h4,Z8u h5]
 ·simp only [Y5,Ye] at h
  obtain ⟨⟨⟨⟨rfl,h⟩,rfl⟩,h2⟩,h5⟩:=h
  have h3:=Z8s h
  have h4:=Z8s h2
  simp at h3 h4;rw [h3,h4,Z8u h5]
 ·cases h
theorem NS.eq_eq {a b:NS} (h:a.eq b=true):a=b:=by
 cases a;cases b
 simp only [NS.eq,Y5,Ye] at h
 obtain ⟨⟨⟨⟨h1,h2⟩,h3⟩,rfl⟩,rfl⟩:=h
 rw [Z8v (fun a b h=>Z8w h) h1,Z8v (fun a b h=>Z8v (fun a b h=>Z8w h) h) h2,Z8v (fun a b h=>Z8x h) h3]
theorem Z8y {a:Atom} {b:Bool} {n:Nat}:((a.sub b n).es b).length=(a.es b).length:=by
 cases a<;>simp only [Atom.sub,Atom.es]<;>try rfl
 rename_i t e
 by_cases hb:(b&&isLit e)=true
 ·rw [if_pos hb]
 ·rw [if_neg hb,if_neg hb]
  simp only [isLit,Bool.and_false,Yg,if_false]
  rfl
theorem Z8z {b:Bool}:∀{l:List Atom} {n:Nat},(esL b (Z1y b n l)).length=(esL b l).length
 | [],_=>rfl
 | a::l,n=>by simp only [Z1y,esL,Y7,Z8y,Z8z]
theorem Z8A {b:Bool}:∀{l:List (Bool×List Atom)} {n:Nat},(esC b (Z1z b n l)).length=(esC b l).length
 | [],_=>rfl
 | a::l,n=>by simp only [Z1z,esC,Y7,Z8z,Z8A]
theorem Z8B {b:Bool} {v:SV} {n:Nat}:((v.sub b n).es b).length=(v.es b).length:=by
 cases v<;>simp only [SV.sub,SV.es,Z8y,Z8z,Z8A]
theorem Z8C {b:Bool}:∀{l:List SV} {n:Nat},(esS b (Z1A b n l)).length=(esS b l).length
 | [],_=>rfl
 | a::l,n=>by simp only [Z1A,esS,Y7,Z8B,Z8C]
theorem Z8D:∀{l:List (List SV)} {n:Nat},(Z1B (Z1C n l)).length=(Z1B l).length
 | [],_=>rfl
 | a::l,n=>by simp only [Z1C,Z1B,Y7,Z8C,Z8D]
theorem Z8E {B:Blk} {n:Nat}:(B.sub n).es.length=B.es.length:=by
 cases B<;>simp only [Blk.sub,Blk.es,Z8z,Y7,Z8y]<;>rfl
theorem Z8F:∀{l:List Blk} {n:Nat},(esB (Z1D n l)).length=(esB l).length
 | [],_=>rfl
 | a::l,n=>by simp only [Z1D,esB,Y7,Z8E,Z8F]
theorem Z8G {s:St} {vs:List AE} {n:NS} (hn:norm s=some (vs,n)):vs.length≤n.base:=by
 unfold norm at hn
 simp only at hn
 split at hn
 case isFalse=>cases hn
 obtain ⟨hl,hb,h1⟩:=Ya.1 hn
 simp only [Y9] at h1
 obtain ⟨rfl,rfl⟩:=h1
 simp only [NS.base,Z8C,Z8D,Z8F,Y7]
 omega
section
variable {K:Z4} {m:Nat}
def Z8H (h:Hint) (k:Nat) (T:NS) (d:Nat) (out out':Out):Prop :=
 match out with
 | .leaf .normal s r=>∃vs,Z1M h k s=some (vs,T)∧out'=.jump d (vs.map (Z0 · r))
 | o=>out'=o
theorem Z8I {h:Hint} {k:Nat} {T:NS} {t:Tr} {d:Nat} (ih:∀r out',run K m (t.toJumps h k T (d+1)) r=some out'→∃out,run K m t r=some out∧Z8H h k T (d+1) out out') :
  ∀(n:Nat) (vs:List AV) (out':Out),Z3 (run K m (t.toJumps h k T (d+1))) n vs=some out'→∃out,Z3 (run K m t) n vs=some out∧Z8H h k T d out out'
 | 0,_,_,h=>by simp only [Z3] at h;cases h
 | n+1,vs,out',h=>by
  simp only [Z3] at h ⊢
  split at h
  ·rename_i us hr
   obtain ⟨out,h1,h2⟩:=ih _ _ hr
   unfold Z8H at h2
   split at h2
   ·obtain ⟨_,_,h3⟩:=h2;cases h3
   ·subst h2;rw [h1];exact Z8I ih n us out' h
  ·rename_i l us hr
   cases h
   obtain ⟨out,h1,h2⟩:=ih _ _ hr
   unfold Z8H at h2
   split at h2
   ·rename_i s r
    obtain ⟨ws,h3,h4⟩:=h2
    cases h4
    rw [h1]
    exact ⟨.leaf .normal s r,rfl,ws,h3,rfl⟩
   ·subst h2;rw [h1];exact ⟨.jump l us,rfl,rfl⟩
  ·rename_i x s r hr
   cases h
   obtain ⟨out,h1,h2⟩:=ih _ _ hr
   unfold Z8H at h2
   split at h2
   ·obtain ⟨_,_,h3⟩:=h2;cases h3
   ·rename_i hne
    subst h2
    rw [h1]
    refine ⟨.leaf x s r,rfl,?_⟩
    unfold Z8H
    split
    ·rename_i heq;exact (hne _ _ heq).elim
    ·rfl
  ·rename_i us hr
   cases h
   obtain ⟨out,h1,h2⟩:=ih _ _ hr
   unfold Z8H at h2
   split at h2
   ·obtain ⟨_,_,h3⟩:=h2;cases h3
   ·subst h2;rw [h1];exact ⟨.ret us,rfl,rfl⟩
  ·cases h
theorem Z8J {h:Hint} {k:Nat} {T:NS}:∀(t:Tr) (d:Nat) (r:Env) (out':Out),run K m (t.toJumps h k T d) r=some out'→∃out,run K m t r=some out∧Z8H h k T d out out'
 | .leaf x s,d,r,out',hr=>by
  unfold Tr.toJumps at hr
  split at hr
  ·rename_i d s heq
   cases heq
   split at hr
   ·rename_i vs n hm
    split at hr
    ·rename_i hn
     simp only [run] at hr
     cases hr
     exact ⟨_,rfl,vs,by rw [hm,NS.eq_eq hn],rfl⟩
    ·simp only [run] at hr;cases hr
   ·simp only [run] at hr;cases hr
  ·rename_i x s hne heq
   cases heq
   simp only [run] at hr
   cases hr
   refine ⟨.leaf x s r,rfl,?_⟩
   unfold Z8H
   split
   ·rename_i heq;cases heq;exact (hne rfl).elim
   ·rfl
  all_goals (rename_i heq;cases heq)
 | .bad,d,r,out',hr=>by simp only [Tr.toJumps,run] at hr;cases hr
 | .ite c a b,d,r,out',hr=>by
  simp only [Tr.toJumps,run] at hr ⊢
  split at hr
  ·rename_i hc;simp only [hc,if_true];exact Z8J a d r out' hr
  ·rename_i hc;simp only [hc,if_false,Yg];exact Z8J b d r out' hr
 | .guard c t,d,r,out',hr=>by
  simp only [Tr.toJumps,run] at hr ⊢
  split at hr
  ·rename_i hc;simp only [hc,if_true];exact Z8J t d r out' hr
  ·cases hr
 | .call g ins b t,d,r,out',hr=>by
  simp only [Tr.toJumps,run] at hr ⊢
  split at hr
  ·exact Z8J t d _ out' hr
  ·cases hr
 | .jump l vs,d,r,out',hr=>by
  simp only [Tr.toJumps,run] at hr ⊢
  cases hr
  exact ⟨_,rfl,rfl⟩
 | .ret vs,d,r,out',hr=>by
  simp only [Tr.toJumps,run] at hr ⊢
  cases hr
  exact ⟨_,rfl,rfl⟩
 | .join t u,d,r,out',hr=>by
  simp only [Tr.toJumps,run] at hr ⊢
  split at hr
  ·rename_i us hr'
   obtain ⟨out,h1,h2⟩:=Z8J t (d+1) _ _ hr'
   unfold Z8H at h2
   split at h2
   ·obtain ⟨_,_,h3⟩:=h2;cases h3
   ·subst h2;rw [h1];exact Z8J u d _ _ hr
  ·rename_i l us hr'
   cases hr
   obtain ⟨out,h1,h2⟩:=Z8J t (d+1) _ _ hr'
   unfold Z8H at h2
   split at h2
   ·rename_i s r
    obtain ⟨ws,h3,h4⟩:=h2
    cases h4
    rw [h1]
    exact ⟨.leaf .normal s r,rfl,ws,h3,rfl⟩
   ·subst h2;rw [h1];exact ⟨.jump l us,rfl,rfl⟩
  ·rename_i x s r hr'
   cases hr
   obtain ⟨out,h1,h2⟩:=Z8J t (d+1) _ _ hr'
   unfold Z8H at h2
   split at h2
   ·obtain ⟨_,_,h3⟩:=h2;cases h3
   ·rename_i hne
    subst h2
    rw [h1]
    refine ⟨.leaf x s r,rfl,?_⟩
    unfold Z8H
    split
    ·rename_i heq;exact (hne _ _ heq).elim
    ·rfl
  ·rename_i us hr'
   cases hr
   obtain ⟨out,h1,h2⟩:=Z8J t (d+1) _ _ hr'
   unfold Z8H at h2
   split at h2
   ·obtain ⟨_,_,h3⟩:=h2;cases h3
   ·subst h2;rw [h1];exact ⟨.ret us,rfl,rfl⟩
  ·cases hr
 | .loop i b,d,r,out',hr=>by
  simp only [Tr.toJumps,run] at hr ⊢
  exact Z8I (fun r out' h=>Z8J b (d+1) r out' h) m _ out' hr
end
end Go.Sm
namespace Go.Sm
def Rel (l:List (Nat×Nat×Nat)) (r r':Env):Prop:=∀i j,alV l i j=true→r i=r' j
theorem Z8K (r:Env):Rel [] r r:=fun i j h=>by
 simp only [alV,Ye] at h
 rw [h]
theorem Z8L {r r':Env} (h:Rel [] r r'):r=r':=funext fun i=>h i i (by simp [alV])
theorem Z8M {l:List (Nat×Nat×Nat)} {r r':Env} (h:Rel l r r') {a b:Nat} {vs:List AV}:Rel (Z2G a b vs.length l) (Z2 r a vs) (Z2 r' b vs):=by
 unfold Z2G
 by_cases h0:vs.length=0
 ·rw [if_pos h0,List.eq_nil_of_length_eq_zero h0]
  have e:∀(r:Env) (a:Nat),Z2 r a []=r:=fun r a=>by
   funext i
   simp only [Z2]
   split
   ·rfl
   ·rw [if_neg (by simp)]
  rw [e,e]
  exact h
 rw [if_neg h0]
 intro i j hij
 simp only [alV] at hij
 rw [if_neg h0] at hij
 by_cases h1:a≤i∧i<a+vs.length
 ·rw [if_pos h1] at hij
  simp only [Ye] at hij
  subst hij
  simp only [Z2]
  rw [if_neg (by omega),if_pos (by omega),if_neg (by omega),if_pos (by omega)]
  congr 1
  omega
 ·rw [if_neg h1] at hij
  by_cases h2:b≤j∧j<b+vs.length
  ·rw [if_pos h2] at hij;cases hij
  ·rw [if_neg h2] at hij
   have:=h i j hij
   simp only [Z2]
   have e1:(if i<a then r i else if i - a<vs.length then vs.getD (i - a) Z05 else r i)=r i:=by
    by_cases h3:i<a
    ·rw [if_pos h3]
    ·rw [if_neg h3,if_neg (by omega)]
   have e2:(if j<b then r' j else if j - b<vs.length then vs.getD (j - b) Z05 else r' j)=r' j:=by
    by_cases h3:j<b
    ·rw [if_pos h3]
    ·rw [if_neg h3,if_neg (by omega)]
   rw [e1,e2,this]
theorem Z8N {a b c a' b' c':Ty} (o:O2 a b c) (p:O2 a' b' c') (h:Z2H o p=true) (x:a.D) (y:a'.D) (hxy:(⟨a,x⟩:AV)=⟨a',y⟩) (u:b.D) (v:b'.D) (huv:(⟨b,u⟩:AV)=⟨b',v⟩) :
  (⟨c,o.d x u⟩:AV)=⟨c',p.d y v⟩:=by
 by_cases h0:Z07 o p=true
 ·exact Z3z o p h0 x y hxy u v huv
 cases o<;>cases p<;>simp only [Z2H,h0,Y5,Ye,Yg] at h <;>
  first
  | exact h.elim
  | (subst h;cases hxy;cases huv;rfl)
  | (obtain ⟨rfl,rfl⟩:=h;cases hxy;cases huv;rfl)
  | (obtain ⟨⟨rfl,rfl⟩,rfl⟩:=h;cases hxy;cases huv;rfl)
  | (cases hxy;cases huv;rfl)
theorem Z8O {a b c d a' b' c' d':Ty} (o:O3 a b c d) (p:O3 a' b' c' d') (h:Z2I o p=true) (x:a.D) (y:a'.D) (hxy:(⟨a,x⟩:AV)=⟨a',y⟩) (u:b.D) (v:b'.D) (huv:(⟨b,u⟩:AV)=⟨b',v⟩)
  (e:c.D) (f:c'.D) (hef:(⟨c,e⟩:AV)=⟨c',f⟩):(⟨d,o.d x u e⟩:AV)=⟨d',p.d y v f⟩:=by
 cases o<;>cases p<;>simp only [Z2I,Y5,Ye,Yg] at h <;>
  first
  | (subst h;cases hxy;cases huv;cases hef;rfl)
  | (obtain ⟨rfl,rfl⟩:=h;cases hxy;cases huv;cases hef;rfl)
section
variable {l:List (Nat×Nat×Nat)} {r r':Env}
theorem Z8P (hr:Rel l r r'):∀{t t':Ty} (x:E t) (y:E t'),alE l x y=true→(⟨t,den x r⟩:AV)=⟨t',den y r'⟩:=by
 intro t t' x
 induction x generalizing t' with
 | var t i =>
  intro y h
  cases y<;>simp only [alE,Y5,Ye,Yg] at h
  obtain ⟨rfl,h⟩:=h
  simp only [den,hr _ _ h]
 | int k n=>intro y h;cases y<;>simp only [alE,Y5,Ye,Yg] at h;obtain ⟨rfl,rfl⟩:=h;rfl
 | bool b=>intro y h;cases y<;>simp only [alE,beq_iff_eq,Yg] at h;subst h;rfl
 | str b=>intro y h;cases y<;>simp only [alE,Ye,Yg] at h;subst h;rfl
 | nil c e=>intro y h;cases y<;>simp only [alE,Y5,Ye,Yg] at h;obtain ⟨rfl,rfl⟩:=h;rfl
 | z t=>intro y h;cases y<;>simp only [alE,Ye,Yg] at h;subst h;rfl
 | o1 o x ih =>
  intro y h
  cases y<;>simp only [alE,Y5,Yg] at h
  exact Z3y o _ h.1 _ _ (ih _ h.2)
 | o2 o x y ihx ihy =>
  intro z h
  cases z<;>simp only [alE,Y5,Yg] at h
  exact Z8N o _ h.1.1 _ _ (ihx _ h.1.2) _ _ (ihy _ h.2)
 | o3 o x y z ihx ihy ihz =>
  intro u h
  cases u<;>simp only [alE,Y5,Yg] at h
  exact Z8O o _ h.1.1.1 _ _ (ihx _ h.1.1.2) _ _ (ihy _ h.1.2) _ _ (ihz _ h.2)
theorem Z8Q {α:Type} (l:List α) (i j:Nat) (u:α):(l.set i u).set j u=(l.set j u).set i u:=by
 by_cases h:i=j
 ·rw [h]
 ·exact List.set_comm u u h
theorem Z8R {a:Ty} {e:E a} {p:SetV} (h:Z2J e=some p) (r:Env):(⟨a,den e r⟩:AV)=⟨.sl false p.t,List.set (α:=p.t.D) (den p.x r) (Int.toNat (den p.i r)) (den p.u r)⟩:=by
 unfold Z2J at h
 split at h
 case h_2=>cases h
 cases h
 rfl
theorem Z8S {t:Ty} {e:E (.sl false t)} {p:SetV} (h:Z2J e=some p):p.t=t:=by
 have:=congrArg Sigma.fst (Z8R h (fun _=>Z05))
 simp at this
 exact this.symm
theorem Z8T (hr:Rel l r r') {t t':Ty} (x:E t) (y:E t') (h:Z2K l x y=true):(⟨t,den x r⟩:AV)=⟨t',den y r'⟩:=by
 unfold Z2K at h
 split at h
 case h_2=>cases h
 rename_i p q hp hq
 split at h
 case h_2=>cases h
 rename_i p' q' hp' hq'
 simp only [Y5,Ye] at h
 obtain ⟨⟨⟨⟨⟨⟨h0,hx⟩,hi⟩,hj⟩,h1⟩,h2⟩,h3⟩:=h
 rw [Z8R hp r,Z8R hq r']
 have f1:=Z8R hp' r
 have f2:=Z8R hq' r'
 have t1:=Z8S hp'
 have t2:=Z8S hq'
 clear hp hq hp' hq'
 obtain ⟨tp,kp,xp,ip,up⟩:=p
 obtain ⟨tq,kq,xq,iq,uq⟩:=q
 obtain ⟨tp',kp',xp',ip',up'⟩:=p'
 obtain ⟨tq',kq',xq',iq',uq'⟩:=q'
 simp only at h0 hx hi hj h1 h2 h3 f1 f2 t1 t2 ⊢
 subst h0;subst t1;subst t2
 have ex:=Z8P hr _ _ hx
 have e1:=Z8P hr _ _ h1
 have e2:=Z8P hr _ _ h2
 have e3:=Z8P hr _ _ h3
 have nI:∀{k k':IntKind} {x:Int} {y:Int},((⟨.int k,x⟩:AV)=⟨.int k',y⟩)→x=y:=by
  intro k k' x y hxy;cases hxy;rfl
 have ei:=congrArg Int.toNat (nI (Z8P hr _ _ hi))
 have ej:=congrArg Int.toNat (nI (Z8P hr _ _ hj))
 simp only [Sigma.mk.injEq,heq_eq_eq,true_and] at ex e1 e2 e3 f1 f2 ⊢
 rw [f1,f2,ex,ei,ej,e2,e3,←e1,e3]
 exact Z8Q _ _ _ _
theorem Z8U (hr:Rel l r r') {a b:AE} (h:alA l a b=true):Z0 a r=Z0 b r':=by
 simp only [alA,YL] at h
 rcases h with h | h
 ·exact Z8P hr _ _ h
 ·exact Z8T hr _ _ h
theorem Z8V (hr:Rel l r r'):∀{as bs:List AE},eqL (alA l) as bs=true→as.map (Z0 · r)=bs.map (Z0 · r')
 | [],[],_=>rfl
 | a::as,b::bs,h=>by
  simp only [eqL,Y5] at h
  simp only [List.map_cons,Z8U hr h.1,Z8V hr h.2]
 | [],_::_,h=>by simp [eqL] at h
 | _::_,[],h=>by simp [eqL] at h
end
def OR:Out→Out→Prop
 | .leaf x _ r,.leaf x' _ r'=>x=x'∧r=r'
 | .jump l us,.jump l' us'=>l=l'∧us=us'
 | .ret us,.ret us'=>us=us'
 | _,_=>False
theorem Z8W {f f':Env→Option Out} (h:∀r out,f r=some out→∃out',f' r=some out'∧OR out out'):∀(n:Nat) (vs:List AV) (out:Out),Z3 f n vs=some out→∃out',Z3 f' n vs=some out'∧OR out out'
 | 0,_,_,hl=>by simp only [Z3] at hl;cases hl
 | n+1,vs,out,hl=>by
  simp only [Z3] at hl ⊢
  split at hl
  ·rename_i us hr
   obtain ⟨o,h1,h2⟩:=h _ _ hr
   cases o<;>simp only [OR] at h2
   obtain ⟨rfl,rfl⟩:=h2
   rw [h1]
   exact Z8W h n us out hl
  ·rename_i k us hr
   cases hl
   obtain ⟨o,h1,h2⟩:=h _ _ hr
   cases o<;>simp only [OR] at h2
   obtain ⟨rfl,rfl⟩:=h2
   rw [h1]
   exact ⟨_,rfl,rfl,rfl⟩
  ·rename_i x s r hr
   cases hl
   obtain ⟨o,h1,h2⟩:=h _ _ hr
   cases o<;>simp only [OR] at h2
   obtain ⟨rfl,rfl⟩:=h2
   rw [h1]
   exact ⟨_,rfl,rfl,rfl⟩
  ·rename_i us hr
   cases hl
   obtain ⟨o,h1,h2⟩:=h _ _ hr
   cases o<;>simp only [OR] at h2
   subst h2
   rw [h1]
   exact ⟨_,rfl,rfl⟩
  ·cases hl
theorem Z8X {b:Nat} {vs:List AV} {r:Env}:∀{t:Ty} (e:E t),e.noV b vs.length=true→den e (Z2 r b vs)=den e r:=by
 intro t e
 induction e with
 | var t i =>
  intro h
  simp only [E.noV,Yr,Bool.and_eq_false_iff,YH] at h
  simp only [den,Z2]
  by_cases h1:i<b
  ·rw [if_pos h1]
  ·rw [if_neg h1,if_neg (by omega)]
 | o1 o x ih=>intro h;simp only [den,ih h]
 | o2 o x y ihx ihy=>intro h;simp only [E.noV,Y5] at h;simp only [den,ihx h.1,ihy h.2]
 | o3 o x y z ihx ihy ihz=>intro h;simp only [E.noV,Y5] at h;simp only [den,ihx h.1.1,ihy h.1.2,ihz h.2]
 | _=>intro _;simp only [den]
theorem Z8Y {c:Cx} {K:Z4} {m:Nat} (hlen:Z7c c K):∀(t:Tr) (r:Env) (out:Out),run K m t r=some out→∀e∈Z2L c t,den e r=true:=by
 intro t
 induction t with
 | guard c1 t ih =>
  intro r out h e he
  simp only [run] at h
  split at h
  ·rename_i hc
   rcases Yl.1 he with rfl | he
   ·exact hc
   ·exact ih r out h e he
  ·cases h
 | call f ins b t ih =>
  intro r out h e he
  simp only [run] at h
  split at h
  case h_2=>cases h
  rename_i vs hv
  simp only [Z2L] at he
  split at he
  ·rename_i g hg
   obtain ⟨h1,h2⟩:=List.mem_filter.1 he
   rw [←hlen f g _ _ hg hv] at h2
   rw [←Z8X e h2 (r:=r)]
   exact ih _ out h e h1
  ·cases he
 | _=>intro r out h e he;cases he
theorem Z8Z {K:Z4} {m:Nat} {l:List (Nat×Nat×Nat)} {r r':Env} (hr:Rel l r r') {gs:List (E .bool)} (hg:∀e∈gs,den e r=true):∀(t':Tr),run K m t' r'=run K m (Z2M l gs t') r':=by
 intro t'
 induction t' with
 | guard e t ih =>
  simp only [Z2M]
  cases hc:gs.any fun g=>alE l g e
  ·rfl
  ·obtain ⟨g,h1,h2⟩:=YQ.1 hc
   have h3:=Z8P hr _ _ h2
   simp only [Sigma.mk.injEq,heq_eq_eq,true_and] at h3
   simp only [cond_true,run]
   rw [←h3,hg g h1,if_pos rfl]
   exact ih
 | _=>rfl
theorem Z8_ {c:Cx} {K:Z4} {m:Nat} (hlen:Z7c c K):∀(t t':Tr) (l:List (Nat×Nat×Nat)) (gs:List (E .bool)) (r r':Env) (out:Out),alT c l gs t t'=true→Rel l r r'→(∀e∈gs,den e r=true)→run K m t r=some out→∃out',run K m t' r'=some out'∧OR out out':=by
 intro t
 induction t with
 | leaf x s =>
  intro t' l gs r r' out h hr hgs hrun
  simp only [alT] at h
  rw [Z8Z hr hgs t']
  split at h
  case h_2=>cases h
  rename_i x' s' he
  rw [he]
  simp only [Y5,List.isEmpty_iff,Ye] at h
  obtain ⟨rfl,rfl⟩:=h
  simp only [run] at hrun ⊢
  cases hrun
  exact ⟨_,rfl,rfl,Z8L hr⟩
 | bad=>intro t' l gs r r' out h hr hgs hrun;simp only [run] at hrun;cases hrun
 | ite c1 a b iha ihb =>
  intro t' l gs r r' out h hr hgs hrun
  simp only [alT] at h
  rw [Z8Z hr hgs t']
  split at h
  case h_2=>cases h
  rename_i c2 a' b' he
  rw [he]
  simp only [Y5] at h
  obtain ⟨⟨h1,h2⟩,h3⟩:=h
  have hc:=Z8P hr _ _ h1
  simp only [Sigma.mk.injEq,heq_eq_eq,true_and] at hc
  simp only [run] at hrun ⊢
  rw [←hc]
  split at hrun
  ·rename_i hh;simp only [hh,if_true];exact iha _ _ _ _ _ _ h2 hr hgs hrun
  ·rename_i hh;simp only [hh,if_false,Yg];exact ihb _ _ _ _ _ _ h3 hr hgs hrun
 | guard c1 t ih =>
  intro t' l gs r r' out h hr hgs hrun
  simp only [alT] at h
  simp only [run] at hrun
  split at hrun
  ·rename_i hh
   refine ih _ _ _ _ _ _ h hr (fun e he=>?_) hrun
   rcases Yl.1 he with rfl | he
   ·exact hh
   ·exact hgs e he
  ·cases hrun
 | call f ins b t ih =>
  intro t' l gs r r' out h hr hgs hrun
  simp only [alT] at h
  split at h
  case h_2=>cases h
  rename_i g hg
  have hsp:=Z8Y hlen (.call f ins b t) r out hrun
  simp only [Z2L,hg] at hsp
  rw [Z8Z hr (gs:=gs++(Z2L c t).filter fun e=>e.noV b g.outs) (fun e he=>by
   rcases Y6.1 he with he | he
   ·exact hgs e he
   ·exact hsp e he) t']
  split at h
  case h_2=>cases h
  rename_i f' ins' b' t'' he
  rw [he]
  simp only [Y5,Ye] at h
  obtain ⟨⟨rfl,h2⟩,h3⟩:=h
  simp only [run] at hrun ⊢
  rw [←Z8V hr h2]
  split at hrun
  case h_2=>cases hrun
  rename_i vs hv
  rw [←hlen f g _ _ hg hv] at h3
  refine ih _ _ _ _ _ _ h3 (Z8M hr) (fun e he=>?_) hrun
  obtain ⟨h4,h5⟩:=List.mem_filter.1 he
  rw [Z8X e h5]
  exact hgs e h4
 | jump n vs =>
  intro t' l gs r r' out h hr hgs hrun
  simp only [alT] at h
  rw [Z8Z hr hgs t']
  split at h
  case h_2=>cases h
  rename_i n' vs' he
  rw [he]
  simp only [Y5,Ye] at h
  obtain ⟨rfl,h2⟩:=h
  simp only [run] at hrun ⊢
  cases hrun
  exact ⟨_,rfl,rfl,Z8V hr h2⟩
 | ret vs =>
  intro t' l gs r r' out h hr hgs hrun
  simp only [alT] at h
  rw [Z8Z hr hgs t']
  split at h
  case h_2=>cases h
  rename_i vs' he
  rw [he]
  simp only [run] at hrun ⊢
  cases hrun
  exact ⟨_,rfl,Z8V hr h⟩
 | join t k iht ihk =>
  intro t' l gs r r' out h hr hgs hrun
  simp only [alT] at h
  rw [Z8Z hr hgs t']
  split at h
  case h_2=>cases h
  rename_i t'' k' he
  rw [he]
  simp only [Y5] at h
  simp only [run] at hrun ⊢
  split at hrun
  ·rename_i us hh
   obtain ⟨o,h1,h2⟩:=iht _ _ _ _ _ _ h.1 hr hgs hh
   cases o<;>simp only [OR] at h2
   obtain ⟨rfl,rfl⟩:=h2
   rw [h1]
   exact ihk _ _ _ _ _ _ h.2 (Z8K _) (fun e he=>by cases he) hrun
  ·rename_i n us hh
   cases hrun
   obtain ⟨o,h1,h2⟩:=iht _ _ _ _ _ _ h.1 hr hgs hh
   cases o<;>simp only [OR] at h2
   obtain ⟨rfl,rfl⟩:=h2
   rw [h1]
   exact ⟨_,rfl,rfl,rfl⟩
  ·rename_i x s r1 hh
   cases hrun
   obtain ⟨o,h1,h2⟩:=iht _ _ _ _ _ _ h.1 hr hgs hh
   cases o<;>simp only [OR] at h2
   obtain ⟨rfl,rfl⟩:=h2
   rw [h1]
   exact ⟨_,rfl,rfl,rfl⟩
  ·rename_i us hh
   cases hrun
   obtain ⟨o,h1,h2⟩:=iht _ _ _ _ _ _ h.1 hr hgs hh
   cases o<;>simp only [OR] at h2
   subst h2
   rw [h1]
   exact ⟨_,rfl,rfl⟩
  ·cases hrun
 | loop i b ih =>
  intro t' l gs r r' out h hr hgs hrun
  simp only [alT] at h
  rw [Z8Z hr hgs t']
  split at h
  case h_2=>cases h
  rename_i i' b' he
  rw [he]
  simp only [Y5] at h
  simp only [run] at hrun ⊢
  rw [←Z8V hr h.1]
  exact Z8W (fun r out hh=>ih _ _ _ _ _ _ h.2 (Z8K r) (fun e he=>by cases he) hh) m _ out hrun
def Z90:Option (List Nat)→List AV→List AV→Prop
 | none,us,us'=>us=us'
 | some q,us,us'=>us.map some=q.map fun k=>us'[k]?
theorem Z91 {l:List (Nat×Nat×Nat)} {r r':Env} (hr:Rel l r r'):∀{vs:List AE} {q:List Nat} {vs':List AE},Z2P l vs q vs'=true→(vs.map (Z0 · r)).map some=q.map fun k=>(vs'.map (Z0 · r'))[k]?
 | [],[],_,_=>rfl
 | v::vs,k::q,vs',h=>by
  simp only [Z2P,Y5] at h
  obtain ⟨h1,h2⟩:=h
  split at h1
  case h_2=>cases h1
  rename_i v' hv
  have h3:=Z91 hr h2
  simp only [List.map_cons,h3,List.getElem?_map,hv,Option.map_some,Z8U hr h1]
 | [],_::_,_,h=>by simp [Z2P] at h
 | _::_,[],_,h=>by simp [Z2P] at h
theorem Z92 {l:List (Nat×Nat×Nat)} {r r':Env} (hr:Rel l r r') {q:Option (List Nat)} {vs vs':List AE} (h:Z2Q l q vs vs'=true):Z90 q (vs.map (Z0 · r)) (vs'.map (Z0 · r')):=by
 cases q with
 | none=>exact Z8V hr h
 | some q=>exact Z91 hr h
theorem Z93 {r r':Env}:∀{q:List Nat} {n:Nat},(∀i k,q[i]?=some k→r (n+i)=r' k)→Rel (Z2N n q) r r'
 | [],n,_=>fun i j h=>by simp [Z2N,alV] at h
 | k::q,n,h=>fun i j hij=>by
  simp only [Z2N,alV,if_true] at hij
  rw [if_neg (by omega)] at hij
  by_cases hi:i=n
  ·rw [if_pos hi] at hij
   simp only [Ye] at hij
   have:j=k:=by omega
   subst this;subst hi
   exact h 0 j rfl
  ·rw [if_neg hi] at hij
   refine Z93 (q:=q) (n:=n+1) (fun i k hk=>?_) i j hij
   have:=h (i+1) k (by simpa using hk)
   rw [←this]
   congr 1
   omega
theorem Z94 {q:Option (List Nat)} {us us':List AV} (h:Z90 q us us'):Rel (Z2O q) (Z1 us) (Z1 us'):=by
 cases q with
 | none=>simp only [Z90] at h;subst h;exact Z8K _
 | some q =>
  simp only [Z90] at h
  refine Z93 fun i k hk=>?_
  have h1:(us.map some)[i]?=some (us'[k]?):=by rw [h,List.getElem?_map,hk];rfl
  rw [List.getElem?_map] at h1
  cases hu:us[i]? with
  | none=>rw [hu] at h1;cases h1
  | some x =>
   rw [hu] at h1
   simp only [Option.map_some,Y4] at h1
   simp only [Z1,Nat.zero_add,Y8,hu,←h1]
def ORD (js:List (Option (List Nat))):Out→Out→Prop
 | .leaf x _ r,.leaf x' _ r'=>x=x'∧r=r'
 | .jump n us,.jump n' us'=>n=n'∧Z90 (js.getD n none) us us'
 | .ret us,.ret us'=>us=us'
 | _,_=>False
theorem Z95 {f f':Env→Option Out} {q:Option (List Nat)} {js:List (Option (List Nat))} (h:∀us us' out,Z90 q us us'→f (Z1 us)=some out→∃out',f' (Z1 us')=some out'∧ORD (q::js) out out') :
  ∀(n:Nat) (us us':List AV) (out:Out),Z90 q us us'→Z3 f n us=some out→∃out',Z3 f' n us'=some out'∧ORD js out out'
 | 0,_,_,_,_,hl=>by simp only [Z3] at hl;cases hl
 | n+1,vs,vs',out,hv,hl=>by
  simp only [Z3] at hl ⊢
  split at hl
  ·rename_i us hr
   obtain ⟨o,h1,h2⟩:=h _ _ _ hv hr
   cases o<;>simp only [ORD] at h2
   obtain ⟨rfl,h2⟩:=h2
   rw [h1]
   exact Z95 h n us _ out h2 hl
  ·rename_i k us hr
   cases hl
   obtain ⟨o,h1,h2⟩:=h _ _ _ hv hr
   cases o<;>simp only [ORD] at h2
   obtain ⟨rfl,h2⟩:=h2
   rw [h1]
   exact ⟨_,rfl,rfl,h2⟩
  ·rename_i x s r hr
   cases hl
   obtain ⟨o,h1,h2⟩:=h _ _ _ hv hr
   cases o<;>simp only [ORD] at h2
   obtain ⟨rfl,rfl⟩:=h2
   rw [h1]
   exact ⟨_,rfl,rfl,rfl⟩
  ·rename_i us hr
   cases hl
   obtain ⟨o,h1,h2⟩:=h _ _ _ hv hr
   cases o<;>simp only [ORD] at h2
   subst h2
   rw [h1]
   exact ⟨_,rfl,rfl⟩
  ·cases hl
theorem Z96 {c:Cx} {K:Z4} {m:Nat} (hlen:Z7c c K):∀(t t':Tr) (l:List (Nat×Nat×Nat)) (gs:List (E .bool)) (js:List (Option (List Nat))) (r r':Env) (out:Out),alD c l gs js t t'=true→Rel l r r'→(∀e∈gs,den e r=true)→run K m t r=some out→∃out',run K m t' r'=some out'∧ORD js out out':=by
 intro t
 induction t with
 | leaf x s =>
  intro t' l gs js r r' out h hr hgs hrun
  simp only [alD] at h
  rw [Z8Z hr hgs t']
  split at h
  case h_2=>cases h
  rename_i x' s' he
  rw [he]
  simp only [Y5,List.isEmpty_iff,Ye] at h
  obtain ⟨rfl,rfl⟩:=h
  simp only [run] at hrun ⊢
  cases hrun
  exact ⟨_,rfl,rfl,Z8L hr⟩
 | bad=>intro t' l gs js r r' out h hr hgs hrun;simp only [run] at hrun;cases hrun
 | ite c1 a b iha ihb =>
  intro t' l gs js r r' out h hr hgs hrun
  simp only [alD] at h
  rw [Z8Z hr hgs t']
  split at h
  case h_2=>cases h
  rename_i c2 a' b' he
  rw [he]
  simp only [Y5] at h
  obtain ⟨⟨h1,h2⟩,h3⟩:=h
  have hc:=Z8P hr _ _ h1
  simp only [Sigma.mk.injEq,heq_eq_eq,true_and] at hc
  simp only [run] at hrun ⊢
  rw [←hc]
  split at hrun
  ·rename_i hh;simp only [hh,if_true];exact iha _ _ _ _ _ _ _ h2 hr hgs hrun
  ·rename_i hh;simp only [hh,if_false,Yg];exact ihb _ _ _ _ _ _ _ h3 hr hgs hrun
 | guard c1 t ih =>
  intro t' l gs js r r' out h hr hgs hrun
  simp only [alD] at h
  simp only [run] at hrun
  split at hrun
  ·rename_i hh
   refine ih _ _ _ _ _ _ _ h hr (fun e he=>?_) hrun
   rcases Yl.1 he with rfl | he
   ·exact hh
   ·exact hgs e he
  ·cases hrun
 | call f ins b t ih =>
  intro t' l gs js r r' out h hr hgs hrun
  simp only [alD] at h
  split at h
  case h_2=>cases h
  rename_i g hg
  have hsp:=Z8Y hlen (.call f ins b t) r out hrun
  simp only [Z2L,hg] at hsp
  rw [Z8Z hr (gs:=gs++(Z2L c t).filter fun e=>e.noV b g.outs) (fun e he=>by
   rcases Y6.1 he with he | he
   ·exact hgs e he
   ·exact hsp e he) t']
  split at h
  case h_2=>cases h
  rename_i f' ins' b' t'' he
  rw [he]
  simp only [Y5,Ye] at h
  obtain ⟨⟨rfl,h2⟩,h3⟩:=h
  simp only [run] at hrun ⊢
  rw [←Z8V hr h2]
  split at hrun
  case h_2=>cases hrun
  rename_i vs hv
  rw [←hlen f g _ _ hg hv] at h3
  refine ih _ _ _ _ _ _ _ h3 (Z8M hr) (fun e he=>?_) hrun
  obtain ⟨h4,h5⟩:=List.mem_filter.1 he
  rw [Z8X e h5]
  exact hgs e h4
 | jump n vs =>
  intro t' l gs js r r' out h hr hgs hrun
  simp only [alD] at h
  rw [Z8Z hr hgs t']
  split at h
  case h_2=>cases h
  rename_i n' vs' he
  rw [he]
  simp only [Y5,Ye] at h
  obtain ⟨rfl,h2⟩:=h
  simp only [run] at hrun ⊢
  cases hrun
  exact ⟨_,rfl,rfl,Z92 hr h2⟩
 | ret vs =>
  intro t' l gs js r r' out h hr hgs hrun
  simp only [alD] at h
  rw [Z8Z hr hgs t']
  split at h
  case h_2=>cases h
  rename_i vs' he
  rw [he]
  simp only [run] at hrun ⊢
  cases hrun
  exact ⟨_,rfl,Z8V hr h⟩
 | join t k iht ihk =>
  intro t' l gs js r r' out h hr hgs hrun
  simp only [alD] at h
  rw [Z8Z hr hgs t']
  split at h
  case h_2=>cases h
  rename_i t'' k' he
  rw [he]
  generalize (match Z2R 0 t,Z2R 0 t'' with
    | some vs,some vs'=>Z2V l vs vs'
    | _,_=>none)=q at h
  simp only [Y5] at h
  simp only [run] at hrun ⊢
  split at hrun
  ·rename_i us hh
   obtain ⟨o,h1,h2⟩:=iht _ _ _ _ _ _ _ h.1 hr hgs hh
   cases o<;>simp only [ORD] at h2
   obtain ⟨rfl,h2⟩:=h2
   rw [h1]
   exact ihk _ _ _ _ _ _ _ h.2 (Z94 h2) (fun e he=>by cases he) hrun
  ·rename_i n us hh
   cases hrun
   obtain ⟨o,h1,h2⟩:=iht _ _ _ _ _ _ _ h.1 hr hgs hh
   cases o<;>simp only [ORD] at h2
   obtain ⟨rfl,h2⟩:=h2
   rw [h1]
   exact ⟨_,rfl,rfl,h2⟩
  ·rename_i x s r1 hh
   cases hrun
   obtain ⟨o,h1,h2⟩:=iht _ _ _ _ _ _ _ h.1 hr hgs hh
   cases o<;>simp only [ORD] at h2
   obtain ⟨rfl,rfl⟩:=h2
   rw [h1]
   exact ⟨_,rfl,rfl,rfl⟩
  ·rename_i us hh
   cases hrun
   obtain ⟨o,h1,h2⟩:=iht _ _ _ _ _ _ _ h.1 hr hgs hh
   cases o<;>simp only [ORD] at h2
   subst h2
   rw [h1]
   exact ⟨_,rfl,rfl⟩
  ·cases hrun
 | loop i b ih =>
  intro t' l gs js r r' out h hr hgs hrun
  simp only [alD] at h
  rw [Z8Z hr hgs t']
  split at h
  case h_2=>cases h
  rename_i i' b' he
  rw [he]
  simp only [Y5] at h
  simp only [run] at hrun ⊢
  exact Z95 (fun us us' out hu hh=>ih _ _ _ _ _ _ _ h.2 (Z94 hu) (fun e he=>by cases he) hh) m _ _ out (Z92 hr h.1) hrun
section
variable {c:Cx} {K:Z4} {m:Nat} {inl:Inl} {fn:FuncId} {rid:Nat} {ops:Array Oper} {bd:Bd} {st:List (Array Value)}
theorem Z97 {N:Nat→Prop} {s:St} {r:Env} {g:Nat→G} {tm:Array Value} {w:World} (h:R bd N s r g tm st w) {hi:Hint} {k:Nat} {vs:List AE} {T:NS} (hm:Z2Y hi k s=some (vs,T)):∃g',R bd (·<T.base) (T.toSt T.base) (Z1 (vs.map (Z0 · r))) g' tm st w:=by
 obtain ⟨g2,h2⟩:=Z8i (h.keep (hi.liveOut k)) hm T.base
 exact ⟨g2,h2.mono fun i hi=>YP hi (Z8G hm)⟩
theorem Z98 {n:NS}:∀{l:List NS} {i:Nat},Z2Z n l=some i→l[i]?=some n
 | [],i,h=>by simp [Z2Z] at h
 | T::l,i,h=>by
  unfold Z2Z at h
  split at h
  ·rename_i hT
   have:=NS.eq_eq hT
   subst this
   cases h
   rfl
  ·obtain ⟨j,hj,rfl⟩:=Ya.1 h
   simpa using Z98 hj
theorem Z99 {h:Hint} {Ts:List NS} (s:St):ZC K m (Z30 h rid Ts s):=by
 unfold Z30
 split
 ·split
  ·intro r out hr
   simp only [run] at hr
   cases hr
   exact ⟨_,_,_,rfl⟩
  ·exact ZC.bad
 ·exact ZC.bad
theorem Z9a (hcl:Z7a K m inl) {t:List (List Nat)} {all:Bool} {k:St→Tr} (hk:∀s',ZC K m (k s')):∀(n i:Nat) (listed:Array Bool) (s:St),ZC K m (Z2X c fn rid inl ops t all k n i listed s)
 | 0,i,listed,s=>by
  unfold Z2X
  split
  ·exact hk s
  ·exact ZC.bad
 | n+1,i,listed,s=>by
  have ih:=fun i listed s=>Z9a hcl (t:=t) (all:=all) hk n i listed s
  unfold Z2X
  split
  ·split
   ·exact Z7k hcl (fun s'=>ih _ _ s') s
   ·exact ZC.bad
  ·split
   ·exact ZC.bad
   ·split
    ·split
     ·exact Z7k hcl (fun s'=>ih _ _ s') s
     ·exact ZC.bad
    ·exact ZC.bad
theorem Z9b (hcall:Z7d c K) (hinl:Z79 c K m inl) (hcl:Z7a K m inl) {h:Hint} {Ts:List NS} {ix:Nat} {T:NS} (hTs:Ts[ix]?=some T) {re:Env} {Q:Exit→Act→World→Prop} (hQp:∀ch a w,¬Q (.panic ch) a w) {df:List Deferred}
  (hQ:∀(a':Act) (w':World),a'.defers=df→(∃g',R bd (·<T.base) (T.toSt T.base) re g' a'.tmps st w')→Q .normal a' w')
  (hsel:Region.noSelect ops=true) {t:List (List Nat)} (ht:Z2C ops t=true) :
  ∀(n i:Nat) (listed:Array Bool) (a:Act) (w:World) (out:Out),(∃S,out=.leaf (.exit ix) S re)→Z6M ops listed →
   Nx K m bd st df i (Z2X c fn rid inl ops t true (Z30 h rid Ts) n i listed) out a w→Z6K c.P ops Q (fun j=>match ops[j]? with | some oj=>Z2A c oj | none=>false) n listed a w
 | 0,i,listed,a,w,out,hout,hc,hx=>by
  obtain ⟨hdf,s,r,g,hR,hrun⟩:=hx
  unfold Z2X at hrun
  split at hrun
  case isFalse=>simp only [run] at hrun;cases hrun
  rename_i he
  refine ⟨by simpa using he,hQ a w hdf ?_⟩
  unfold Z30 at hrun
  split at hrun
  case h_2=>simp only [run] at hrun;cases hrun
  rename_i vs n' hm
  split at hrun
  case h_2=>simp only [run] at hrun;cases hrun
  rename_i i' hT
  have hT:=Z98 hT
  simp only [run] at hrun
  cases hrun
  obtain ⟨S,hh⟩:=hout
  cases hh
  rw [hTs] at hT
  cases hT
  exact Z97 hR hm
 | n+1,i,listed,a,w,out,hout,hc,hx=>by
  obtain ⟨hdf,s,r,g,hR,hrun⟩:=hx
  have step:∀(j:Nat) (o:Oper) (out:Out),(∃S,out=.leaf (.exit ix) S re)→j∈Region.ready .any ops listed→run K m (Z2w c fn rid inl ops i o (Z2W ops (listed.setIfInBounds j true)) (Z2X c fn rid inl ops t true (Z30 h rid Ts) n (i+1) (listed.setIfInBounds j true)) s) r=some out →
    Z7m c ops a o w fun a' w'=>Z6K c.P ops Q (fun j=>match ops[j]? with | some oj=>Z2A c oj | none=>false) n (listed.setIfInBounds j true) a' w':=by
   intro j o out hout hmem hrun
   have hs:=Z7n hcall hinl (fun s'=>Z9a hcl Z99 n (i+1) (listed.setIfInBounds j true) s') hR hrun
   rw [hdf] at hs
   have ih:=fun a' w' h'=>Z9b (h:=h) hcall hinl hcl hTs hQp hQ hsel ht n (i+1) _ a' w' out hout (hc.set hmem) h'
   rcases hs with ⟨hw,hk⟩ | ⟨hw,hd⟩
   ·exact .inl ⟨hw,ih _ _ hk⟩
   ·exact .inr ⟨hw,hd.mono fun v w' hk=>ih _ _ hk⟩
  unfold Z2X at hrun
  split at hrun
  ·rename_i j hfind
   have hj:=List.find?_some hfind
   have hmem:=List.mem_of_find?_eq_some hfind
   split at hrun
   case h_2=>simp only [run] at hrun;cases hrun
   rename_i o hoj
   rw [hoj] at hj
   simp only [Y5] at hj
   obtain ⟨hpk,hj⟩:=hj
   obtain ⟨ld,hld⟩:=YE.1 hpk
   have hs:=step j o out hout hmem hrun
   unfold Z2D at hj
   rw [hld] at hj
   simp only [Y5,YL,Yr] at hj
   obtain ⟨hfree,hlate⟩:=hj
   have hlate':ld=true→∀listed',Z6M ops listed'→(∀k,listed.getD k true=true→listed'.getD k true=true)→listed'.getD j true=false→∀x∈Region.ready .any ops listed',(match ops[x]? with | some oj=>Z2A c oj | none=>false)=false:=by
    intro hl listed' hc' hsub hun x hx
    rcases hlate with hlate | hlate
    ·rw [hl] at hlate;cases hlate
    obtain ⟨hxun,ox,hox,hxall⟩:=mem_ready.1 hx
    have hxs:x<ops.size:=(Array.getElem?_eq_some_iff.1 hox).1
    simp only [YG,List.mem_range,YL] at hlate
    have h0:=hlate x hxs
    simp only [hox] at h0 ⊢
    rcases h0 with h1 | h1
    ·rw [hsub x h1] at hxun;cases hxun
    ·rcases YL ..▸h1 with h1 | h1
     ·simpa using h1
     ·have:=Z6P ht hc' (x+1) x (by omega) hxs (fun oj hoj e he hb=>by rw [hox] at hoj;cases hoj;exact hxall e he hb) j (by simpa using h1)
      rw [Z6Q hun] at this;cases this
   rcases hs with ⟨hw,hk⟩ | ⟨hw,hp,-⟩
   ·exact Z6N hoj (Region.noSelect_spec hsel) hQp n listed a w (Region.free_spec hoj hfree) hc hlate' hmem (.inr ⟨hw,rfl⟩) hk
   ·obtain ⟨v,h1,h2⟩:=hp ld hld
    exact Z6N hoj (Region.noSelect_spec hsel) hQp n listed a w (Region.free_spec hoj hfree) hc hlate' hmem (.inl ⟨hw,h1⟩) h2
  ·split at hrun
   ·simp only [run] at hrun;cases hrun
   ·rename_i j js hrd
    split at hrun
    case h_2=>simp only [run] at hrun;cases hrun
    rename_i o hoj
    split at hrun
    case isFalse=>simp only [run] at hrun;cases hrun
    rename_i hall
    simp only [Bool.not_true,Bool.false_or,YG] at hall
    have one:∀(j:Nat) (o:Oper) (out:Out),ops[j]?=some o→(∃S,out=.leaf (.exit ix) S re)→j∈Region.ready .any ops listed→run K m (Z2w c fn rid inl ops i o (Z2W ops (listed.setIfInBounds j true)) (Z2X c fn rid inl ops t true (Z30 h rid Ts) n (i+1) (listed.setIfInBounds j true)) s) r=some out →
      wpOp c.P ops Q j (fun a' w'=>((match ops[j]? with | some oj=>Z2A c oj | none=>false)=false→Ext w w')∧Z6K c.P ops Q (fun j=>match ops[j]? with | some oj=>Z2A c oj | none=>false) n (listed.setIfInBounds j true) a' w') a w:=by
     intro j o out hoj hout hmem hrun
     unfold wpOp
     simp only [hoj]
     rcases step j o out hout hmem hrun with ⟨hw,hk⟩ | ⟨hw,hp,hd⟩
     ·simp only [hw,Yg,if_false]
      exact ⟨fun _=>Ext.refl w,hk⟩
     ·simp only [hw,if_true]
      cases hpk:Z2y o.op with
      | some ld =>
       obtain ⟨v,h1,h2⟩:=hp ld hpk
       exact .inl (Done.upon (.val v w (.inl (h1 w fun _=>Ext.refl w)) ⟨fun _=>Ext.refl w,h2⟩))
      | none =>
       refine .inl (Done.upon (hd.mono ?_))
       rintro a' w' ⟨hf,v,rfl,hk⟩
       refine ⟨fun hl=>hf ?_,hk⟩
       simp only [Z2A,hpk,Option.isNone_none,Bool.true_and,Bool.not_eq_false'] at hl
       exact hl
    refine ⟨fun h0=>absurd (hrd▸h0) (by simp),fun j' hj'=>?_⟩
    have hj1:j'=j∨j'∈js:=by rw [hrd] at hj';simpa using hj'
    rcases hj1 with rfl | hj1
    ·exact one j' o out hoj hout hj' hrun
    ·have h2:=hall j' hj1
     cases ho':ops[j']? with
     | none=>rw [ho'] at h2;cases h2
     | some o' =>
      rw [ho'] at h2
      simp only at h2
      obtain ⟨S,rfl⟩:=hout
      rcases YL ..▸h2 with h2 | h2
      ·obtain ⟨out',h3,h4⟩:=Z8_ hcall.1.2 _ _ _ _ _ _ _ h2 (Z8K r) (fun e he=>by cases he) hrun
       cases out'<;>simp only [OR] at h4
       obtain ⟨rfl,rfl⟩:=h4
       exact one j' o' _ ho' ⟨_,rfl⟩ hj' h3
      ·obtain ⟨out',h3,h4⟩:=Z96 hcall.1.2 _ _ _ _ _ _ _ _ h2 (Z8K r) (fun e he=>by cases he) hrun
       cases out'<;>simp only [ORD] at h4
       obtain ⟨rfl,rfl⟩:=h4
       exact one j' o' _ ho' ⟨_,rfl⟩ hj' h3
theorem Z9c (hcl:Z7a K m inl) (s:St):ZC K m (Z31 c fn inl rid ops s):=by
 unfold Z31
 split
 ·refine ZC.bind (Z9a hcl (fun s=>Z99 s) _ _ _ _) fun x _=>?_
  split
  ·split
   ·exact ZC.leaf _ _
   ·exact ZC.bad
  ·exact ZC.bad
 ·exact ZC.bad
end
end Go.Sm
namespace Go.Sm
section
variable {P:Program} {bd:Bd} {N:Nat→Prop} {s:St} {r:Env} {g:Nat→G} {tm:Array Value} {st:List (Array Value)} {w:World}
theorem R.same (h:R bd N s r g tm st w) {w':World} (hh:∀b:Nat,w'.heap[b]?=w.heap[b]?) (hsz:w'.heap.size=w.heap.size) (hos:w'.os=w.os) (htp:w'.tape=w.tape) (hout:w'.output=w.output):R bd N s r g tm st w':=by
 have hk:Kept w (Mt bd.Z s.heap g) w' (Mt bd.Z s.heap g):=⟨fun b _ _=>hh b,fun _ _ h=>h⟩
 have ha:∀a v,a.ok N s.heap→Z7 w (Mt bd.Z s.heap g) g r a v→Z7 w' (Mt bd.Z s.heap g) g r a v:=fun a v ha hv=>Z7.keep hk (fun _ _=>rfl) ha.vs (fun _ _=>⟨rfl,rfl⟩) (fun _ _ _=>⟨rfl,fun _ _ _ _ _=>hh _⟩) hv
 have h1:=h.step (g':=g) (w':=w') (N':=N) (r':=r) id s.heap s.base ha (fun a ha=>ha) (fun i B hB=>?_) h.inj h.nodup h.own (fun i B hB b hb=>by rw [hsz];exact h.lt i B hB b hb)
  ⟨hos.trans h.world.os,htp.trans h.world.tape,hout.trans h.world.output,by rw [hsz];exact h.world.size,fun k hk hM=>(hh k).trans (h.world.heap k hk hM),h.world.zone⟩ (fun c hc=>(Z0c (hh _) _).trans (h.kept c hc)) (fun _ _=>⟨rfl,rfl⟩) (fun c hc=>(h.kpl c hc).2) h.nheap
 ·have e1:s.cur.map (SV.map id)=s.cur:=by rw [Ys (fun v _=>SV.map_id id (fun _=>rfl) v)];simp
  have e2:s.stk.map (List.map (SV.map id))=s.stk:=by
   rw [Ys (g:=fun l=>l) (fun l _=>by rw [Ys (fun v _=>SV.map_id id (fun _=>rfl) v)];simp)];simp
  rw [e1,e2] at h1
  exact h1
 ·have:=(h.heap i B hB).keep (f:=id) (h0:=s.heap) hk (fun _ _=>rfl) ha (h.nheap i B hB) rfl (fun b _=>hh b)
  rwa [Blk.map_id id (fun _=>rfl)] at this
theorem Z9d (h:R bd N s r g tm st w) {hi:Hint} {k:Nat} {vs:List AE} {T:NS} (hm:Z1M hi k s=some (vs,T)):∃g',R bd (·<T.base) (T.toSt T.base) (Z1 (vs.map (Z0 · r))) g' tm st w:=by
 unfold Z1M at hm
 obtain ⟨g1,h1⟩:=Z8r ((s.base+1000000)) (hi.act k) (h.keep (hi.liveIn k))
 obtain ⟨g2,h2⟩:=Z8i h1 hm T.base
 exact ⟨g2,h2.mono fun i hi=>YP hi (Z8G hm)⟩
theorem Z9e {M:Nat→Prop}:∀{l:List SV} {vs:List Value} {v:SV},Za w M g r l vs→single l=some v→∃u,(if h:vs.toArray.size=1 then vs.toArray[0] else .tuple vs.toArray)=u∧Z9 w M g r v u:=by
 have hc:∀{l:List SV} {vs:List Value} {c:List (Bool×List Atom)},Za w M g r l vs→Z21 l=some c→Z0h w M g r c vs:=by
  intro l
  induction l with
  | nil=>intro vs c h hc;cases vs with
   | nil=>simp only [Z21,Y4] at hc;subst hc;trivial
   | cons=>exact h.elim
  | cons x l ih =>
   intro vs c h hc
   cases vs with
   | nil=>exact h.elim
   | cons u vs =>
    cases x with
    | a x =>
     simp only [Z21] at hc
     obtain ⟨c',h1,rfl⟩:=Ya.1 hc
     exact ⟨by simp only [Z0g,Yg,if_false];exact ⟨h.1,trivial⟩,ih h.2 h1⟩
    | agg m =>
     simp only [Z21] at hc
     obtain ⟨c',h1,rfl⟩:=Ya.1 hc
     exact ⟨by simp only [Z0g,if_true];exact h.1,ih h.2 h1⟩
    | tup m=>simp [Z21] at hc
 intro l vs v h hs
 match l,vs,h with
 | [x],[u],h =>
  simp only [single,Y4] at hs
  subst hs
  exact ⟨u,by simp,h.1⟩
 | [],[],h =>
  simp only [single] at hs
  obtain ⟨c,h1,rfl⟩:=Ya.1 hs
  exact ⟨.tuple #[],by simp,#[],rfl,hc h h1⟩
 | x::y::l,u::z::vs,h =>
  simp only [single] at hs
  obtain ⟨c,h1,rfl⟩:=Ya.1 hs
  exact ⟨.tuple (u::z::vs).toArray,by simp,_,rfl,hc h h1⟩
 | [x],[],h=>exact h.elim
 | [x],u::z::vs,h=>exact h.2.elim
 | [],_::_,h=>exact h.elim
 | x::y::l,[],h=>exact h.elim
 | x::y::l,[u],h=>exact h.2.elim
theorem Z9f {p:Atom→Prop}:∀{l:List SV} {v:SV},(∀x∈l,x.all p)→single l=some v→v.all p:=by
 have hc:∀{l:List SV} {c:List (Bool×List Atom)},(∀x∈l,x.all p)→Z21 l=some c→∀d∈c,∀a∈d.2,p a:=by
  intro l
  induction l with
  | nil=>intro c h hc;simp only [Z21,Y4] at hc;subst hc;simp
  | cons x l ih =>
   intro c h hc
   cases x with
   | a x =>
    simp only [Z21] at hc
    obtain ⟨c',h1,rfl⟩:=Ya.1 hc
    intro d hd a ha
    rcases Yl.1 hd with rfl | hd
    ·simp only [Y1] at ha;subst ha;exact h (.a _) (Yd ..)
    ·exact ih (fun x hx=>h x (Yc _ hx)) h1 d hd a ha
   | agg m =>
    simp only [Z21] at hc
    obtain ⟨c',h1,rfl⟩:=Ya.1 hc
    intro d hd a ha
    rcases Yl.1 hd with rfl | hd
    ·exact h (.agg m) (Yd ..) a ha
    ·exact ih (fun x hx=>h x (Yc _ hx)) h1 d hd a ha
   | tup m=>simp [Z21] at hc
 intro l v h hs
 match l with
 | [x]=>simp only [single,Y4] at hs;subst hs;exact h x (Yd ..)
 | [] =>
  simp only [single] at hs
  obtain ⟨c,h1,rfl⟩:=Ya.1 hs
  exact hc h h1
 | x::y::l =>
  simp only [single] at hs
  obtain ⟨c,h1,rfl⟩:=Ya.1 hs
  exact hc h h1
def Z9g (tm:Array Value):ResultVar→Sem Value
 | .tmp t=>pure (tm.getD t undef)
 | .cell a t=>do loadVar t (←asAddr (tm.getD a undef))
theorem Z9h (fn:Func) (tm:Array Value):results fn tm=(do let vs ←fn.results.mapM (Z9g tm);pure (if h:vs.size=1 then vs[0] else .tuple vs)):=by
 unfold results
 congr 2
theorem Z9i {a:Act} (h:R bd N s r g a.tmps st w) {rv:ResultVar} {sv:SV} (hs:Z33 P s rv=some sv) :
  ∃v,(Z9g a.tmps rv).run P w=.ok v w∧Z9 w (Mt bd.Z s.heap g) g r sv v∧sv.all (Atom.ok N s.heap):=by
 cases rv with
 | tmp t =>
  simp only [Z33] at hs
  obtain ⟨v,hv,hr⟩:=h.cur.get hs
  refine ⟨v,?_,hr,h.ncur sv (YD hs)⟩
  have:a.tmps.getD t undef=v:=by
   rw [Array.getD_eq_getD_getElem?,←Array.getElem?_toList,hv];rfl
  simp only [Z9g,this]
  rfl
 | cell x t =>
  simp only [Z33] at hs
  split at hs
  ·rename_i id j ag i hx hag hi
   split at hs
   ·rename_i l hid
    have hx':=Z8p hx (by simp)
    obtain ⟨v,hv,hr⟩:=h.cur.get hx'
    simp only [Z9,Z7] at hr
    have hv':a.tmps.getD x undef=.pointer (some ⟨(g id).blk,j,none⟩):=by
     rw [Array.getD_eq_getD_getElem?,←Array.getElem?_toList,hv,hr];rfl
    obtain ⟨-,c,ty,hc,hl⟩:=h.heap id _ hid
    obtain ⟨u,h1,h2⟩:=Z4h (P:=P) (o:=0) (b:=(g id).blk) hl (fun k u hk=>by rw [Nat.zero_add,Z0b,hc];simpa using hk) hag hi hs
    refine ⟨u,?_,h2,Z4n hs (h.nheap id _ hid)⟩
    simp only [Z9g,hv']
    rw [run_bind_ok (v:=⟨(g id).blk,j,none⟩) (w':=w) rfl]
    have:=h1 w (fun k u hk=>by rw [Nat.zero_add,Z0b,hc];simpa using hk)
    rwa [Nat.zero_add] at this
   ·cases hs
  ·cases hs
theorem Z9j {a:Act} (h:R bd N s r g a.tmps st w):∀{rs:List ResultVar} {l:List SV},Z34 P s rs=some l →
  ∃vs,(rs.mapM (Z9g a.tmps)).run P w=.ok vs w∧Za w (Mt bd.Z s.heap g) g r l vs∧∀v∈l,v.all (Atom.ok N s.heap)
 | [],l,hs=>by
  simp only [Z34,Y4] at hs
  subst hs
  exact ⟨[],rfl,trivial,fun v hv=>by cases hv⟩
 | rv::rs,l,hs=>by
  unfold Z34 at hs
  split at hs
  case h_2=>cases hs
  rename_i v vs hv hvs
  cases hs
  obtain ⟨u,h1,h2,h3⟩:=Z9i h hv
  obtain ⟨us,h4,h5,h6⟩:=Z9j h hvs
  refine ⟨u::us,?_,⟨h2,h5⟩,fun x hx=>?_⟩
  ·rw [List.mapM_cons]
   rw [run_bind_ok h1,run_bind_ok h4]
   rfl
  ·rcases Yl.1 hx with rfl | hx
   ·exact h3
   ·exact h6 x hx
theorem Z9k {a:Act} {fn:Func} (h:R bd N s r g a.tmps st w) {l:List SV} {v:SV} (hs:Z34 P s fn.results.toList=some l) (hv:single l=some v) :
  ∃u,(results fn a.tmps).run P w=.ok u w∧Z9 w (Mt bd.Z s.heap g) g r v u∧v.all (Atom.ok N s.heap):=by
 obtain ⟨vs,h1,h2,h3⟩:=Z9j h hs
 obtain ⟨u,h4,h5⟩:=Z9e h2 hv
 refine ⟨u,?_,h5,Z9f h3 hv⟩
 rw [Z9h,Array.mapM_eq_mapM_toList,map_eq_pure_bind,bind_assoc,run_bind_ok h1]
 simp only [pure_bind]
 rw [h4]
 rfl
end
section
variable {c:Cx} {K:Z4} {m:Nat} {inl:Inl} {fn:FuncId} {bd:Bd} {st:List (Array Value)}
theorem Z9l {x:Ex→St→Tr} {t:Tr} (ht:ZC K m t) (hx:∀e s,ZC K m (x e s)) {r:Env} {out:Out} (h:run K m (t.bind x) r=some out):∃e s r',run K m t r=some (.leaf e s r')∧run K m (x e s) r'=some out:=by
 rcases run_bind (fun x s=>(hx x s).closed) t r _ h with ⟨l',us,h1,h2⟩ | ⟨us,h1,h2⟩ | h1
 ·obtain ⟨_,_,_,h3⟩:=ht _ _ h1;cases h3
 ·obtain ⟨_,_,_,h3⟩:=ht _ _ h1;cases h3
 ·exact h1
theorem Z9m {t:Tr} (ht:ZC K m t) {h:Hint} {k:Nat} {T:NS} {r:Env} {out':Out} (hr:run K m (t.toJumps h k T 0) r=some out') :
  ∃x s r',run K m t r=some (.leaf x s r')∧((x=.normal∧∃vs,Z1M h k s=some (vs,T)∧out'=.jump 0 (vs.map (Z0 · r')))∨(x≠.normal∧out'=.leaf x s r')):=by
 obtain ⟨out,h1,h2⟩:=Z8J t 0 r out' hr
 obtain ⟨x,s,r',rfl⟩:=ht _ _ h1
 refine ⟨x,s,r',h1,?_⟩
 unfold Z8H at h2
 split at h2
 ·rename_i heq;cases heq;exact .inl ⟨rfl,h2⟩
 ·rename_i hne
  refine .inr ⟨fun hx=>?_,h2⟩
  subst hx
  exact hne _ _ rfl
theorem Z9n {t:Tr} (ht:ZC K m t) {h:Hint} {k:Nat} {T:NS}:∀(n:Nat) (vs:List AV) (out:Out),Z3 (run K m (t.toJumps h k T 0)) n vs=some out→∃x s r',out=.leaf x s r'
 | 0,_,_,h=>by simp only [Z3] at h;cases h
 | n+1,vs,out,h=>by
  simp only [Z3] at h
  split at h
  ·exact Z9n ht n _ out h
  ·rename_i l us hr
   obtain ⟨x,s,r',_,⟨_,_,_,h3⟩ | ⟨_,h3⟩⟩:=Z9m ht hr
   ·cases h3
   ·cases h3
  ·cases h;exact ⟨_,_,_,rfl⟩
  ·rename_i us hr
   obtain ⟨x,s,r',_,⟨_,_,_,h3⟩ | ⟨_,h3⟩⟩:=Z9m ht hr
   ·cases h3
   ·cases h3
  ·cases h
theorem Z9o (hcl:Z7a K m inl):∀(x:Code) (s:St),ZC K m (Zr c fn inl x s):=by
 intro x
 induction x with
 | skip=>intro s;exact ZC.leaf _ _
 | label l=>intro s;exact ZC.leaf _ _
 | ret=>intro s;exact ZC.leaf _ _
 | exit id=>intro s;exact ZC.leaf _ _
 | seq a b iha ihb =>
  intro s
  have hf:∀(x:Ex) (s':St),ZC K m (match x with | .normal=>Zr c fn inl b s' | x=>.leaf x s'):=by
   intro x s'
   split
   ·exact ihb _
   ·exact ZC.leaf _ _
  simp only [Zr]
  split
  ·exact iha s
  ·exact (iha s).bind hf
  ·split
   ·exact (iha s).bind hf
   ·split
    ·intro r out h
     simp only [run] at h
     split at h
     ·exact ihb _ _ _ h
     ·rename_i l us hr
      obtain ⟨x,s,r',_,⟨_,_,_,h3⟩ | ⟨_,h3⟩⟩:=Z9m (iha _) hr
      ·cases h3
      ·cases h3
     ·cases h;exact ⟨_,_,_,rfl⟩
     ·rename_i us hr
      obtain ⟨x,s,r',_,⟨_,_,_,h3⟩ | ⟨_,h3⟩⟩:=Z9m (iha _) hr
      ·cases h3
      ·cases h3
     ·cases h
    ·exact ZC.bad
 | cond x a b iha ihb =>
  intro s
  simp only [Zr]
  split
  ·split
   ·exact iha _
   ·exact ihb _
   ·exact ZC.ite (iha _) (ihb _)
  ·exact ZC.bad
 | block id b ih =>
  intro s
  simp only [Zr]
  refine (ih s).bind fun x s'=>?_
  split
  ·split<;>exact ZC.leaf _ _
  ·exact ZC.leaf _ _
 | loop b ih =>
  intro s
  simp only [Zr]
  split
  ·exact ZC.bad
  ·split
   ·intro r out h
    simp only [run] at h
    exact Z9n (ih _) m _ out h
   ·exact ZC.bad
 | region id ops draw =>
  intro s
  cases draw
  ·simp only [Zr];exact Z7l hcl (fun _=>ZC.leaf _ _) _ _ _
  ·simp only [Zr]
   split
   ·exact Z7l hcl (fun _=>ZC.leaf _ _) _ _ _
   ·exact Z9c hcl s
 | _=>intro s;simp only [Zr];exact ZC.bad
def Z9p (bd:Bd) (st:List (Array Value)) (df:List Deferred) (out:Out):Exit→Act→World→Prop:=fun e a w =>
 a.defers=df∧∃x s r g,out=.leaf x s r∧R bd (·<s.base) s r g a.tmps st w∧e=(match x with | .normal=>Exit.normal | .exit id=>.exit id | .ret=>.ret)
theorem Z9q {c:Cx} {ops:Array Oper} {t:List (List Nat)}:∀{n:Nat} {listed:Array Bool} {l:List Oper},Z2E c ops t n listed=some l→l.length=n
 | 0,listed,l,h=>by
  unfold Z2E at h
  split at h
  ·cases h;rfl
  ·cases h
 | n+1,listed,l,h=>by
  unfold Z2E at h
  split at h
  ·split at h
   ·obtain ⟨l',h1,rfl⟩:=Ya.1 h
    simp [Z9q h1]
   ·cases h
  ·cases h
theorem Z9r:∀(t:Tr) (r:Env) (s:St) (r':Env),run K m t r=some (.leaf .normal s r')→t.normals≠[]
 | .leaf x s,r,s',r',h=>by simp only [run] at h;cases h;simp [Tr.normals]
 | .bad,r,s',r',h=>by simp only [run] at h;cases h
 | .ite c a b,r,s',r',h=>by
  simp only [run] at h
  simp only [Tr.normals,ne_eq,List.append_eq_nil_iff,not_and]
  split at h
  ·intro h1;exact (Z9r a _ _ _ h h1).elim
  ·intro _;exact Z9r b _ _ _ h
 | .guard c t,r,s',r',h=>by
  simp only [run] at h
  split at h
  ·exact Z9r t _ _ _ h
  ·cases h
 | .call f ins b t,r,s',r',h=>by
  simp only [run] at h
  split at h
  ·exact Z9r t _ _ _ h
  ·cases h
 | .jump l vs,r,s',r',h=>by simp only [run] at h;cases h
 | .ret vs,r,s',r',h=>by simp only [run] at h;cases h
 | .join t k,r,s',r',h=>by
  simp only [run] at h
  simp only [Tr.normals,ne_eq,List.append_eq_nil_iff,not_and]
  split at h
  ·intro _;exact Z9r k _ _ _ h
  ·cases h
  ·rename_i hr;cases h;intro h1;exact (Z9r t _ _ _ hr h1).elim
  ·cases h
  ·cases h
 | .loop i b,r,s',r',h=>by
  simp only [run] at h
  have key:∀n vs,Z3 (run K m b) n vs=some (.leaf .normal s' r')→b.normals≠[]:=by
   intro n
   induction n with
   | zero=>intro vs h;simp only [Z3] at h;cases h
   | succ n ih =>
    intro vs h
    simp only [Z3] at h
    split at h
    ·exact ih _ h
    ·cases h
    ·rename_i hr;cases h;exact Z9r b _ _ _ hr
    ·cases h
    ·cases h
  exact key _ _ h
theorem Z9s (hm:c.P.follows .mixedOrders=true) (hcall:Z7d c K) (hinl:Z79 c K m inl) (hcl:Z7a K m inl) {id:Nat} {ops:Array Oper} {draw:Bool} {s:St} {r:Env} {g:Nat→G} {a:Act} {w:World} {out:Out}
  (h:R bd (·<s.base) s r g a.tmps st w) (hrun:run K m (Zr c fn inl (.region id ops draw) s) r=some out):(Code.region id ops draw).wp c.P (Z9p bd st a.defers out) a w:=by
 have hk:∀s':St,ZC K m (.leaf .normal { s' with base:=s'.base+64 * ops.size }):=fun _=>ZC.leaf _ _
 have fin:∀(l:List Oper),l.length=ops.size→∀a' w',Nx K m bd st a.defers (0+l.length) (fun s'=>.leaf .normal { s' with base:=s'.base+64 * ops.size }) out a' w'→Z9p bd st a.defers out .normal a' w':=by
  rintro l hl a' w' ⟨h1,s',r',g',h2,h3⟩
  simp only [run] at h3
  cases h3
  refine ⟨h1,.normal,_,r',g',rfl,?_,rfl⟩
  rw [Nat.zero_add,hl] at h2
  exact h2.based _
 have start:∀{w:World} {l:List Oper},R bd (·<s.base) s r g a.tmps st w→run K m (Z2x c fn id inl ops (fun s'=>.leaf .normal { s' with base:=s'.base+64 * ops.size }) 0 l s) r=some out →
   Nx K m bd st a.defers 0 (Z2x c fn id inl ops (fun s'=>.leaf .normal { s' with base:=s'.base+64 * ops.size }) 0 l) out a w:=fun h hr=>⟨rfl,s,r,g,by simpa using h,hr⟩
 cases draw with
 | false =>
  simp only [Zr] at hrun
  refine wp_region_list ?_
  exact Z7o hcall hinl hcl hk ops.toList 0 a w (fin ops.toList (by simp)) (start h hrun)
 | true =>
  simp only [Zr] at hrun
  have hw:R bd (·<s.base) s r g a.tmps st { w with drawn:=w.drawn+1 }:=h.same (fun _=>rfl) rfl rfl rfl rfl
  have hcl0:Z6M ops (Array.replicate ops.size false):=by
   intro j oj _ hj
   exfalso
   rw [Array.getD_eq_getD_getElem?] at hj
   by_cases hlt:j<ops.size
   ·simp [hlt] at hj
   ·simp [Nat.not_lt.1 hlt] at hj
  split at hrun
  case h_2 =>
   unfold Z31 at hrun
   split at hrun
   case isFalse=>simp only [run] at hrun;cases hrun
   rename_i hok
   simp only [Y5] at hok
   simp only [] at hrun
   generalize Z2_ (c.hint fn) id (Z2X c fn id inl ops (Z2B ops) false (fun s'=>Tr.leaf Ex.normal s') ops.size 0 (Array.replicate ops.size false) s).normals []=Ts at hrun
   obtain ⟨x,S,re,h1,h2⟩:=Z9l (Z9a hcl (fun s=>Z99 s) _ _ _ _) (fun x _=>by
    split
    ·split
     ·exact ZC.leaf _ _
     ·exact ZC.bad
    ·exact ZC.bad) hrun
   split at h2
   case h_2=>simp only [run] at h2;cases h2
   rename_i ix
   split at h2
   case h_2=>simp only [run] at h2;cases h2
   rename_i T hTs
   simp only [run] at h2
   cases h2
   have main:=Z9b hcall hinl hcl hTs (Q:=fun e a' w'=>e=.normal∧Z9p bd st a.defers (.leaf .normal (T.toSt T.base) re) .normal a' w') (df:=a.defers) (fun ch a w hq=>by cases hq.1)
    (fun a' w' hd ⟨g',hR⟩=>⟨rfl,hd,.normal,_,re,g',rfl,hR,rfl⟩) hok.1 hok.2 ops.size 0 _ a { w with drawn:=w.drawn+1 } _ ⟨S,rfl⟩ hcl0 ⟨rfl,s,r,g,by simpa using hw,h1⟩
   refine Code.wp_mono ?_ (wp_region_any hm (Z6L _ _ _ _ main))
   rintro e a' w' ⟨rfl,hq⟩
   exact hq
  rename_i l hl
  unfold Z2F at hl
  split at hl
  case isFalse=>cases hl
  rename_i hok
  simp only [Y5] at hok
  have hlen:=Z9q hl
  have main:=Z7p hcall hinl hcl hk (Q:=fun e a' w'=>e=.normal∧Z9p bd st a.defers out .normal a' w') (fun ch a w hq=>by cases hq.1) hok.1 hok.2 ops.size 0 _ l a { w with drawn:=w.drawn+1 } hl hcl0
   (fun a' w' hn=>⟨rfl,fin l hlen a' w' hn⟩) (start hw hrun)
  refine Code.wp_mono ?_ (wp_region_any hm (Z6L _ _ _ _ main))
  rintro e a' w' ⟨rfl,hq⟩
  exact hq
theorem Z9t (hm:c.P.follows .mixedOrders=true) (hcall:Z7d c K) (hinl:Z79 c K m inl) (hcl:Z7a K m inl):∀(x:Code) (s:St) (r:Env) (g:Nat→G) (a:Act) (w:World) (out:Out),
  R bd (·<s.base) s r g a.tmps st w→run K m (Zr c fn inl x s) r=some out→x.wp c.P (Z9p bd st a.defers out) a w:=by
 intro x
 induction x with
 | skip=>intro s r g a w out h hr;simp only [Zr,run] at hr;cases hr;exact wp_skip ⟨rfl,_,_,_,_,rfl,h,rfl⟩
 | label l=>intro s r g a w out h hr;simp only [Zr,run] at hr;cases hr;exact wp_label ⟨rfl,_,_,_,_,rfl,h,rfl⟩
 | ret=>intro s r g a w out h hr;simp only [Zr,run] at hr;cases hr;exact wp_ret ⟨rfl,_,_,_,_,rfl,h,rfl⟩
 | exit id=>intro s r g a w out h hr;simp only [Zr,run] at hr;cases hr;exact wp_exit ⟨rfl,_,_,_,_,rfl,h,rfl⟩
 | seq x y ihx ihy =>
  intro s r g a w out h hr
  have hf:∀(x:Ex) (s':St),ZC K m (match x with | .normal=>Zr c fn inl y s' | x=>.leaf x s'):=by
   intro x s'
   split
   ·exact Z9o hcl _ _
   ·exact ZC.leaf _ _
  have hbind:run K m ((Zr c fn inl x s).bind fun x s'=>match x with | .normal=>Zr c fn inl y s' | x=>.leaf x s') r=some out→(Code.seq x y).wp c.P (Z9p bd st a.defers out) a w:=by
   intro hr
   obtain ⟨e,s1,r1,h1,h2⟩:=Z9l (Z9o hcl _ _) hf hr
   refine wp_seq (Code.wp_mono ?_ (ihx s r g a w _ h h1))
   rintro e' a' w' ⟨hd,x',s',r',g',heq,hR,he⟩
   cases heq
   subst he
   split at h2
   ·have:=ihy _ _ _ a' w' out hR h2
    rw [hd] at this
    exact this
   ·rename_i hne
    simp only [run] at h2
    cases h2
    cases e with
    | normal=>exact (hne rfl).elim
    | exit id=>exact ⟨hd,_,_,_,_,rfl,hR,rfl⟩
    | ret=>exact ⟨hd,_,_,_,_,rfl,hR,rfl⟩
  simp only [Zr] at hr
  split at hr
  ·rename_i hnorm
   obtain ⟨e,s1,r1,rfl⟩:=Z9o hcl _ _ _ _ hr
   refine wp_seq (Code.wp_mono ?_ (ihx s r g a w _ h hr))
   rintro e' a' w' ⟨hd,x',s',r',g',heq,hR,he⟩
   cases heq
   subst he
   cases e with
   | normal=>exact absurd hnorm (Z9r _ _ _ _ hr)
   | exit id=>exact ⟨hd,_,_,_,_,rfl,hR,rfl⟩
   | ret=>exact ⟨hd,_,_,_,_,rfl,hR,rfl⟩
  ·exact hbind hr
  ·split at hr
   ·exact hbind hr
   ·split at hr
    case h_2=>simp only [run] at hr;cases hr
    rename_i k hk _ vs0 T hmeet
    simp only [run] at hr
    have fin:∀out1,run K m ((Zr c fn inl x s).toJumps (c.hint fn) k T 0) r=some out1 →
      (∀us,out1=.jump 0 us→run K m (Zr c fn inl y (T.toSt T.base)) (Z1 us)=some out)→(∀x s r,out1=.leaf x s r→out=.leaf x s r)→(Code.seq x y).wp c.P (Z9p bd st a.defers out) a w:=by
     intro out1 hr1 hj hl
     obtain ⟨e,s1,r1,h1,h2⟩:=Z9m (Z9o hcl _ _) hr1
     refine wp_seq (Code.wp_mono ?_ (ihx s r g a w _ h h1))
     rintro e' a' w' ⟨hd,x',s',r',g',heq,hR,he⟩
     cases heq
     subst he
     rcases h2 with ⟨rfl,vs,h3,h4⟩ | ⟨hne,h3⟩
     ·obtain ⟨g2,hR2⟩:=Z9d hR h3
      have:=ihy _ _ _ a' w' out hR2 (hj _ h4)
      rw [hd] at this
      exact this
     ·have:=hl _ _ _ h3
      subst this
      cases e with
      | normal=>exact (hne rfl).elim
      | exit id=>exact ⟨hd,_,_,_,_,rfl,hR,rfl⟩
      | ret=>exact ⟨hd,_,_,_,_,rfl,hR,rfl⟩
    split at hr
    ·rename_i us hr1
     exact fin _ hr1 (fun us' he=>by cases he;exact hr) (fun _ _ _ he=>by cases he)
    ·rename_i l us hr1
     obtain ⟨_,_,_,_,⟨_,_,_,h3⟩ | ⟨_,h3⟩⟩:=Z9m (Z9o hcl _ _) hr1
     ·cases h3
     ·cases h3
    ·rename_i x1 s1 r1 hr1
     cases hr
     exact fin _ hr1 (fun us' he=>by cases he) (fun _ _ _ he=>he)
    ·rename_i us hr1
     obtain ⟨_,_,_,_,⟨_,_,_,h3⟩ | ⟨_,h3⟩⟩:=Z9m (Z9o hcl _ _) hr1
     ·cases h3
     ·cases h3
    ·cases hr
 | cond x p q ihp ihq =>
  intro s r g a w out h hr
  simp only [Zr] at hr
  split at hr
  case h_2=>simp only [run] at hr;cases hr
  rename_i e hx
  have hv:=Z3q (Zu h hx).1
  split at hr
  ·rename_i hl
   refine wp_cond_true (by rw [hv,Z3E hl r]) (ihp _ _ _ _ _ _ h hr)
  ·rename_i hl
   refine wp_cond_false (by rw [hv,Z3E hl r]) (ihq _ _ _ _ _ _ h hr)
  ·simp only [run] at hr
   split at hr
   ·rename_i hd
    exact wp_cond_true (by rw [hv,hd]) (ihp (s.asm e true) _ _ _ _ _ (h.asm hd) hr)
   ·rename_i hd
    have hd:den e r=false:=by simpa using hd
    exact wp_cond_false (by rw [hv,hd]) (ihq (s.asm e false) _ _ _ _ _ (h.asm hd) hr)
 | block id b ih =>
  intro s r g a w out h hr
  simp only [Zr] at hr
  obtain ⟨e,s1,r1,h1,h2⟩:=Z9l (Z9o hcl _ _) (fun x s'=>by
   split
   ·split<;>exact ZC.leaf _ _
   ·exact ZC.leaf _ _) hr
  refine wp_block (Code.wp_mono ?_ (ih s r g a w _ h h1))
  rintro e' a' w' ⟨hd,x',s',r',g',heq,hR,he⟩
  cases heq
  subst he
  cases e with
  | normal=>simp only [run] at h2;cases h2;exact ⟨hd,_,_,_,_,rfl,hR,rfl⟩
  | ret=>simp only [run] at h2;cases h2;exact ⟨hd,_,_,_,_,rfl,hR,rfl⟩
  | exit j =>
   simp only [Exit.inBlock] at h2 ⊢
   split at h2
   ·rename_i hj
    rw [if_pos hj]
    simp only [run] at h2;cases h2;exact ⟨hd,_,_,_,_,rfl,hR,rfl⟩
   ·rename_i hj
    rw [if_neg hj]
    simp only [run] at h2;cases h2;exact ⟨hd,_,_,_,_,rfl,hR,rfl⟩
 | loop b ih =>
  intro s r g a w out h hr
  simp only [Zr] at hr
  split at hr
  ·simp only [run] at hr;cases hr
  split at hr
  case h_2=>simp only [run] at hr;cases hr
  rename_i k hk _ vs0 T hmeet
  simp only [run] at hr
  obtain ⟨g0,h0⟩:=Z9d h hmeet
  have key:∀(n:Nat) (us:List AV) (g:Nat→G) (a':Act) (w:World),a'.defers=a.defers→R bd (·<T.base) (T.toSt T.base) (Z1 us) g a'.tmps st w→Z3 (run K m ((Zr c fn inl b (T.toSt T.base)).toJumps (c.hint fn) k T 0)) n us=some out →
    ∀(fr:Frame) (kk:List Item) (cs:List Frame),∃e a2 w2,Z9p bd st a.defers out e a2 w2∧Arrives c.P (lone (fr.at a' (.code b::.inLoop b::kk)) cs w) fr kk cs e a2 w2:=by
   intro n
   induction n with
   | zero=>intro us g a' w _ _ hl;simp only [Z3] at hl;cases hl
   | succ n ihn =>
    intro us g a' w hd hR hl fr kk cs
    simp only [Z3] at hl
    have round:∀out1,run K m ((Zr c fn inl b (T.toSt T.base)).toJumps (c.hint fn) k T 0) (Z1 us)=some out1 →
      (∀us',out1=.jump 0 us'→Z3 (run K m ((Zr c fn inl b (T.toSt T.base)).toJumps (c.hint fn) k T 0)) n us'=some out)→(∀x s r,out1=.leaf x s r→out=.leaf x s r) →
      ∃e a2 w2,Z9p bd st a.defers out e a2 w2∧Arrives c.P (lone (fr.at a' (.code b::.inLoop b::kk)) cs w) fr kk cs e a2 w2:=by
     intro out1 hr1 hj hlf
     obtain ⟨x1,s1,r1,h1,h2⟩:=Z9m (Z9o hcl _ _) hr1
     obtain ⟨e,a1,w1,⟨hd1,x',s',r',g',heq,hR1,he⟩,harr⟩:=ih _ _ _ a' w _ hR h1 fr (.inLoop b::kk) cs
     cases heq
     subst he
     rcases h2 with ⟨rfl,vs,h3,h4⟩ | ⟨hne,h3⟩
     ·obtain ⟨g2,hR2⟩:=Z9d hR1 h3
      obtain ⟨e2,a2,w2,hq,harr2⟩:=ihn _ _ a1 w1 (hd1.trans hd) hR2 (hj _ h4) fr kk cs
      exact ⟨e2,a2,w2,hq,.of_steps (Steps.trans harr (.one step_inLoop)) harr2⟩
     ·have hout:=hlf _ _ _ h3
      subst hout
      cases x1 with
      | normal=>exact (hne rfl).elim
      | exit id=>exact ⟨_,a1,w1,⟨hd1.trans hd,_,_,_,_,rfl,hR1,rfl⟩,.pass (x:=.inLoop b) rfl (fun _ _=>.inl (by simp)) harr⟩
      | ret=>exact ⟨_,a1,w1,⟨hd1.trans hd,_,_,_,_,rfl,hR1,rfl⟩,.pass (x:=.inLoop b) rfl (fun _ _=>.inl (by simp)) harr⟩
    split at hl
    ·rename_i us' hr1
     exact round _ hr1 (fun us2 he=>by cases he;exact hl) (fun _ _ _ he=>by cases he)
    ·rename_i l us' hr1
     obtain ⟨_,_,_,_,⟨_,_,_,h3⟩ | ⟨_,h3⟩⟩:=Z9m (Z9o hcl _ _) hr1
     ·cases h3
     ·cases h3
    ·rename_i x1 s1 r1 hr1
     cases hl
     exact round _ hr1 (fun us' he=>by cases he) (fun _ _ _ he=>he)
    ·rename_i us' hr1
     obtain ⟨_,_,_,_,⟨_,_,_,h3⟩ | ⟨_,h3⟩⟩:=Z9m (Z9o hcl _ _) hr1
     ·cases h3
     ·cases h3
    ·cases hl
  intro fr kk cs
  obtain ⟨e,a2,w2,hq,harr⟩:=key m _ g0 a w rfl h0 hr fr kk cs
  exact ⟨e,a2,w2,hq,.of_steps (.one step_loop) harr⟩
 | region id ops draw=>intro s r g a w out h hr;exact Z9s hm hcall hinl hcl h hr
 | _=>intro s r g a w out h hr;simp only [Zr,run] at hr;cases hr
end
end Go.Sm
namespace Go.Sm
section
variable {c:Cx} {K:Z4} {m:Nat}
theorem Z9u:∀n,Z7a K m (Z35 c n)
 | 0=>fun f args s k hk=>ZC.bad
 | n+1=>fun f args s k hk=>by
  simp only [Z35]
  split
  ·split
   ·split
    ·refine (Z9o (Z9u n) _ _).bind fun x s'=>?_
     split
     ·exact ZC.bad
     ·split
      ·split
       ·exact hk _ _
       ·exact ZC.bad
      ·exact ZC.bad
     ·exact ZC.bad
    ·exact ZC.bad
   ·exact ZC.bad
  ·exact ZC.bad
theorem Za.uns {w:World} {M:Nat→Prop} {g:Nat→G} {r:Env}:∀n,Za w M g r (List.replicate n (.a .un)) (List.replicate n undef)
 | 0=>trivial
 | n+1=>⟨rfl,Za.uns n⟩
theorem Z9v (hm:c.P.follows .mixedOrders=true) (hcall:Z7d c K):∀n,Z79 c K m (Z35 c n)
 | 0=>fun f args s k bd r g tm st w vs out _ _ _ _ hr=>by simp only [Z35,run] at hr;cases hr
 | n+1=>fun f args s k bd r g tm st w vs out h hargs hall hk hr=>by
  simp only [Z35] at hr
  split at hr
  case h_2=>simp only [run] at hr;cases hr
  rename_i fn hfn
  split at hr
  case h_2=>simp only [run] at hr;cases hr
  rename_i b hbody
  split at hr
  case isFalse=>simp only [run] at hr;cases hr
  rename_i hok
  have hlen:=hargs.length
  have hf:∀(x:Ex) (s':St),ZC K m (match x,s'.stk with
    | .exit _,_=>.bad
    | _,cur::stk =>
     match Z34 c.P s' fn.results.toList with
     | some l=>match single l with
      | some v=>k v ⟨cur,stk,s'.heap,s'.base,s'.np,s'.kp⟩
      | none=>.bad
     | none=>.bad
    | _,[]=>.bad):=by
   intro x s'
   split
   ·exact ZC.bad
   ·split
    ·split
     ·exact hk _ _
     ·exact ZC.bad
    ·exact ZC.bad
   ·exact ZC.bad
  obtain ⟨e,s1,r1,h1,h2⟩:=Z9l (Z9o (Z9u n) _ _) hf hr
  have hR:R bd (·<s.base) ⟨args++List.replicate (fn.ntmps - args.length) (.a .un),s.cur::s.stk,s.heap,s.base,s.np,s.kp⟩ r g (vs.toArray++Array.replicate (fn.ntmps - vs.toArray.size) undef) (tm::st) w:=by
   refine h.slots (cur:=args++List.replicate (fn.ntmps - args.length) (.a .un)) (stk:=s.cur::s.stk) (st':=tm::st) ?_ ⟨h.cur,h.stk⟩ (fun v hv=>?_) (fun f hf=>?_)
   ·rw [Array.toList_append,Array.toList_replicate,List.size_toArray,←hlen]
    exact hargs.app (Za.uns _)
   ·rcases Y6.1 hv with hv | hv
    ·exact hall v hv
    ·rw [(List.mem_replicate.1 hv).2];trivial
   ·rcases Yl.1 hf with rfl | hf
    ·exact h.ncur
    ·exact h.nstk f hf
  refine ⟨⟨fn,hfn,hok.2,by rw [hbody];rfl⟩,?_⟩
  refine calls_of_wp hfn hbody (Code.wp_mono ?_ (Z9t hm hcall (Z9v hm hcall n) (Z9u n) b _ r g { tmps:=vs.toArray++Array.replicate (fn.ntmps - vs.toArray.size) undef,defers:=[] } w _ hR h1))
  rintro e' a' w' ⟨hd,x',s',r',g',heq,hR',he⟩
  cases heq
  subst he
  have body : (∃ cur stk, s1.stk = cur :: stk ∧ run K m (match Z34 c.P s1 fn.results.toList with
        | some l=>match single l with
         | some v=>k v ⟨cur,stk,s1.heap,s1.base,s1.np,s1.kp⟩
         | none=>.bad
        | none=>.bad) r1=some out)→a'.defers=[]∧∃v,(results fn a'.tmps).run c.P w'=.ok v w' ∧
    ∃v_1 sv s' r' g',Ending.returned v=Ending.returned v_1∧R bd (·<s'.base) s' r' g' tm st w'∧Z9 w' (Mt bd.Z s'.heap g') g' r' sv v_1∧sv.all (Atom.ok (·<s'.base) s'.heap)∧run K m (k sv s') r'=some out:=by
   rintro ⟨cur,stk,hstk,hrun⟩
   split at hrun
   case h_2=>simp only [run] at hrun;cases hrun
   rename_i l hl
   split at hrun
   case h_2=>simp only [run] at hrun;cases hrun
   rename_i v hv
   obtain ⟨u,e1,e2,e3⟩:=Z9k hR' hl hv
   have hs:=hR'.stk
   rw [hstk] at hs
   refine ⟨hd,u,e1,u,v,⟨cur,stk,s1.heap,s1.base,s1.np,s1.kp⟩,r1,g',rfl,?_,e2,e3,hrun⟩
   exact hR'.slots (cur:=cur) (stk:=stk) hs.1 hs.2 (fun v hv=>hR'.nstk cur (by rw [hstk];exact Yd ..) v hv) (fun f hf=>hR'.nstk f (by rw [hstk];exact Yc _ hf))
  cases e with
  | exit id=>simp only [run] at h2;cases h2
  | normal =>
   cases hstk:s1.stk with
   | nil=>simp only [hstk,run] at h2;cases h2
   | cons cur stk=>simp only [hstk] at h2;exact body ⟨cur,stk,hstk,h2⟩
  | ret =>
   cases hstk:s1.stk with
   | nil=>simp only [hstk,run] at h2;cases h2
   | cons cur stk=>simp only [hstk] at h2;exact body ⟨cur,stk,hstk,h2⟩
end
end Go.Sm
namespace Go.Sm
section
variable {bd bd':Bd} {N N':Nat→Prop} {s s':St} {r r':Env} {g:Nat→G} {tm tm':Array Value} {st st':List (Array Value)} {w:World} {ρ:Nat→Option Nat} {M':Nat→Prop}
theorem R.view (h:R bd N s r g tm st w) (hdom:∀k B',s'.heap k=some B'→∀i,ρ k=some i→∃B,s.heap i=some B)
  (hinj:∀k k' i,(s'.heap k).isSome=true→(s'.heap k').isSome=true→ρ k=some i→ρ k'=some i→k=k')
  (hheap:∀k B',s'.heap k=some B'→Zc w (Mt bd'.Z s'.heap (ZD ρ g)) (ZD ρ g) r' k B')
  (hcur:Za w (Mt bd'.Z s'.heap (ZD ρ g)) (ZD ρ g) r' s'.cur tm'.toList) (hstk:Z0i w (Mt bd'.Z s'.heap (ZD ρ g)) (ZD ρ g) r' s'.stk st')
  (hown:∀k B,s'.heap k=some B→∀b∈(ZD ρ g k).foot,bd'.M0 b∨bd'.w0.heap.size≤b) (hw:Wd bd' w) (hpin:∀k p,bd'.pins[k]?=some p→k<s'.np→(ZD ρ g k).blk=p.blk∧(ZD ρ g k).val=p.val)
  (hnp:s'.np=bd'.pins.length) (hkp:s'.kp=bd'.kp) (hkept:∀c∈bd'.kp,cell w (ZD ρ g c.1).blk c.2=bd'.kept c.1 c.2) (hkpl:∀c∈bd'.kp,c.1<s'.np∧∃l,s'.heap c.1=some (.box l))
  (n1:∀v∈s'.cur,v.all (Atom.ok N' s'.heap)) (n2:∀f∈s'.stk,∀v∈f,v.all (Atom.ok N' s'.heap)) (n3:∀id B,s'.heap id=some B→B.ok N' s'.heap) :
  R bd' N' s' r' (ZD ρ g) tm' st' w:=by
 have foot:∀k B',s'.heap k=some B'→∀b∈(ZD ρ g k).foot,∃i B,ρ k=some i∧s.heap i=some B∧b∈(g i).foot:=by
  intro k B' hk b hb
  cases hi:ρ k with
  | none=>simp [ZD,hi,Z7J] at hb
  | some i =>
   obtain ⟨B,hB⟩:=hdom k B' hk i hi
   rw [ZE hi] at hb
   exact ⟨i,B,rfl,hB,hb⟩
 refine { cur:=hcur,stk:=hstk,heap:=hheap,inj:=?_,nodup:=?_,own:=hown,lt:=?_,world:=hw,pin:=hpin,np:=hnp,kp:=hkp,kept:=hkept,kpl:=hkpl,ncur:=n1,nstk:=n2,nheap:=n3 }
 ·intro k k' B B' b hk hk' hb hb'
  obtain ⟨i,C,e1,e2,e3⟩:=foot k B hk b hb
  obtain ⟨i',C',e1',e2',e3'⟩:=foot k' B' hk' b hb'
  have:=h.inj i i' C C' b e2 e2' e3 e3'
  subst this
  exact hinj k k' i (by simp [hk]) (by simp [hk']) e1 e1'
 ·intro k B hk
  cases hi:ρ k with
  | none=>simp [ZD,hi,Z7J]
  | some i =>
   obtain ⟨B,hB⟩:=hdom k B hk i hi
   rw [ZE hi]
   exact h.nodup i B hB
 ·intro k B hk b hb
  obtain ⟨i,C,e1,e2,e3⟩:=foot k B hk b hb
  exact h.lt i C e2 b e3
theorem Z9w (h:R bd N s r g tm st w) (hM:∀b,M' b→Mt bd.Z s.heap g b) {b:Atom} {v:Value} {t:Ty} {e:E t} (hv:Z7 w (Mt bd.Z s.heap g) g r b v) (he:b.toE s.heap t=some e)
  (hrd:∀i∈refsOf [b],∀B,s.heap i=some B→∀x∈(g i).foot,¬M' x):Rep w M' t (den e r) [v]:=by
 have hk:Kept w (Mt bd.Z s.heap g) w M':=⟨fun _ _ _=>rfl,fun b _ h=>hM b h⟩
 cases b with
 | x u e'=>exact (Z45 he hv).keep hk
 | xc u e'=>exact (Z45 he hv.1).keep hk
 | nil =>
  simp only [Atom.toE] at he
  split at he
  ·cases he
   simp only [Z7] at hv
   subst hv
   exact ⟨none,0,rfl,Yh _,fun _=>by simp [den],fun _=>rfl,fun p hp=>by cases hp⟩
  ·cases he
 | ref id =>
  simp only [Atom.toE] at he
  split at he
  ·rename_i dp u e' hid
   simp only [Z7] at hv
   have hr:=Zb.rep (h.heap id _ hid) hk (hrd id (by simp [refsOf]) _ hid)
   rw [←hv] at hr
   exact Z45 he hr
  ·cases he
 | nref id u k i j =>
  simp only [Atom.toE] at he
  obtain ⟨a,ha,h2⟩:=Option.bind_eq_some_iff.1 he
  unfold Z0k at ha
  split at ha
  ·rename_i t' e' hid
   split at ha
   ·rename_i ht
    subst ht
    exact Z45 h2 (Z3e (h.heap id _ hid) hk (hrd id (by simp [refsOf]) _ hid) ha hv)
   ·cases ha
  ·cases ha
 | _=>cases he
theorem Z9x (h:R bd N s r g tm st w) (hM:∀b,M' b→Mt bd.Z s.heap g b) {b:Atom} {v:Value} {t:Ty} {e:E t} {gs:List (E .bool)} (hv:Z7 w (Mt bd.Z s.heap g) g r b v) (he:Z1T s.heap t b=some (gs,e))
  (hg:∀c∈gs,den c r=true) (hrd:∀i∈refsOf [b],∀B,s.heap i=some B→∀x∈(g i).foot,¬M' x):Rep w M' t (den e r) [v]:=by
 unfold Z1T at he
 split at he
 ·rename_i e' h1
  simp only [Y4,Y9] at he
  obtain ⟨rfl,rfl⟩:=he
  exact Z9w h hM hv h1 hrd
 ·split at he
  ·rename_i u
   obtain ⟨e',h1,h2⟩:=Ya.1 he
   simp only [Y9] at h2
   obtain ⟨rfl,rfl⟩:=h2
   exact (Z3j h hM h1 hv hrd).1
  ·rename_i u
   obtain ⟨e',h1,h2⟩:=Ya.1 he
   simp only [Y9] at h2
   obtain ⟨rfl,rfl⟩:=h2
   obtain ⟨x,cp,a1,a2,a3,a4,a5⟩:=Z9w h hM hv h1 hrd
   have hne:=hg _ (Y1.2 rfl)
   simp only [den,O1.d,Yr,List.isEmpty_eq_false_iff] at hne
   refine ⟨x,cp,a1,a2,fun _=>⟨fun hx=>?_,fun hx=>(hne hx).elim⟩,a4,a5⟩
   have h0:=a4 hx
   have hpos:=YJ.2 hne
   omega
  ·cases he
theorem Z9y {t:Ty} {d:t.D} {i:Nat} (h:r' i=⟨t,d⟩):den (.var t i) r'=d:=by
 simp only [den];rw [h];exact AV.as_mk t d
theorem Z9z (h:R bd N s r g tm st w) (hM:∀b,M' b→Mt bd.Z s.heap g b):∀{t:Ty} {l rest:List Atom} {u:E t} {vs:List Value},mkE s.heap t l=some (u,rest)→Z8 w (Mt bd.Z s.heap g) g r l vs →
  (∀b∈l,∀i∈refsOf [b],∀B,s.heap i=some B→∀x∈(g i).foot,¬M' x)→∃us ws,vs=us++ws∧Rep w M' t (den u r) us∧Z8 w (Mt bd.Z s.heap g) g r rest ws∧∀b∈rest,b∈l:=by
 intro t
 have leaf:∀{t:Ty},(∀(l:List Atom),mkE s.heap t l=match l with | x::l=>(x.toE s.heap t).map (·,l) | []=>none)→∀{l rest:List Atom} {u:E t} {vs:List Value},mkE s.heap t l=some (u,rest)→Z8 w (Mt bd.Z s.heap g) g r l vs →
   (∀b∈l,∀i∈refsOf [b],∀B,s.heap i=some B→∀x∈(g i).foot,¬M' x)→∃us ws,vs=us++ws∧Rep w M' t (den u r) us∧Z8 w (Mt bd.Z s.heap g) g r rest ws∧∀b∈rest,b∈l:=by
  intro t hmk l rest u vs hm hr hrd
  rw [hmk] at hm
  cases l with
  | nil=>cases hm
  | cons b l =>
   cases vs with
   | nil=>exact hr.elim
   | cons v vs =>
    obtain ⟨e,he,hm⟩:=Ya.1 hm
    cases hm
    exact ⟨[v],vs,rfl,Z9w h hM hr.1 he (hrd b (Yd ..)),hr.2,fun b hb=>Yc _ hb⟩
 induction t with
 | int k=>exact leaf fun l=>by cases l<;>rfl
 | bool=>exact leaf fun l=>by cases l<;>rfl
 | str=>exact leaf fun l=>by cases l<;>rfl
 | sl c e ih=>exact leaf fun l=>by cases l<;>rfl
 | pr x y ihx ihy =>
  intro l rest u vs hm hr hrd
  simp only [mkE] at hm
  split at hm
  case h_2=>cases hm
  rename_i u1 l1 h1
  split at hm
  case h_2=>cases hm
  rename_i u2 l2 h2
  cases hm
  obtain ⟨us1,ws1,rfl,a3,a5,a6⟩:=ihx h1 hr hrd
  obtain ⟨us2,ws2,rfl,b3,b5,b6⟩:=ihy h2 a5 fun b hb=>hrd b (a6 b hb)
  exact ⟨us1++us2,ws2,by simp,⟨us1,us2,rfl,a3,b3⟩,b5,fun b hb=>a6 b (b6 b hb)⟩
theorem Z9A {l:List Atom} {b:Atom} {i:Nat} (hb:b∈l) (hi:i∈refsOf [b]):i∈refsOf l:=by
 simp only [refsOf,YO,Y1,exists_eq_left] at hi ⊢
 exact ⟨b,hb,hi⟩
theorem Z9B (h:R bd N s r g tm st w) (hM:∀b,M' b→Mt bd.Z s.heap g b) {n:Nat}:∀{o:OC} {j:Nat} {l rest:List Atom} {x:MX o} {vs:List Value},Z1U s.heap n o j l=some (x,rest)→(∀c∈x.gs,den c r=true)→Z8 w (Mt bd.Z s.heap g) g r l vs →
  (∀q t,(q,t)∈x.tg→ρ q=t)→(∀i∈x.rd,∀B,s.heap i=some B→∀x∈(g i).foot,¬M' x)→∀(e':E o.ty),den e' r'=den x.e r →
  ∃us ws,vs=us++ws∧Z8 w (Mt bd.Z s.heap g) g r rest ws∧x.tg.map (·.1)=(Zj n o j e').map (·.1)∧(∀q i,(q,some i)∈x.tg→∃B,s.heap i=some B) ∧
   Z8 w M' (ZD ρ g) r' (Zi n o j e') us∧∀k B,(k,B)∈Zj n o j e'→Zc w M' (ZD ρ g) r' k B:=by
 intro o
 have hk:Kept w (Mt bd.Z s.heap g) w M':=⟨fun _ _ _=>rfl,fun b _ h=>hM b h⟩
 induction o with
 | p t =>
  intro j l rest x vs hm hg hv hρ hrd e' he
  cases l with
  | nil=>simp [Z1U] at hm
  | cons a l =>
   cases vs with
   | nil=>exact hv.elim
   | cons v vs =>
    simp only [Z1U] at hm
    obtain ⟨⟨gs,e⟩,h1,h2⟩:=Ya.1 hm
    cases h2
    refine ⟨[v],vs,rfl,hv.2,rfl,fun q i hq=>(by cases hq),⟨?_,trivial⟩,fun k B hB=>(by cases hB)⟩
    simp only [Z7]
    rw [he]
    exact Z9x h hM hv.1 h1 hg hrd
 | arr dp t =>
  intro j l rest x vs hm hg hv hρ hrd e' he
  cases l with
  | nil=>simp [Z1U] at hm
  | cons a l =>
   cases vs with
   | nil=>exact hv.elim
   | cons v vs =>
    cases a with
    | ref i =>
     simp only [Z1U] at hm
     split at hm
     case h_2=>cases hm
     rename_i dp' t' e hi
     split at hm
     case isFalse=>cases hm
     rename_i hdp
     split at hm
     case isFalse=>cases hm
     rename_i ht
     subst hdp
     subst ht
     cases hm
     have hpi:ρ (n+j)=some i:=hρ (n+j) (some i) (Y1.2 rfl)
     refine ⟨[v],vs,rfl,hv.2,rfl,fun q i' hq=>?_,⟨?_,trivial⟩,fun k B hB=>?_⟩
     ·simp only [Y1,Y9,Y4] at hq
      obtain ⟨-,rfl⟩:=hq
      exact ⟨_,hi⟩
     ·have h1:=hv.1
      simp only [Z7] at h1 ⊢
      rw [h1,ZE hpi]
     ·simp only [Zj,Y1,Y9] at hB
      obtain ⟨rfl,rfl⟩:=hB
      simp only [Zc]
      rw [ZE hpi,he]
      exact Zb.keep hk (fun _ _=>rfl) (h.heap i _ hi)
    | nil =>
     simp only [Z1U] at hm
     cases hm
     have hpi:ρ (n+j)=none:=hρ (n+j) none (Y1.2 rfl)
     refine ⟨[v],vs,rfl,hv.2,rfl,fun q i' hq=>?_,⟨?_,trivial⟩,fun k B hB=>?_⟩
     ·simp at hq
     ·have h1:=hv.1
      simp only [Z7] at h1 ⊢
      rw [h1];simp [ZD,hpi,Z7J]
     ·simp only [Zj,Y1,Y9] at hB
      obtain ⟨rfl,rfl⟩:=hB
      exact Z7T (by simp [ZD,hpi]) he
    | _=>simp [Z1U] at hm
 | pr a b iha ihb =>
  intro j l rest x vs hm hg hv hρ hrd e' he
  simp only [Z1U] at hm
  split at hm
  case h_2=>cases hm
  rename_i y l1 h1
  split at hm
  case h_2=>cases hm
  rename_i z l2 h2
  cases hm
  simp only [den,O2.d] at he
  obtain ⟨us1,ws1,rfl,a2,a3,a4,a5,a6⟩:=iha h1 (fun c hc=>hg c (Y3 _ hc)) hv (fun q t hq=>hρ q t (Y3 _ hq)) (fun i hi=>hrd i (Y3 _ hi)) (.o1 (.fst a.ty b.ty) e') (by simp only [den,O1.d,he])
  obtain ⟨us2,ws2,rfl,b2,b3,b4,b5,b6⟩:=ihb h2 (fun c hc=>hg c (Y0 _ hc)) a2 (fun q t hq=>hρ q t (Y0 _ hq)) (fun i hi=>hrd i (Y0 _ hi)) (.o1 (.snd a.ty b.ty) e') (by simp only [den,O1.d,he])
  refine ⟨us1++us2,ws2,by simp,b2,?_,fun q i hq=>?_,?_,fun k B hB=>?_⟩
  ·simp only [Zj,YK,a3,b3]
  ·rcases Y6.1 hq with hq | hq
   ·exact a4 q i hq
   ·exact b4 q i hq
  ·simp only [Zi];exact a5.append b5
  ·simp only [Zj] at hB
   rcases Y6.1 hB with hB | hB
   ·exact a6 k B hB
   ·exact b6 k B hB
theorem Z9C (h:R bd N s r g tm st w) (hM:∀b,M' b→Mt bd.Z s.heap g b) {v0 p:Nat} {c:CS} {a:Atom} {v:Value} {o:MO} (hm:Z1V s.heap v0 p c a=some o) (hg:∀c∈o.gs,den c r=true) (hv:Z7 w (Mt bd.Z s.heap g) g r a v)
  (hρ:∀q t,(q,t)∈o.tg→ρ q=t) (hrd:∀i∈o.rd,∀B,s.heap i=some B→∀x∈(g i).foot,¬M' x) (hr:∀i x,o.es[i]?=some x→r' (v0+i)=Z0 x r) :
  o.es.length=1∧o.tg.map (·.1)=(c.bl v0 p).map (·.1)∧(∀q i,(q,some i)∈o.tg→∃B,s.heap i=some B)∧Z7 w M' (ZD ρ g) r' (c.at v0 p) v∧∀k B,(k,B)∈c.bl v0 p→Zc w M' (ZD ρ g) r' k B:=by
 have hk:Kept w (Mt bd.Z s.heap g) w M':=⟨fun _ _ _=>rfl,fun b _ h=>hM b h⟩
 cases c with
 | p t =>
  simp only [Z1V] at hm
  obtain ⟨⟨gs,e⟩,h1,rfl⟩:=Ya.1 hm
  refine ⟨rfl,rfl,fun q i hq=>(by cases hq),?_,fun k B hB=>by cases hB⟩
  have hd:=Z9y (hr 0 _ rfl)
  simp only [CS.at,Z7]
  rw [Nat.add_zero] at hd
  rw [hd]
  exact Z9x h hM hv h1 hg hrd
 | arr dp t =>
  simp only [Z1V] at hm
  split at hm
  ·rename_i i
   split at hm
   ·rename_i dp' t' e hi
    split at hm
    case isFalse=>cases hm
    rename_i hdp
    split at hm
    case isFalse=>cases hm
    rename_i ht
    subst hdp
    subst ht
    cases hm
    have hpi:ρ p=some i:=hρ p (some i) (Y1.2 rfl)
    have hd:(den (.var (.sl false t') v0) r':List t'.D)=den e r:=Z9y (hr 0 _ rfl)
    refine ⟨rfl,rfl,fun q i' hq=>?_,?_,fun k B hB=>?_⟩
    ·simp only [Y1,Y9,Y4] at hq
     obtain ⟨-,rfl⟩:=hq
     exact ⟨_,hi⟩
    ·simp only [CS.at,Z7] at hv ⊢
     rw [hv,ZE hpi]
    ·simp only [CS.bl,Y1,Y9] at hB
     obtain ⟨rfl,rfl⟩:=hB
     simp only [Zc]
     rw [ZE hpi,hd]
     exact Zb.keep hk (fun _ _=>rfl) (h.heap i _ hi)
   ·cases hm
  ·cases hm
   have hpi:ρ p=none:=hρ p none (Y1.2 rfl)
   have hd:(den (.var (.sl false t) v0) r':List t.D)=[]:=Z9y (hr 0 _ rfl)
   refine ⟨rfl,rfl,fun q i' hq=>?_,?_,fun k B hB=>?_⟩
   ·simp at hq
   ·simp only [CS.at,Z7] at hv ⊢
    rw [hv];simp [ZD,hpi,Z7J]
   ·simp only [CS.bl,Y1,Y9] at hB
    obtain ⟨rfl,rfl⟩:=hB
    exact Z7T (by simp [ZD,hpi]) hd
  ·cases hm
 | box t =>
  simp only [Z1V] at hm
  split at hm
  case h_2=>cases hm
  rename_i i
  split at hm
  case h_2=>cases hm
  rename_i l hi
  split at hm
  case h_2=>cases hm
  rename_i e he
  cases hm
  have hpi:ρ p=some i:=hρ p (some i) (Y1.2 rfl)
  have hd:den (.var t v0) r'=den e r:=Z9y (hr 0 _ rfl)
  obtain ⟨hb1,cc,ty,hb2,hb3⟩:=h.heap i _ hi
  obtain ⟨us,ws,e1,e2,e3,-⟩:=Z9z h hM he hb3 fun b hb i hi=>hrd i (Z9A hb hi)
  have hws:ws=[]:=by
   cases ws with
   | nil=>rfl
   | cons=>exact e3.elim
  subst hws
  rw [Yx] at e1
  refine ⟨rfl,rfl,fun q i' hq=>?_,?_,fun k B hB=>?_⟩
  ·simp only [Y1,Y9,Y4] at hq
   obtain ⟨-,rfl⟩:=hq
   exact ⟨_,hi⟩
  ·simp only [CS.at,Z7] at hv ⊢
   rw [hv,ZE hpi]
  ·simp only [CS.bl,Y1,Y9] at hB
   obtain ⟨rfl,rfl⟩:=hB
   simp only [Zc]
   rw [ZE hpi]
   refine ⟨hb1,cc,ty,hb2,Z4j ?_⟩
   rw [hd,e1]
   exact e2
 | eat dp t =>
  simp only [Z1V] at hm
  split at hm
  ·rename_i i
   split at hm
   ·rename_i dp' t' e hi
    split at hm
    case isFalse=>cases hm
    rename_i hdp
    split at hm
    case isFalse=>cases hm
    rename_i ht
    subst hdp
    subst ht
    cases hm
    have hpi:ρ (2000+v0)=some i:=hρ (2000+v0) (some i) (Y1.2 rfl)
    have hd:(den (.var (.sl false t') v0) r':List t'.D)=den e r:=Z9y (hr 0 _ rfl)
    refine ⟨rfl,rfl,fun q i' hq=>?_,?_,fun k B hB=>?_⟩
    ·simp only [Y1,Y9,Y4] at hq
     obtain ⟨-,rfl⟩:=hq
     exact ⟨_,hi⟩
    ·simp only [CS.at,Z7] at hv ⊢
     rw [hv,ZE hpi]
    ·simp only [CS.bl,Y1,Y9] at hB
     obtain ⟨rfl,rfl⟩:=hB
     simp only [Zc]
     rw [ZE hpi,hd]
     exact Zb.keep hk (fun _ _=>rfl) (h.heap i _ hi)
   ·cases hm
  ·cases hm
   have hpi:ρ (2000+v0)=none:=hρ (2000+v0) none (Y1.2 rfl)
   have hd:(den (.var (.sl false t) v0) r':List t.D)=[]:=Z9y (hr 0 _ rfl)
   refine ⟨rfl,rfl,fun q i' hq=>?_,?_,fun k B hB=>?_⟩
   ·simp at hq
   ·simp only [CS.at,Z7] at hv ⊢
    rw [hv];simp [ZD,hpi,Z7J]
   ·simp only [CS.bl,Y1,Y9] at hB
    obtain ⟨rfl,rfl⟩:=hB
    exact Z7T (by simp [ZD,hpi]) hd
  ·cases hm
 | self f =>
  simp only [Z1V] at hm
  split at hm
  case h_2=>cases hm
  rename_i i
  split at hm
  case h_2=>cases hm
  rename_i b hi
  cases hm
  have hpi:ρ p=some i:=hρ p (some i) (Y1.2 rfl)
  obtain ⟨hb1,cc,ty,hb2,hb3⟩:=h.heap i _ hi
  refine ⟨rfl,rfl,fun q i' hq=>?_,?_,fun k B hB=>?_⟩
  ·simp only [Y1,Y9,Y4] at hq
   obtain ⟨-,rfl⟩:=hq
   exact ⟨_,hi⟩
  ·simp only [CS.at,Z7] at hv ⊢
   rw [hv,ZE hpi]
  ·simp only [CS.bl,Y1,Y9] at hB
   obtain ⟨rfl,rfl⟩:=hB
   simp only [Zc]
   rw [ZE hpi]
   refine ⟨hb1,cc,ty,hb2,?_⟩
   generalize cc.toList=vs at hb3 ⊢
   cases vs with
   | nil=>exact hb3.elim
   | cons v vs =>
    cases vs with
    | nil=>exact ⟨trivial,trivial⟩
    | cons=>exact hb3.2.elim
 | obj ob =>
  simp only [Z1V] at hm
  split at hm
  case h_2=>cases hm
  rename_i i
  split at hm
  case h_2=>cases hm
  rename_i l hi
  split at hm
  case h_2=>cases hm
  rename_i x hx
  cases hm
  have hpi:ρ p=some i:=hρ p (some i) (Yd ..)
  have hd:den (.var ob.ty v0) r'=den x.e r:=Z9y (hr 0 _ rfl)
  obtain ⟨hb1,cc,ty,hb2,hb3⟩:=h.heap i _ hi
  obtain ⟨us,ws,e1,e2,e3,e4,e5,e6⟩:=Z9B (ρ:=ρ) h hM hx hg hb3 (fun q t hq=>hρ q t (Yc _ hq)) hrd (.var ob.ty v0) hd
  have hws:ws=[]:=by
   cases ws with
   | nil=>rfl
   | cons=>exact e2.elim
  subst hws
  rw [Yx] at e1
  refine ⟨rfl,?_,fun q i' hq=>?_,?_,fun k B hB=>?_⟩
  ·simp only [CS.bl,List.map_cons,e3]
  ·rcases Yl.1 hq with hq | hq
   ·simp only [Y9,Y4] at hq
    obtain ⟨-,rfl⟩:=hq
    exact ⟨_,hi⟩
   ·exact e4 q i' hq
  ·simp only [CS.at,Z7] at hv ⊢
   rw [hv,ZE hpi]
  ·simp only [CS.bl] at hB
   rcases Yl.1 hB with hB | hB
   ·simp only [Y9] at hB
    obtain ⟨rfl,rfl⟩:=hB
    simp only [Zc]
    rw [ZE hpi]
    refine ⟨hb1,cc,ty,hb2,?_⟩
    rw [e1]
    exact e5
   ·exact e6 k B hB
theorem Z9D {h0:Nat→Option Blk} {v p:Nat} {c:CS} {a:Atom} {x:MO} (hx:Z1V h0 v p c a=some x):x.es.length=1:=by
 unfold Z1V at hx
 repeat' split at hx
 all_goals first | (cases hx;done) | (cases hx;rfl) | (obtain ⟨_,_,rfl⟩:=Ya.1 hx;rfl)
theorem Z9E {x y:MO} {v0 n:Nat} (hl:x.es.length=n) (hr:∀i u,(x.add y).es[i]?=some u→r' (v0+i)=Z0 u r) :
  (∀i u,x.es[i]?=some u→r' (v0+i)=Z0 u r)∧∀i u,y.es[i]?=some u→r' (v0+n+i)=Z0 u r:=by
 refine ⟨fun i u hi=>hr i u ?_,fun i u hi=>?_⟩
 ·simp only [MO.add]
  rw [Yw (Yn.1 hi).1]
  exact hi
 ·rw [Nat.add_assoc]
  refine hr (n+i) u ?_
  simp only [MO.add]
  rw [Yt (by omega),hl,Nat.add_sub_cancel_left]
  exact hi
theorem Z9F (h:R bd N s r g tm st w) (hM:∀b,M' b→Mt bd.Z s.heap g b):∀{l:List CS} {m:List Atom} {vs:List Value} {p v0:Nat} {o:MO},Zo s.heap v0 p l m=some o→(∀c∈o.gs,den c r=true)→Z8 w (Mt bd.Z s.heap g) g r m vs →
  (∀q t,(q,t)∈o.tg→ρ q=t)→(∀i∈o.rd,∀B,s.heap i=some B→∀x∈(g i).foot,¬M' x)→(∀i x,o.es[i]?=some x→r' (v0+i)=Z0 x r) →
  o.es.length=l.length∧o.tg.map (·.1)=(csB v0 p l).map (·.1)∧(∀q i,(q,some i)∈o.tg→∃B,s.heap i=some B)∧Z8 w M' (ZD ρ g) r' (csA v0 p l) vs∧∀k B,(k,B)∈csB v0 p l→Zc w M' (ZD ρ g) r' k B
 | [],[],vs,p,v0,o,hm,hg,hv,hρ,hrd,hr=>by
  simp only [Zo,Y4] at hm
  subst hm
  cases vs with
  | nil=>exact ⟨rfl,rfl,fun q i hq=>(by simp at hq),trivial,fun k B hB=>by cases hB⟩
  | cons=>exact hv.elim
 | c::l,a::m,vs,p,v0,o,hm,hg,hv,hρ,hrd,hr=>by
  unfold Zo at hm
  split at hm
  case h_2=>cases hm
  rename_i x y hx hy
  cases hm
  cases vs with
  | nil=>exact hv.elim
  | cons u vs =>
   have hx0:x.es.length=1:=Z9D hx
   obtain ⟨hr1,hr2⟩:=Z9E hx0 hr
   obtain ⟨-,b2,b3,b4,b5⟩:=Z9C (ρ:=ρ) h hM hx (fun c hc=>hg c (Y3 _ hc)) hv.1 (fun q t hq=>hρ q t (Y3 _ hq)) (fun i hi=>hrd i (Y3 _ hi)) hr1
   obtain ⟨c1,c2,c3,c4,c5⟩:=Z9F h hM hy (fun c hc=>hg c (Y0 _ hc)) hv.2 (fun q t hq=>hρ q t (Y0 _ hq)) (fun i hi=>hrd i (Y0 _ hi)) hr2
   refine ⟨by simp only [MO.add,Y7,hx0,c1,YA];omega,?_,fun q i hq=>?_,⟨b4,c4⟩,fun k B hB=>?_⟩
   ·simp only [MO.add,csB,YK,b2,c2]
   ·rcases Y6.1 hq with hq | hq
    ·exact b3 q i hq
    ·exact c3 q i hq
   ·rcases Y6.1 hB with hB | hB
    ·exact b5 k B hB
    ·exact c5 k B hB
 | [],_::_,vs,p,v0,o,hm,_,_,_,_,_=>by simp [Zo] at hm
 | _::_,[],vs,p,v0,o,hm,_,_,_,_,_=>by simp [Zo] at hm
theorem Z9G (h:R bd N s r g tm st w) (hM:∀b,M' b→Mt bd.Z s.heap g b) {sh:Sh} {sv:SV} {u:Value} {p v0:Nat} {o:MO} (hm:Z1W s.heap v0 p sh sv=some o) (hg:∀c∈o.gs,den c r=true) (hv:Z9 w (Mt bd.Z s.heap g) g r sv u)
  (hρ:∀q t,(q,t)∈o.tg→ρ q=t) (hrd:∀i∈o.rd,∀B,s.heap i=some B→∀x∈(g i).foot,¬M' x) (hr:∀i x,o.es[i]?=some x→r' (v0+i)=Z0 x r) :
  o.es.length=sh.cs.length∧o.tg.map (·.1)=(csB v0 p sh.cs).map (·.1)∧(∀q i,(q,some i)∈o.tg→∃B,s.heap i=some B)∧Z9 w M' (ZD ρ g) r' (sh.sv v0 p) u∧∀k B,(k,B)∈csB v0 p sh.cs→Zc w M' (ZD ρ g) r' k B:=by
 unfold Z1W at hm
 split at hm
 ·obtain ⟨cs,h1,h2⟩:=hv
  obtain ⟨b1,b2,b3,b4,b5⟩:=Z9F (ρ:=ρ) h hM hm hg h2 hρ hrd hr
  exact ⟨b1,b2,b3,⟨cs,h1,b4⟩,b5⟩
 ·obtain ⟨b1,b2,b3,b4,b5⟩:=Z9F (ρ:=ρ) (vs:=[u]) h hM hm hg ⟨hv,trivial⟩ hρ hrd hr
  exact ⟨b1,b2,b3,b4.1,b5⟩
 ·obtain ⟨b1,b2,b3,b4,b5⟩:=Z9F (ρ:=ρ) (vs:=[u]) h hM hm hg ⟨hv,trivial⟩ hρ hrd hr
  exact ⟨b1,b2,b3,b4.1,b5⟩
 ·obtain ⟨b1,b2,b3,b4,b5⟩:=Z9F (ρ:=ρ) (vs:=[u]) h hM hm hg ⟨hv,trivial⟩ hρ hrd hr
  exact ⟨b1,b2,b3,b4.1,b5⟩
 ·obtain ⟨b1,b2,b3,b4,b5⟩:=Z9F (ρ:=ρ) (vs:=[u]) h hM hm hg ⟨hv,trivial⟩ hρ hrd hr
  exact ⟨b1,b2,b3,b4.1,b5⟩
 ·obtain ⟨b1,b2,b3,b4,b5⟩:=Z9F (ρ:=ρ) (vs:=[u]) h hM hm hg ⟨hv,trivial⟩ hρ hrd hr
  exact ⟨b1,b2,b3,b4.1,b5⟩
 ·obtain ⟨b1,b2,b3,b4,b5⟩:=Z9F (ρ:=ρ) (vs:=[u]) h hM hm hg ⟨hv,trivial⟩ hρ hrd hr
  exact ⟨b1,b2,b3,b4.1,b5⟩
 ·cases hm
theorem Z9H {h0:Nat→Option Blk}:∀{l:List CS} {m:List Atom} {v p:Nat} {o:MO},Zo h0 v p l m=some o→o.es.length=l.length
 | [],[],v,p,o,hm=>by simp only [Zo,Y4] at hm;subst hm;rfl
 | c::l,a::m,v,p,o,hm=>by
  unfold Zo at hm
  split at hm
  case h_2=>cases hm
  rename_i x y hx hy
  cases hm
  have hx0:x.es.length=1:=Z9D hx
  simp only [MO.add,Y7,hx0,Z9H hy,YA]
  omega
 | [],_::_,v,p,o,hm=>by simp [Zo] at hm
 | _::_,[],v,p,o,hm=>by simp [Zo] at hm
theorem Z9I {h0:Nat→Option Blk} {sh:Sh} {sv:SV} {v p:Nat} {o:MO} (hm:Z1W h0 v p sh sv=some o):o.es.length=sh.cs.length:=by
 unfold Z1W at hm
 split at hm
 ·exact Z9H hm
 ·exact Z9H hm
 ·exact Z9H hm
 ·exact Z9H hm
 ·exact Z9H hm
 ·exact Z9H hm
 ·exact Z9H hm
 ·cases hm
theorem Z9J {h0:Nat→Option Blk}:∀{l:List Sh} {m:List SV} {v p:Nat} {o:MO},Z1X h0 v p l m=some o→o.es.length=shN l
 | [],[],v,p,o,hm=>by simp only [Z1X,Y4] at hm;subst hm;rfl
 | c::l,a::m,v,p,o,hm=>by
  unfold Z1X at hm
  split at hm
  case h_2=>cases hm
  rename_i x y hx hy
  cases hm
  simp only [MO.add,Y7,Z9I hx,Z9J hy,shN]
 | [],_::_,v,p,o,hm=>by simp [Z1X] at hm
 | _::_,[],v,p,o,hm=>by simp [Z1X] at hm
theorem Z9K (h:R bd N s r g tm st w) (hM:∀b,M' b→Mt bd.Z s.heap g b):∀{l:List Sh} {m:List SV} {vs:List Value} {p v0:Nat} {o:MO},Z1X s.heap v0 p l m=some o→(∀c∈o.gs,den c r=true)→Za w (Mt bd.Z s.heap g) g r m vs →
  (∀q t,(q,t)∈o.tg→ρ q=t)→(∀i∈o.rd,∀B,s.heap i=some B→∀x∈(g i).foot,¬M' x)→(∀i x,o.es[i]?=some x→r' (v0+i)=Z0 x r) →
  o.tg.map (·.1)=(shB v0 p l).map (·.1)∧(∀q i,(q,some i)∈o.tg→∃B,s.heap i=some B)∧Za w M' (ZD ρ g) r' (Z1O v0 p l) vs∧∀k B,(k,B)∈shB v0 p l→Zc w M' (ZD ρ g) r' k B
 | [],[],vs,p,v0,o,hm,hg,hv,hρ,hrd,hr=>by
  simp only [Z1X,Y4] at hm
  subst hm
  cases vs with
  | nil=>exact ⟨rfl,fun q i hq=>(by simp at hq),trivial,fun k B hB=>by cases hB⟩
  | cons=>exact hv.elim
 | c::l,a::m,vs,p,v0,o,hm,hg,hv,hρ,hrd,hr=>by
  unfold Z1X at hm
  split at hm
  case h_2=>cases hm
  rename_i x y hx hy
  cases hm
  cases vs with
  | nil=>exact hv.elim
  | cons u vs =>
   obtain ⟨hr1,hr2⟩:=Z9E (Z9I hx) hr
   obtain ⟨-,b2,b3,b4,b5⟩:=Z9G (ρ:=ρ) h hM hx (fun c hc=>hg c (Y3 _ hc)) hv.1 (fun q t hq=>hρ q t (Y3 _ hq)) (fun i hi=>hrd i (Y3 _ hi)) hr1
   obtain ⟨c2,c3,c4,c5⟩:=Z9K h hM hy (fun c hc=>hg c (Y0 _ hc)) hv.2 (fun q t hq=>hρ q t (Y0 _ hq)) (fun i hi=>hrd i (Y0 _ hi)) hr2
   refine ⟨?_,fun q i hq=>?_,⟨b4,c4⟩,fun k B hB=>?_⟩
   ·simp only [MO.add,shB,YK,b2,c2]
   ·rcases Y6.1 hq with hq | hq
    ·exact b3 q i hq
    ·exact c3 q i hq
   ·rcases Y6.1 hB with hB | hB
    ·exact b5 k B hB
    ·exact c5 k B hB
 | [],_::_,vs,p,v0,o,hm,_,_,_,_,_=>by simp [Z1X] at hm
 | _::_,[],vs,p,v0,o,hm,_,_,_,_,_=>by simp [Z1X] at hm
end
section
variable {N:Nat→Prop} {h':Nat→Option Blk}
theorem Z9L:∀{l:List CS} {v p:Nat},(∀i,v≤i→i<v+l.length→N i)→(∀k B,(k,B)∈csB v p l→(h' k).isSome=true)→∀a∈csA v p l,a.ok N h'
 | [],_,_,_,_,a,ha=>by cases ha
 | c::l,v,p,hN,hh,a,ha=>by
  rcases Yl.1 ha with rfl | ha
  ·cases c with
   | p t=>exact hN v (Yh _) (by simp)
   | arr dp t=>exact hh p _ (Y3 _ (Y1.2 rfl))
   | box t=>exact hh p _ (Y3 _ (Y1.2 rfl))
   | eat dp t=>exact hh (2000+v) _ (Y3 _ (Y1.2 rfl))
   | self f=>exact hh p _ (Y3 _ (Y1.2 rfl))
   | obj o=>exact hh p _ (Y3 _ (Yd ..))
  ·exact Z9L (fun i h1 h2=>hN i (by omega) (by simp only [YA];omega)) (fun k B hB=>hh k B (Y0 _ hB)) a ha
def E.pj (i:Nat):{t:Ty}→E t→Prop
 | _,.var _ k=>k=i
 | _,.o1 _ x=>x.pj i
 | _,_=>False
theorem E.pj.vs {i:Nat} (hi:N i):∀{t:Ty} {e:E t},e.pj i→e.vs N
 | _,.var _ k,h=>by simp only [E.pj] at h;subst h;exact hi
 | _,.o1 _ x,h=>E.pj.vs (e:=x) hi h
theorem Z9M {n i:Nat}:∀{o:OC} {j:Nat} {e:E o.ty} {k:Nat} {B:Blk},e.pj i→(k,B)∈Zj n o j e→n+j≤k∧∃dp t,∃e:E (.sl false t),B=.arr dp t e∧e.pj i∧∀b,o.flat b=true→(dp||!t.hasSl)=true:=by
 intro o
 induction o with
 | p t=>intro j e k B _ h;cases h
 | arr dp t =>
  intro j e k B he h
  simp only [Zj,Y1,Y9] at h
  obtain ⟨rfl,rfl⟩:=h
  exact ⟨Yh _,dp,t,e,rfl,he,fun b hb=>hb⟩
 | pr a b iha ihb =>
  intro j e k B he h
  simp only [Zj] at h
  rcases Y6.1 h with h | h
  ·obtain ⟨h1,dp,t,e2,h2,h3,h4⟩:=iha (e:=.o1 (.fst a.ty b.ty) e) he h
   exact ⟨h1,dp,t,e2,h2,h3,fun b hb=>h4 b (by simp only [OC.flat,Y5] at hb;exact hb.1)⟩
  ·obtain ⟨h1,dp,t,e2,h2,h3,h4⟩:=ihb (e:=.o1 (.snd a.ty b.ty) e) he h
   exact ⟨by omega,dp,t,e2,h2,h3,fun b hb=>h4 b (by simp only [OC.flat,Y5] at hb;exact hb.2)⟩
theorem Z9N {n i:Nat} (hi:N i):∀{o:OC} {j:Nat} {e:E o.ty},e.pj i→(∀k B,(k,B)∈Zj n o j e→(h' k).isSome=true)→∀a∈Zi n o j e,a.ok N h':=by
 intro o
 induction o with
 | p t=>intro j e he _ a ha;rw [Y1.1 ha];exact he.vs hi
 | arr dp t=>intro j e he hh a ha;rw [Y1.1 ha];exact hh _ _ (Y1.2 rfl)
 | pr x y ihx ihy =>
  intro j e he hh a ha
  simp only [Zi] at ha
  simp only [Zj] at hh
  rcases Y6.1 ha with ha | ha
  ·exact ihx (e:=.o1 (.fst x.ty y.ty) e) he (fun k B hB=>hh k B (Y3 _ hB)) a ha
  ·exact ihy (e:=.o1 (.snd x.ty y.ty) e) he (fun k B hB=>hh k B (Y0 _ hB)) a ha
def Z9O (v n:Nat) (p:CS→Prop) (B:Blk):Prop :=
 ∃i,v≤i∧i<v+n∧((∃dp t,∃e:E (.sl false t),B=.arr dp t e∧e.pj i∧(p (.arr dp t)∨p (.eat dp t)∨∃o,p (.obj o)∧∀b,o.flat b=true→(dp||!t.hasSl)=true))∨(∃t,B=.box (Zf t (.var t i))∧p (.box t))∨(∃f,B=.box [.no]∧p (.self f))∨∃o,B=.box (Zi (3000+16 * i) o 0 (.var o.ty i))∧p (.obj o))
theorem Z9O.mono {v n v' n':Nat} {p p':CS→Prop} {B:Blk} (h:Z9O v n p B) (h1:v'≤v) (h2:v+n≤v'+n') (hp:∀c,p c→p' c):Z9O v' n' p' B:=by
 obtain ⟨i,a1,a2,a3⟩:=h
 refine ⟨i,by omega,by omega,?_⟩
 rcases a3 with ⟨dp,t,e,b1,b0,b2⟩ | ⟨t,b1,b2⟩ | ⟨f,b1,b2⟩ | ⟨o,b1,b2⟩
 ·exact .inl ⟨dp,t,e,b1,b0,b2.imp (hp _) (Or.imp (hp _) fun ⟨o,c1,c2⟩=>⟨o,hp _ c1,c2⟩)⟩
 ·exact .inr (.inl ⟨t,b1,hp _ b2⟩)
 ·exact .inr (.inr (.inl ⟨f,b1,hp _ b2⟩))
 ·exact .inr (.inr (.inr ⟨o,b1,hp _ b2⟩))
theorem Z9P:∀{l:List CS} {v p:Nat},∀k B,(k,B)∈csB v p l→Z9O v l.length (·∈l) B
 | [],_,_,k,B,hB=>by cases hB
 | c::l,v,p,k,B,hB=>by
  rcases Y6.1 hB with hB | hB
  ·have hl:v<v+(c::l).length:=by simp
   cases c with
   | p t=>cases hB
   | arr dp t =>
    simp only [CS.bl,Y1,Y9] at hB
    obtain ⟨rfl,rfl⟩:=hB
    exact ⟨v,Yh _,hl,.inl ⟨dp,t,_,rfl,rfl,.inl (Yd ..)⟩⟩
   | eat dp t =>
    simp only [CS.bl,Y1,Y9] at hB
    obtain ⟨rfl,rfl⟩:=hB
    exact ⟨v,Yh _,hl,.inl ⟨dp,t,_,rfl,rfl,.inr (.inl (Yd ..))⟩⟩
   | box t =>
    simp only [CS.bl,Y1,Y9] at hB
    obtain ⟨rfl,rfl⟩:=hB
    exact ⟨v,Yh _,hl,.inr (.inl ⟨t,rfl,Yd ..⟩)⟩
   | self f =>
    simp only [CS.bl,Y1,Y9] at hB
    obtain ⟨rfl,rfl⟩:=hB
    exact ⟨v,Yh _,hl,.inr (.inr (.inl ⟨f,rfl,Yd ..⟩))⟩
   | obj o =>
    simp only [CS.bl] at hB
    rcases Yl.1 hB with hB | hB
    ·simp only [Y9] at hB
     obtain ⟨rfl,rfl⟩:=hB
     exact ⟨v,Yh _,hl,.inr (.inr (.inr ⟨o,rfl,Yd ..⟩))⟩
    ·obtain ⟨-,dp,t,e,h1,h2,h3⟩:=Z9M (i:=v) (by rfl) hB
     exact ⟨v,Yh _,hl,.inl ⟨dp,t,e,h1,h2,.inr (.inr ⟨o,Yd ..,h3⟩)⟩⟩
  ·exact (Z9P (l:=l) k B hB).mono (by omega) (by simp only [YA];omega) fun c hc=>Yc _ hc
theorem Z9Q {n i:Nat}:∀{o:OC} {j:Nat} {e:E o.ty} {q:Nat},Atom.ref q∈Zi n o j e→∃C,(q,C)∈Zj n o j e:=by
 intro o
 induction o with
 | p t=>intro j e q h;cases Y1.1 h
 | arr dp t=>intro j e q h;cases Y1.1 h;exact ⟨_,Y1.2 rfl⟩
 | pr a b iha ihb =>
  intro j e q h
  simp only [Zi] at h
  simp only [Zj]
  rcases Y6.1 h with h | h
  ·obtain ⟨C,hC⟩:=iha h;exact ⟨C,Y3 _ hC⟩
  ·obtain ⟨C,hC⟩:=ihb h;exact ⟨C,Y0 _ hC⟩
theorem Z9R:∀{l:List CS} {v p k q:Nat} {m:List Atom},(k,.box m)∈csB v p l→.ref q∈m→∃C,(q,C)∈csB v p l
 | [],_,_,_,_,_,hB,_=>by cases hB
 | c::l,v,p,k,q,m,hB,hq=>by
  rcases Y6.1 hB with hB | hB
  ·cases c with
   | p t=>cases hB
   | arr dp t=>simp [CS.bl] at hB
   | eat dp t=>simp [CS.bl] at hB
   | box t =>
    simp only [CS.bl,Y1,Y9,Blk.box.injEq] at hB
    have h1:∀{t:Ty} {e:E t},∀a∈Zf t e,a≠.ref q:=by
     intro t
     induction t with
     | pr x y ihx ihy=>intro e a ha;simp only [Zf] at ha;rcases Y6.1 ha with ha | ha;exact ihx a ha;exact ihy a ha
     | _=>intro e a ha;rw [Y1.1 ha];simp
    exact (h1 _ (by rw [←hB.2];exact hq) rfl).elim
   | self f =>
    simp only [CS.bl,Y1,Y9,Blk.box.injEq] at hB
    rw [hB.2] at hq
    cases Y1.1 hq
   | obj o =>
    simp only [CS.bl] at hB
    rcases Yl.1 hB with hB | hB
    ·simp only [Y9,Blk.box.injEq] at hB
     obtain ⟨rfl,rfl⟩:=hB
     obtain ⟨C,hC⟩:=Z9Q (i:=v) hq
     exact ⟨C,Y3 _ (Yc _ hC)⟩
    ·obtain ⟨-,dp,t,e,h1,-⟩:=Z9M (i:=v) (by rfl) hB
     cases h1
  ·obtain ⟨C,hC⟩:=Z9R hB hq
   exact ⟨C,Y0 _ hC⟩
theorem Z9S:∀{l:List Sh} {v p k q:Nat} {m:List Atom},(k,.box m)∈shB v p l→.ref q∈m→∃C,(q,C)∈shB v p l
 | [],_,_,_,_,_,hB,_=>by cases hB
 | c::l,v,p,k,q,m,hB,hq=>by
  rcases Y6.1 hB with hB | hB
  ·obtain ⟨C,hC⟩:=Z9R hB hq
   exact ⟨C,Y3 _ hC⟩
  ·obtain ⟨C,hC⟩:=Z9S hB hq
   exact ⟨C,Y0 _ hC⟩
theorem Z9T:∀{l:List Sh} {v p:Nat},(∀i,v≤i→i<v+shN l→N i)→(∀k B,(k,B)∈shB v p l→(h' k).isSome=true)→∀x∈Z1O v p l,x.all (Atom.ok N h')
 | [],_,_,_,_,x,hx=>by cases hx
 | c::l,v,p,hN,hh,x,hx=>by
  simp only [shN] at hN
  rcases Yl.1 hx with rfl | hx
  ·have h1:∀a∈csA v p c.cs,a.ok N h':=Z9L (fun i h1 h2=>hN i h1 (by omega)) (fun k B hB=>hh k B (Y3 _ hB))
   cases c with
   | p t=>exact h1 _ (Y1.2 rfl)
   | agg m=>exact h1
   | arr dp t=>exact h1 _ (Y1.2 rfl)
   | box t=>exact h1 _ (Y1.2 rfl)
   | eat dp t=>exact h1 _ (Y1.2 rfl)
   | self f=>exact h1 _ (Y1.2 rfl)
   | obj o=>exact h1 _ (Y1.2 rfl)
  ·exact Z9T (fun i h1 h2=>hN i (by omega) (by omega)) (fun k B hB=>hh k B (Y0 _ hB)) x hx
theorem Z9U:∀{l:List Sh} {v p:Nat},∀k B,(k,B)∈shB v p l→Z9O v (shN l) (fun c=>∃h∈l,c∈h.cs) B
 | [],_,_,k,B,hB=>by cases hB
 | c::l,v,p,k,B,hB=>by
  simp only [shN]
  rcases Y6.1 hB with hB | hB
  ·exact (Z9P (l:=c.cs) k B hB).mono (Yh _) (by omega) fun c' hc=>⟨c,Yd ..,hc⟩
  ·exact (Z9U (l:=l) k B hB).mono (by omega) (by omega) fun c' ⟨h,h3,h4⟩=>⟨h,Yc _ h3,h4⟩
theorem Z9V {l:List Sh} {v p:Nat} (hN:∀i,v≤i→i<v+shN l→N i) (hh:∀k B,(k,B)∈shB v p l→(h' k).isSome=true) (k:Nat) (B:Blk) (hB:(k,B)∈shB v p l):B.ok N h':=by
 obtain ⟨i,h1,h2,h3⟩:=Z9U k B hB
 rcases h3 with ⟨dp,t,e,rfl,h4,-⟩ | ⟨t,rfl,-⟩ | ⟨f,rfl,-⟩ | ⟨o,rfl,-⟩
 ·exact h4.vs (hN i h1 h2)
 ·exact Z4k (e:=.var t i) (hN i h1 h2)
 ·exact fun a ha=>by rw [Y1.1 ha];exact trivial
 ·intro a ha
  have h5:∀{o:OC} {j:Nat} {e:E o.ty},e.pj i→∀a∈Zi (3000+16 * i) o j e,(∀q,a≠.ref q)→a.ok N h':=by
   intro o
   induction o with
   | p t=>intro j e he a ha _;rw [Y1.1 ha];exact he.vs (hN i h1 h2)
   | arr dp t=>intro j e he a ha h;exact (h _ (Y1.1 ha)).elim
   | pr x y ihx ihy =>
    intro j e he a ha h
    simp only [Zi] at ha
    rcases Y6.1 ha with ha | ha
    ·exact ihx (e:=.o1 (.fst x.ty y.ty) e) he a ha h
    ·exact ihy (e:=.o1 (.snd x.ty y.ty) e) he a ha h
  by_cases hr:∃q,a=.ref q
  ·obtain ⟨q,rfl⟩:=hr
   obtain ⟨C,hC⟩:=Z9S hB ha
   exact hh _ _ hC
  ·exact h5 (by rfl) a ha fun q hq=>hr ⟨q,hq⟩
theorem Z9W:∀{l:List CS} {v p:Nat} {k:Nat} {B:Blk},(k,B)∈csB v p l→(p≤k∧k<p+Zk l)∨2000≤k
 | [],_,_,_,_,h=>by cases h
 | c::l,v,p,k,B,h=>by
  simp only [Zk]
  rcases Y6.1 h with h | h
  ·cases c with
   | p t=>cases h
   | obj o =>
    simp only [CS.bl] at h
    simp only [CS.pins]
    rcases Yl.1 h with h | h
    ·simp only [Y9] at h;omega
    ·obtain ⟨h1,-⟩:=Z9M (i:=v) (by rfl) h;omega
   | _ =>
    simp only [CS.bl,Y1,Y9] at h
    simp only [CS.pins];omega
  ·have:=Z9W h;omega
theorem Z9X:∀{l:List Sh} {v p:Nat} {k:Nat} {B:Blk},(k,B)∈shB v p l→(p≤k∧k<p+Zl l)∨2000≤k
 | [],_,_,_,_,h=>by cases h
 | c::l,v,p,k,B,h=>by
  simp only [Zl]
  rcases Y6.1 h with h | h
  ·have:=Z9W h;omega
  ·have:=Z9X h;omega
theorem Z9Y:∀{l:List CS} {v p:Nat} {k:Nat} {m:List Atom},(k,.box m)∈csB v p l→p≤k∧k<p+Zk l
 | [],_,_,_,_,h=>by cases h
 | c::l,v,p,k,B,h=>by
  simp only [Zk]
  rcases Y6.1 h with h | h
  ·cases c with
   | p t=>cases h
   | box t =>
    simp only [CS.bl,Y1,Y9] at h
    simp only [CS.pins];omega
   | self f =>
    simp only [CS.bl,Y1,Y9] at h
    simp only [CS.pins];omega
   | obj o =>
    simp only [CS.bl] at h
    simp only [CS.pins]
    rcases Yl.1 h with h | h
    ·simp only [Y9] at h;omega
    ·obtain ⟨-,dp,t,e,h1,-⟩:=Z9M (i:=v) (by rfl) h
     cases h1
   | _=>simp [CS.bl] at h
  ·have:=Z9Y h;omega
theorem Z9Z:∀{l:List Sh} {v p:Nat} {k:Nat} {m:List Atom},(k,.box m)∈shB v p l→p≤k∧k<p+Zl l
 | [],_,_,_,_,h=>by cases h
 | c::l,v,p,k,B,h=>by
  simp only [Zl]
  rcases Y6.1 h with h | h
  ·have:=Z9Y h;omega
  ·have:=Z9Z h;omega
theorem Z9_:∀{l:List CS} {v p:Nat} {c:Nat×Nat},c∈Z1S p l→c.1<p+Zk l∧∃m,(c.1,.box m)∈csB v p l
 | [],_,_,_,h=>by cases h
 | c::l,v,p,q,h=>by
  simp only [Zk]
  rcases Y6.1 h with h | h
  ·cases c with
   | box t =>
    simp only [CS.kp,Yo] at h
    obtain ⟨j,-,rfl⟩:=h
    exact ⟨by simp only [CS.pins];omega,_,Y3 _ (Y1.2 rfl)⟩
   | self f =>
    simp only [CS.kp,Y1] at h
    subst h
    exact ⟨by simp only [CS.pins];omega,_,Y3 _ (Y1.2 rfl)⟩
   | obj o =>
    simp only [CS.kp,Yo] at h
    obtain ⟨j,-,rfl⟩:=h
    exact ⟨by simp only [CS.pins];omega,_,Y3 _ (Yd ..)⟩
   | _=>cases h
  ·obtain ⟨h1,m,h2⟩:=Z9_ (v:=v+1) h
   exact ⟨by omega,m,Y0 _ h2⟩
theorem Za0:∀{l:List Sh} {v p:Nat} {c:Nat×Nat},c∈Zn p l→c.1<p+Zl l∧∃m,(c.1,.box m)∈shB v p l
 | [],_,_,_,h=>by cases h
 | c::l,v,p,q,h=>by
  simp only [Zl]
  rcases Y6.1 h with h | h
  ·obtain ⟨h1,m,h2⟩:=Z9_ (v:=v) h
   exact ⟨by omega,m,Y3 _ h2⟩
  ·obtain ⟨h1,m,h2⟩:=Za0 (v:=v+c.cs.length) h
   exact ⟨by omega,m,Y0 _ h2⟩
theorem Za1:∀{l m:List Sh} {v p:Nat} {k:Nat} {B:Blk},(k,B)∈shB v p (l++m)→(k,B)∈shB v p l∨(k,B)∈shB (v+shN l) (p+Zl l) m
 | [],m,v,p,k,B,h=>.inr h
 | c::l,m,v,p,k,B,h=>by
  rcases Y6.1 h with h | h
  ·exact .inl (Y3 _ h)
  ·rcases Za1 h with h | h
   ·exact .inl (Y0 _ h)
   ·right
    simp only [shN,Zl]
    rw [←Nat.add_assoc,←Nat.add_assoc]
    exact h
theorem Za2:∀{l m:List Sh} {v p:Nat} {k:Nat} {B:Blk},((k,B)∈shB v p l∨(k,B)∈shB (v+shN l) (p+Zl l) m)→(k,B)∈shB v p (l++m)
 | [],m,v,p,k,B,h=>h.elim (fun h=>by cases h) id
 | c::l,m,v,p,k,B,h=>by
  rcases h with h | h
  ·rcases Y6.1 h with h | h
   ·exact Y3 _ h
   ·exact Y0 _ (Za2 (.inl h))
  ·simp only [shN,Zl] at h
   rw [←Nat.add_assoc,←Nat.add_assoc] at h
   exact Y0 _ (Za2 (.inr h))
theorem Za3:∀{l m:List Sh},Zl (l++m)=Zl l+Zl m
 | [],m=>by simp [Zl]
 | c::l,m=>by simp only [List.cons_append,Zl,Za3];omega
theorem Za4:∀{l:List CS},Zl (Zm l)=Zk l
 | []=>rfl
 | .p t::l=>by simp only [Zm,Zk,CS.pins,Za4 (l:=l)];omega
 | .eat dp t::l=>by simp only [Zm,Zk,CS.pins,Za4 (l:=l)];omega
 | .arr dp t::l=>by simp only [Zm,Zl,Zk,CS.pins,Sh.cs,Za4 (l:=l)]
 | .box t::l=>by simp only [Zm,Zl,Zk,CS.pins,Sh.cs,Za4 (l:=l)]
 | .self f::l=>by simp only [Zm,Zl,Zk,CS.pins,Sh.cs,Za4 (l:=l)]
 | .obj o::l=>by simp only [Zm,Zl,Zk,CS.pins,Sh.cs,Za4 (l:=l)]
theorem Za5:∀{l:List Sh},Zl (Z1P l)=Zl l
 | []=>rfl
 | c::l=>by simp only [Z1P,Zl,Za3,Za4,Za5 (l:=l)]
theorem Za6:∀{l:List CS} {v p:Nat} {k:Nat} {m:List Atom},(k,.box m)∈shB v p (Zm l)→(∃t i,m=Zf t (.var t i)∧v≤i∧i<v+shN (Zm l)∧(∀j∈Z1R t,(k,j)∈Z1S p l)∧.box t∈l)∨(m=[.no]∧(k,0)∈Z1S p l)∨∃o i,m=Zi (3000+16 * i) o 0 (.var o.ty i)∧v≤i∧i<v+shN (Zm l)∧(∀j∈Z1N o,(k,j)∈Z1S p l)∧.obj o∈l
 | [],_,_,_,_,h=>by cases h
 | .p t::l,v,p,k,m,h=>by
  rcases Za6 (l:=l) h with ⟨t,i,h1,h2,h3,h4,h5⟩ | ⟨h1,h2⟩ | ⟨o,i,h1,h2,h3,h4,h5⟩
  ·exact .inl ⟨t,i,h1,h2,h3,fun j hj=>Y0 _ (h4 j hj),Yc _ h5⟩
  ·exact .inr (.inl ⟨h1,Y0 _ h2⟩)
  ·exact .inr (.inr ⟨o,i,h1,h2,h3,fun j hj=>Y0 _ (h4 j hj),Yc _ h5⟩)
 | .eat dp t::l,v,p,k,m,h=>by
  rcases Za6 (l:=l) h with ⟨t,i,h1,h2,h3,h4,h5⟩ | ⟨h1,h2⟩ | ⟨o,i,h1,h2,h3,h4,h5⟩
  ·exact .inl ⟨t,i,h1,h2,h3,fun j hj=>Y0 _ (h4 j hj),Yc _ h5⟩
  ·exact .inr (.inl ⟨h1,Y0 _ h2⟩)
  ·exact .inr (.inr ⟨o,i,h1,h2,h3,fun j hj=>Y0 _ (h4 j hj),Yc _ h5⟩)
 | .arr dp t::l,v,p,k,m,h=>by
  rcases Y6.1 h with h | h
  ·simp [csB,Sh.cs,CS.bl] at h
  ·rcases Za6 (l:=l) h with ⟨t,i,h1,h2,h3,h4,h5⟩ | ⟨h1,h2⟩ | ⟨o,i,h1,h2,h3,h4,h5⟩
   ·simp only [Zm,shN,Sh.cs,Yj] at h2 h3 ⊢
    exact .inl ⟨t,i,h1,by omega,by omega,fun j hj=>Y0 _ (h4 j hj),Yc _ h5⟩
   ·exact .inr (.inl ⟨h1,Y0 _ h2⟩)
   ·simp only [Zm,shN,Sh.cs,Yj] at h2 h3 ⊢
    exact .inr (.inr ⟨o,i,h1,by omega,by omega,fun j hj=>Y0 _ (h4 j hj),Yc _ h5⟩)
 | .box t::l,v,p,k,m,h=>by
  rcases Y6.1 h with h | h
  ·simp only [csB,Sh.cs,CS.bl,Yx,Y1,Y9,Blk.box.injEq] at h
   obtain ⟨rfl,rfl⟩:=h
   simp only [Zm,shN,Sh.cs,Yj]
   exact .inl ⟨t,v,rfl,Yh _,by omega,fun j hj=>Y3 _ (Yo.2 ⟨j,hj,rfl⟩),Yd ..⟩
  ·rcases Za6 (l:=l) h with ⟨t,i,h1,h2,h3,h4,h5⟩ | ⟨h1,h2⟩ | ⟨o,i,h1,h2,h3,h4,h5⟩
   ·simp only [Zm,shN,Sh.cs,Yj] at h2 h3 ⊢
    exact .inl ⟨t,i,h1,by omega,by omega,fun j hj=>Y0 _ (h4 j hj),Yc _ h5⟩
   ·exact .inr (.inl ⟨h1,Y0 _ h2⟩)
   ·simp only [Zm,shN,Sh.cs,Yj] at h2 h3 ⊢
    exact .inr (.inr ⟨o,i,h1,by omega,by omega,fun j hj=>Y0 _ (h4 j hj),Yc _ h5⟩)
 | .self f::l,v,p,k,m,h=>by
  rcases Y6.1 h with h | h
  ·simp only [csB,Sh.cs,CS.bl,Yx,Y1,Y9,Blk.box.injEq] at h
   obtain ⟨rfl,rfl⟩:=h
   exact .inr (.inl ⟨rfl,Y3 _ (Y1.2 rfl)⟩)
  ·rcases Za6 (l:=l) h with ⟨t,i,h1,h2,h3,h4,h5⟩ | ⟨h1,h2⟩ | ⟨o,i,h1,h2,h3,h4,h5⟩
   ·simp only [Zm,shN,Sh.cs,Yj] at h2 h3 ⊢
    exact .inl ⟨t,i,h1,by omega,by omega,fun j hj=>Y0 _ (h4 j hj),Yc _ h5⟩
   ·exact .inr (.inl ⟨h1,Y0 _ h2⟩)
   ·simp only [Zm,shN,Sh.cs,Yj] at h2 h3 ⊢
    exact .inr (.inr ⟨o,i,h1,by omega,by omega,fun j hj=>Y0 _ (h4 j hj),Yc _ h5⟩)
 | .obj ob::l,v,p,k,m,h=>by
  rcases Y6.1 h with h | h
  ·simp only [csB,Sh.cs,CS.bl,Yx] at h
   rcases Yl.1 h with h | h
   ·simp only [Y9,Blk.box.injEq] at h
    obtain ⟨rfl,rfl⟩:=h
    simp only [Zm,shN,Sh.cs,Yj]
    exact .inr (.inr ⟨ob,v,rfl,Yh _,by omega,fun j hj=>Y3 _ (Yo.2 ⟨j,hj,rfl⟩),Yd ..⟩)
   ·obtain ⟨-,dp,t,e,h1,-⟩:=Z9M (i:=v) (by rfl) h
    cases h1
  ·rcases Za6 (l:=l) h with ⟨t,i,h1,h2,h3,h4,h5⟩ | ⟨h1,h2⟩ | ⟨o,i,h1,h2,h3,h4,h5⟩
   ·simp only [Zm,shN,Sh.cs,Yj] at h2 h3 ⊢
    exact .inl ⟨t,i,h1,by omega,by omega,fun j hj=>Y0 _ (h4 j hj),Yc _ h5⟩
   ·exact .inr (.inl ⟨h1,Y0 _ h2⟩)
   ·simp only [Zm,shN,Sh.cs,Yj] at h2 h3 ⊢
    exact .inr (.inr ⟨o,i,h1,by omega,by omega,fun j hj=>Y0 _ (h4 j hj),Yc _ h5⟩)
theorem Za7:∀{l m:List Sh},shN (l++m)=shN l+shN m
 | [],m=>by simp [shN]
 | c::l,m=>by simp only [List.cons_append,shN,Za7];omega
theorem Za8:∀{l:List CS} {c:CS},((∃t,c=.box t)∨∃o,c=.obj o)→c∈l→∃x∈Zm l,c∈x.cs
 | [],c,_,h=>by cases h
 | a::l,c,hc,h=>by
  rcases Yl.1 h with rfl | h
  ·rcases hc with ⟨t,rfl⟩ | ⟨o,rfl⟩
   ·exact ⟨.box t,Yd ..,Y1.2 rfl⟩
   ·exact ⟨.obj o,Yd ..,Y1.2 rfl⟩
  ·obtain ⟨x,h1,h2⟩:=Za8 hc h
   refine ⟨x,?_,h2⟩
   cases a<;>simp only [Zm]<;>first | exact h1 | exact Yc _ h1
theorem Za9:∀{l:List Sh} {v p:Nat} {k:Nat} {m:List Atom},(k,.box m)∈shB v p (Z1P l)→(∃t i,m=Zf t (.var t i)∧v≤i∧i<v+shN (Z1P l)∧(∀j∈Z1R t,(k,j)∈Zn p l)∧∃x∈Z1P l,.box t∈x.cs)∨(m=[.no]∧(k,0)∈Zn p l) ∨
  ∃o i,m=Zi (3000+16 * i) o 0 (.var o.ty i)∧v≤i∧i<v+shN (Z1P l)∧(∀j∈Z1N o,(k,j)∈Zn p l)∧∃x∈Z1P l,.obj o∈x.cs
 | [],_,_,_,_,h=>by cases h
 | c::l,v,p,k,m,h=>by
  simp only [Z1P,Za7]
  rcases Za1 h with h | h
  ·rcases Za6 h with ⟨t,i,h1,h2,h3,h4,h5⟩ | ⟨h1,h2⟩ | ⟨o,i,h1,h2,h3,h4,h5⟩
   ·obtain ⟨x,h6,h7⟩:=Za8 (.inl ⟨t,rfl⟩) h5
    exact .inl ⟨t,i,h1,h2,by omega,fun j hj=>Y3 _ (h4 j hj),x,Y3 _ h6,h7⟩
   ·exact .inr (.inl ⟨h1,Y3 _ h2⟩)
   ·obtain ⟨x,h6,h7⟩:=Za8 (.inr ⟨o,rfl⟩) h5
    exact .inr (.inr ⟨o,i,h1,h2,by omega,fun j hj=>Y3 _ (h4 j hj),x,Y3 _ h6,h7⟩)
  ·rw [Za4] at h
   rcases Za9 h with ⟨t,i,h1,h2,h3,h4,x,h5,h6⟩ | ⟨h1,h2⟩ | ⟨o,i,h1,h2,h3,h4,x,h5,h6⟩
   ·exact .inl ⟨t,i,h1,by omega,by omega,fun j hj=>Y0 _ (h4 j hj),x,Y0 _ h5,h6⟩
   ·exact .inr (.inl ⟨h1,Y0 _ h2⟩)
   ·exact .inr (.inr ⟨o,i,h1,by omega,by omega,fun j hj=>Y0 _ (h4 j hj),x,Y0 _ h5,h6⟩)
theorem Zaa:∀{l:List CS} {v p:Nat} {c:Nat×Nat},c∈Z1S p l→∃m,(c.1,.box m)∈shB v p (Zm l)
 | [],_,_,_,h=>by cases h
 | .p t::l,v,p,c,h=>Zaa (l:=l) (by simpa [Z1S,CS.kp,CS.pins] using h)
 | .eat dp t::l,v,p,c,h=>Zaa (l:=l) (by simpa [Z1S,CS.kp,CS.pins] using h)
 | .arr dp t::l,v,p,c,h=>by
  have h:c∈Z1S (p+1) l:=by simpa [Z1S,CS.kp,CS.pins] using h
  obtain ⟨m,hm⟩:=Zaa (v:=v+1) h
  exact ⟨m,Y0 _ hm⟩
 | .box t::l,v,p,c,h=>by
  rcases Y6.1 h with h | h
  ·simp only [CS.kp,Yo] at h
   obtain ⟨j,-,rfl⟩:=h
   exact ⟨_,Y3 _ (Y1.2 rfl)⟩
  ·obtain ⟨m,hm⟩:=Zaa (v:=v+1) h
   exact ⟨m,Y0 _ hm⟩
 | .self f::l,v,p,c,h=>by
  rcases Y6.1 h with h | h
  ·simp only [CS.kp,Y1] at h
   subst h
   exact ⟨_,Y3 _ (Y1.2 rfl)⟩
  ·obtain ⟨m,hm⟩:=Zaa (v:=v+1) h
   exact ⟨m,Y0 _ hm⟩
 | .obj o::l,v,p,c,h=>by
  rcases Y6.1 h with h | h
  ·simp only [CS.kp,Yo] at h
   obtain ⟨j,-,rfl⟩:=h
   exact ⟨_,Y3 _ (Y3 _ (Yd ..))⟩
  ·obtain ⟨m,hm⟩:=Zaa (v:=v+1) h
   exact ⟨m,Y0 _ hm⟩
theorem Zab:∀{l:List Sh} {v p:Nat} {c:Nat×Nat},c∈Zn p l→∃m,(c.1,.box m)∈shB v p (Z1P l)
 | [],_,_,_,h=>by cases h
 | x::l,v,p,c,h=>by
  rcases Y6.1 h with h | h
  ·obtain ⟨m,hm⟩:=Zaa (v:=v) h
   exact ⟨m,Za2 (.inl hm)⟩
  ·obtain ⟨m,hm⟩:=Zab (v:=v+shN (Zm x.cs)) h
   exact ⟨m,Za2 (.inr (by rw [Za4];exact hm))⟩
theorem Zac:∀{l:List (Nat×Blk)} {k:Nat} {B:Blk},look l k=some B→(k,B)∈l
 | [],k,B,h=>by simp [look] at h
 | (i,b)::l,k,B,h=>by
  unfold look at h
  cases hi:(i==k)
  ·rw [hi] at h;exact Yc _ (Zac h)
  ·rw [hi] at h
   simp only [cond_true,Y4] at h
   simp only [beq_iff_eq] at hi
   subst hi;subst h
   exact Yd ..
theorem Zad:∀{l:List (Nat×Blk)} {k:Nat} {B:Blk},(k,B)∈l→(look l k).isSome=true
 | (i,b)::l,k,B,h=>by
  unfold look
  cases hi:(i==k)
  ·rcases Yl.1 h with h | h
   ·cases h;simp at hi
   ·simpa using Zad h
  ·rfl
theorem Zae:∀{l:List (Nat×Option Nat)} {q:Nat} {t:Option Nat},nodupB (l.map (·.1))=true→(q,t)∈l→Zp l q=t
 | (i,x)::l,q,t,hn,h=>by
  simp only [List.map_cons,nodupB,Y5,Yr,YN,YH] at hn
  unfold Zp
  rcases Yl.1 h with h | h
  ·cases h;simp
  ·have:i≠q:=by
    rintro rfl
    exact hn.1 (Yo.2 ⟨_,h,rfl⟩)
   rw [if_neg this]
   exact Zae hn.2 h
theorem Zaf:∀{l:List (Nat×Option Nat)} {q i:Nat},Zp l q=some i→(q,some i)∈l
 | [],q,i,h=>by simp [Zp] at h
 | (a,x)::l,q,i,h=>by
  unfold Zp at h
  split at h
  ·rename_i ha;subst ha;subst h;exact Yd ..
  ·exact Yc _ (Zaf h)
end
end Go.Sm
