/- A machine over symbols for loaded functions, and that it tells the truth; no condition. -/
import Derived.Test.YtdgpohclhppodaaGreatSmLib2
namespace Go.Sm
set_option linter.unusedVariables false
set_option linter.unusedSimpArgs false
def InsPost (w:World) (o:Option Nat) (n:Nat) (ys:List Value) (e:Ending) (w':World):Prop :=
 ∃v' o',e=.returned v'∧OwnV w' v' o' 1 (n+1) ys∧(o'=o∨o'=some w.heap.size)∧(o'=some w.heap.size→w.heap.size<w'.heap.size) ∧
  (∀b,b<w.heap.size→some b≠o→w'.heap[b]?=w.heap[b]?)∧w.heap.size≤w'.heap.size∧w'.os=w.os∧w'.tape=w.tape∧w'.output=w.output
def InsRun (P:Program) (f:FuncId):Prop:=Enters P f ∧
 ∀(w:World) (v:Value) (o:Option Nat) (n k vb voff vc:Nat) (xs:List Value) (cu2:Array Value) (ety2:TypeId) (u:Value),OwnV w v o 1 n xs→k≤n→(n:Int)≤lim→o≠some vb →
  w.heap[vb]?=some (.cells cu2 ety2 (0,0))→cu2[voff]?=some u→(∀x∈xs,x.oneCell'=true)→u.oneCell'=true →
  Calls P f #[v,.int .i64 k,.slice (some ⟨vb,voff,none⟩) 1 vc] w (InsPost w o n (xs.take k++[u]++xs.drop k))
theorem insAt_ok {P:Program} {f:FuncId} (hrun:∀(w:World) (v:Value) (o:Option Nat) (n k vb voff vc:Nat) (xs:List Value) (cu2:Array Value) (ety2:TypeId) (u:Value),OwnV w v o 1 n xs→k≤n→(n:Int)≤lim→o≠some vb →
  w.heap[vb]?=some (.cells cu2 ety2 (0,0))→cu2[voff]?=some u→(∀x∈xs,x.oneCell'=true)→u.oneCell'=true →
  Calls P f #[v,.int .i64 k,.slice (some ⟨vb,voff,none⟩) 1 vc] w (InsPost w o n (xs.take k++[u]++xs.drop k)))
  {bd:Bd} {N:Nat→Prop} {s s':St} {r:Env} {g:Nat→G} {a:Act} {st:List (Array Value)} {w:World} (h:R bd N s r g a.tmps st w) {dp:Bool} {id:Nat} {ty:Ty} {i j:Nat} {k:E (.int .i64)} {x n y:Operand} {gs:List (E .bool)} {sv:SV}
  (hs:insAt dp s id ty i j k=some (gs,sv,s')) (hg:∀c∈gs,den c r=true) (hxv:a.eval x=(g i).val) (hyv:a.eval y=(g j).val) (hnv:a.eval n=.int .i64 (den k r)) (hnn:k.vs N) :
  Calls P f #[a.eval x,a.eval n,a.eval y] w fun e w'=>∃v g',e=.returned v∧R bd N s' r g' a.tmps st w'∧SRep w' (Mt bd.Z s'.heap g') g' r sv v∧sv.all (Atom.ok N s'.heap):=by
 unfold insAt at hs
 split at hs
 case h_2=>cases hs
 rename_i d1 ty1 e1 d2 ty2 e2 hi hj
 split at hs
 case isFalse=>cases hs
 rename_i hd
 obtain ⟨rfl,rfl⟩:=hd
 split at hs
 case isFalse=>cases hs
 rename_i h1
 subst h1
 split at hs
 case isFalse=>cases hs
 rename_i h2
 subst h2
 split at hs
 case isFalse=>cases hs
 rename_i hc
 obtain ⟨hij,hsz,hfree⟩:=hc
 simp only [Option.some.injEq,Prod.mk.injEq] at hs
 obtain ⟨rfl,rfl,rfl⟩:=hs
 obtain ⟨hid,hnp⟩:=free_eq hfree
 have g0:(0:Int)≤den k r:=gLe_iff.1 (hg (gLe (eI .i64 0) k) (by simp))
 have g1:(den k r:Int)≤((den e1 r:List ty2.D).length:Int):=gLe_iff.1 (hg (gLe k (lenI e1)) (by simp))
 have g2:((den e1 r:List ty2.D).length:Int)≤lim:=gLe_iff.1 (hg (gLe (lenI e1) (eI .i64 lim)) (by simp))
 have g3:(den e2 r:List ty2.D).length=1:=by
  have:=hg (.o2 (.cm .eql .i64 .i64) (lenI e2) (eI .i64 1)) (by simp)
  simp only [den,O2.d,O1.d,cmI,lenI,eI,beq_iff_eq] at this
  exact Int.ofNat_inj.1 this
 obtain ⟨o1,xs,Fs,b1,b2,b3⟩:=OwnA_iff.1 (h.heap i _ hi)
 obtain ⟨o2,us,Gs,c1,c2,c3⟩:=OwnA_iff.1 (h.heap j _ hj)
 rw [hsz] at b1 c1
 obtain ⟨kk,hkk⟩:∃kk:Nat,(den k r:Int)=kk:=⟨Int.toNat (den k r),(Int.toNat_of_nonneg g0).symm⟩
 have hkn:kk≤(den e1 r:List ty2.D).length:=by rw [hkk] at g1;exact Int.ofNat_le.1 g1
 have hc1:=c1
 rw [g3] at hc1
 obtain ⟨hul,hrest⟩:=hc1
 have hul:us.length=1:=by simpa using hul
 obtain ⟨u,rfl⟩:=List.length_eq_one_iff.1 hul
 rcases hrest with ⟨_,_,h0,_⟩ | ⟨vb,voff,vc,cu2,ety2,ho2,hval,hcells,_,_,_,htk⟩
 ·cases h0
 have hu:cu2[voff]?=some u:=by
  have h3:((cu2.toList.drop voff).take (1 * 1))[0]?=some u:=by rw [htk];rfl
  rw [List.getElem?_take_of_lt (by omega),List.getElem?_drop] at h3
  simpa using h3
 have hne:o1≠some vb:=by
  intro h3
  have m1:vb∈(g i).foot:=by rw [b2,h3];simp
  have m2:vb∈(g j).foot:=by rw [c2,ho2];simp
  exact hij (h.inj i j _ _ vb hi hj m1 m2)
 have hcalls:=hrun w (a.eval x) o1 _ kk vb voff vc xs cu2 ety2 u (by rw [hxv];exact b1) hkn g2 hne hcells hu b3.ones (c3.ones u (by simp))
 rw [hnv,hyv,hval,hkk]
 refine hcalls.mono ?_
 rintro e w' ⟨v',o',rfl,hown',ho',hfresh,hsame,hsize,hos,htp,hout⟩
 have hden:(den (.o2 (.app ty2) (.o2 (.app ty2) (.o2 (.take ty2 .i64) e1 k) e2) (.o2 (.drop ty2 .i64) e1 k)) r:List ty2.D)=(den e1 r:List ty2.D).take kk++(den e2 r:List ty2.D)++(den e1 r:List ty2.D).drop kk:=by
  simp only [den,O2.d,hkk,Int.toNat_natCast]
 have hrws:Rws w (Mt bd.Z s.heap g) d2 ty2 noHo (Fs.take kk++Gs++Fs.drop kk) ((den e1 r:List ty2.D).take kk++(den e2 r:List ty2.D)++(den e1 r:List ty2.D).drop kk) (xs.take kk++[u]++xs.drop kk):=by
  have t1:=b3.take kk
  have t2:=b3.drop kk
  rw [hsz,Nat.mul_one] at t1 t2
  exact (t1.append c3).append t2
 have hlen:((den e1 r:List ty2.D).take kk++(den e2 r:List ty2.D)++(den e1 r:List ty2.D).drop kk).length=(den e1 r:List ty2.D).length+1:=by
  simp only [List.length_append,List.length_take,List.length_drop,g3]
  omega
 have hnd:=h.nodup i _ hi
 rw [b2] at hnd
 obtain ⟨n1,n2,n3⟩:=List.nodup_append.1 hnd
 have hnd2:=h.nodup j _ hj
 rw [c2] at hnd2
 obtain ⟨-,m2,-⟩:=List.nodup_append.1 hnd2
 have hGi:∀b∈Gs.flatten,b∉(g i).foot:=fun b hb hbi=>hij (h.inj i j _ _ b hi hj hbi (by rw [c2];exact List.mem_append_right _ hb))
 have hFsub:(Fs.take kk).flatten++(Fs.drop kk).flatten=Fs.flatten:=by rw [←List.flatten_append,List.take_append_drop]
 have hflat:(Fs.take kk++Gs++Fs.drop kk).flatten=(Fs.take kk).flatten++Gs.flatten++(Fs.drop kk).flatten:=by simp
 have hmem:∀b,b∈(Fs.take kk++Gs++Fs.drop kk).flatten→b∈Fs.flatten∨b∈Gs.flatten:=by
  intro b hb
  rw [hflat] at hb
  rcases List.mem_append.1 hb with hb | hb
  ·rcases List.mem_append.1 hb with hb | hb
   ·exact .inl (by rw [←hFsub];exact List.mem_append_left _ hb)
   ·exact .inr hb
  ·exact .inl (by rw [←hFsub];exact List.mem_append_right _ hb)
 have hFnd:(Fs.take kk++Gs++Fs.drop kk).flatten.Nodup:=by
  rw [hflat]
  have hp:((Fs.take kk).flatten++Gs.flatten++(Fs.drop kk).flatten).Perm (Gs.flatten++Fs.flatten):=by
   rw [←hFsub,←List.append_assoc]
   exact (List.perm_append_comm).append_right _
  rw [hp.nodup_iff]
  refine List.nodup_append.2 ⟨m2,n2,?_⟩
  rintro b hb c hc rfl
  exact hGi b hb (by rw [b2];exact List.mem_append_right _ hc)
 have hlt:∀b∈(Fs.take kk++Gs++Fs.drop kk).flatten,b<w.heap.size∧some b≠o1:=by
  intro b hb
  rcases hmem b hb with hb | hb
  ·exact ⟨h.lt i _ hi b (by rw [b2];exact List.mem_append_right _ hb),fun hh=>n3 b (by rw [←hh];simp) b hb rfl⟩
  ·exact ⟨h.lt j _ hj b (by rw [c2];exact List.mem_append_right _ hb),fun hh=>hGi b hb (by rw [b2,←hh];simp)⟩
 have hK:∀q,q∈(bif d2 then [i,j] else [i])→q=i∨q=j:=by
  intro q hq
  cases d2<;>simp at hq<;>omega
 have hiK:i∈(bif d2 then [i,j] else [i]):=by cases d2<;>simp
 have hGK:∀b∈Gs.flatten,j∈(bif d2 then [i,j] else [i]):=by
  intro b hb
  cases d2 with
  | true=>simp
  | false=>rw [Row_flat_F c3] at hb;cases hb
 have hmade:=h.made (w':=w') (bif d2 then [i,j] else [i]) id (.arr d2 ty2 (.o2 (.app ty2) (.o2 (.app ty2) (.o2 (.take ty2 .i64) e1 k) e2) (.o2 (.drop ty2 .i64) e1 k))) ⟨0,v',o'.toList++(Fs.take kk++Gs++Fs.drop kk).flatten⟩ hid hnp (fun q hq l hl=>by
   rcases hK q hq with rfl | rfl
   ·rw [hi] at hl;cases hl
   ·rw [hj] at hl;cases hl) (fun b hb hnot=>hsame b hb fun h3=>hnot i _ hiK hi (by rw [b2,←h3];simp)) ?_ ⟨⟨⟨h.nheap i _ hi,hnn⟩,h.nheap j _ hj⟩,h.nheap i _ hi,hnn⟩ ?_ ?_ hsize hos htp hout
 ·refine ⟨v',_,rfl,hmade,by simp [SRep,ARep],by simp [SV.all,Atom.ok,St.new,upd]⟩
 ·intro M' hk _ _ _
  simp only [BRep]
  rw [hden]
  refine OwnA_iff.2 ⟨o',_,_,?_,by simp,hrws.keep hk fun b hb=>hsame b (hlt b hb).1 (hlt b hb).2⟩
  simp only [if_true]
  rw [hlen,hsz]
  exact hown'
 ·refine List.nodup_append.2 ⟨by cases o'<;>simp,hFnd,?_⟩
  rintro b hb c hc rfl
  simp only [Option.mem_toList] at hb
  obtain ⟨q1,q2⟩:=hlt b hc
  rcases ho' with h3 | h3
  ·exact q2 (by rw [←h3,hb])
  ·rw [h3] at hb
   simp only [Option.some.injEq] at hb
   omega
 ·intro b hb
  rcases List.mem_append.1 hb with hb | hb
  ·simp only [Option.mem_toList] at hb
   rcases ho' with h3 | h3
   ·right
    exact ⟨i,_,hiK,hi,by rw [b2,←h3,hb];simp⟩
   ·rw [h3] at hb
    simp only [Option.some.injEq] at hb
    subst hb
    exact .inl ⟨Nat.le_refl _,hfresh h3⟩
  ·rcases hmem b hb with hb | hb
   ·exact .inr ⟨i,_,hiK,hi,by rw [b2];exact List.mem_append_right _ hb⟩
   ·exact .inr ⟨j,_,hGK b hb,hj,by rw [c2];exact List.mem_append_right _ hb⟩
theorem ins_ok {P:Program} {f:FuncId} (hrun:InsRun P f) {s:St} {id:Nat} {ty:Ty} {x n y:Operand} {gs:List (E .bool)} {sv:SV} {s':St} {bd:Bd} {N:Nat→Prop} {r:Env} {g:Nat→G} {a:Act} {st:List (Array Value)} {w:World}
  (hs:symIns s id ty x n y=some (gs,sv,s')) (h:R bd N s r g a.tmps st w) (hg:∀e∈gs,den e r=true) :
  Enters P f∧Calls P f #[a.eval x,a.eval n,a.eval y] w fun e w'=>∃v g',e=.returned v∧R bd N s' r g' a.tmps st w'∧SRep w' (Mt bd.Z s'.heap g') g' r sv v∧sv.all (Atom.ok N s'.heap):=by
 obtain ⟨hent,hrun⟩:=hrun
 refine ⟨hent,?_⟩
 unfold symIns at hs
 split at hs
 case h_2=>cases hs
 rename_i i k j hx hn hy
 obtain ⟨hxv,hxn⟩:=atom_rep h x
 rw [hx] at hxv hxn
 obtain ⟨hyv,hyn⟩:=atom_rep h y
 rw [hy] at hyv hyn
 obtain ⟨hnv,hnn⟩:=get_a h hn
 have hnv:=int_of hnv
 simp only [ARep] at hxv hyv
 split at hs
 ·rename_i q hq
  cases hs
  exact insAt_ok hrun h hq hg hxv hyv hnv hnn
 ·obtain ⟨g',hgg,h'⟩:=h.shallow j
  rw [←(hgg i).1] at hxv
  rw [←(hgg j).1] at hyv
  exact insAt_ok hrun h' hs hg hxv hyv hnv hnn
theorem Rws.ints {w:World} {M:Nat→Prop} {Fs:List (List Nat)} {ds:List Int} {xs:List Value} (h:Rws w M false (.int .i64) noHo Fs ds xs):xs=ds.map (Value.int .i64):=by
 have hl:xs.length=ds.length:=h.lx.trans (Nat.mul_one _)
 apply List.ext_getElem
 ·rw [hl,List.length_map]
 ·intro i h1 h2
  have hi:i<ds.length:=by omega
  obtain ⟨us,a1,a2,a3⟩:=h.row i hi
  have a4:us=[.int .i64 ds[i]]:=a3.2
  have a5:=a2 0 (.int .i64 ds[i]) (by rw [a4];rfl)
  have a5:xs[i]?=some (.int .i64 ds[i]):=by simpa [Ty.size] using a5
  rw [List.getElem?_eq_getElem h1] at a5
  rw [List.getElem_map]
  exact Option.some.inj a5
theorem Rws.of_ints {w:World} {M:Nat→Prop} (ds:List Int):Rws w M false (.int .i64) noHo (List.replicate ds.length []) ds (ds.map (Value.int .i64)):=by
 refine ⟨by simp,by rw [List.length_map];exact (Nat.mul_one _).symm,fun i hi=>⟨[.int .i64 ds[i]],rfl,fun j u hu=>?_,?_⟩⟩
 ·cases j with
  | zero =>
   simp only [List.getElem?_cons_zero,Option.some.injEq] at hu
   subst hu
   simp [Ty.size,hi]
  | succ j=>simp at hu
 ·refine ⟨?_,rfl⟩
  rw [List.getD_eq_getElem?_getD]
  cases hx:(List.replicate ds.length ([]:List Nat))[i]? with
  | none=>rfl
  | some y => 
   have:=List.mem_of_getElem? hx
   exact (List.mem_replicate.1 this).2
def MadeP (w:World) (sz n:Nat) (ys:List Value) (e:Ending) (w':World):Prop :=
 ∃v' o',e=.returned v'∧OwnV w' v' o' sz n ys∧(∀b,o'=some b→w.heap.size≤b∧b<w'.heap.size)∧(∀b,b<w.heap.size→w'.heap[b]?=w.heap[b]?)∧w.heap.size≤w'.heap.size∧w'.os=w.os∧w'.tape=w.tape∧w'.output=w.output
def KeptP (w:World) (o:Option Nat) (w':World):Prop :=
 (∀b,b<w.heap.size→some b≠o→w'.heap[b]?=w.heap[b]?)∧w.heap.size≤w'.heap.size∧w'.os=w.os∧w'.tape=w.tape∧w'.output=w.output
def ClnRun (P:Program) (f:FuncId):Prop:=Enters P f ∧
 ∀(w:World) (x:Option Addr) (c:Nat) (zs:List Int),(∀p,x=some p→zs≠[]→p.spot=none∧∀j u,(zs.map (Value.int .i64))[j]?=some u→cell w p.block (p.off+j)=some u)→(x=none→zs.length=0)→(zs.length:Int)≤lim →
  Calls P f #[.slice x zs.length c] w (MadeP w 1 zs.length (zs.map (Value.int .i64)))
def GrwRun (P:Program) (f:FuncId) (sz:Nat):Prop:=Enters P f ∧
 ∀(w:World) (n:Nat),(n:Int)≤lim→Calls P f #[.slice none 0 0,.int .i64 n] w (MadeP w sz 0 [])
def SrtRun (P:Program) (f:FuncId):Prop:=Enters P f ∧
 ∀(w:World) (v:Value) (o:Option Nat) (zs:List Int),OwnV w v o 1 zs.length (zs.map (Value.int .i64))→(zs.length:Int)≤lim →
  Calls P f #[v] w fun e w'=>e=.returned (.tuple #[])∧OwnV w' v o 1 (srtZ zs).length ((srtZ zs).map (Value.int .i64))∧KeptP w o w'
def CptRun (P:Program) (f:FuncId):Prop:=Enters P f ∧
 ∀(w:World) (v:Value) (o:Option Nat) (zs:List Int),OwnV w v o 1 zs.length (zs.map (Value.int .i64))→(zs.length:Int)≤lim →
  Calls P f #[v] w fun e w'=>∃v',e=.returned v'∧OwnV w' v' o 1 (cptZ zs).length ((cptZ zs).map (Value.int .i64))∧KeptP w o w'
def HandRun (P:Program) (f:FuncId):Ty→Prop
 | .bool=>SrtRun P f
 | .int .i64=>CptRun P f
 | .str=>ClnRun P f
 | .pr u .bool=>GrwRun P f u.size
 | .sl _ _=>InsRun P f
 | _=>True
section
variable {P:Program} {f:FuncId} {s s':St} {id:Nat} {gs:List (E .bool)} {sv:SV} {bd:Bd} {N:Nat→Prop} {r:Env} {g:Nat→G} {a:Act} {st:List (Array Value)} {w:World}
theorem made_ok (h:R bd N s r g a.tmps st w) (hf:free s id=true) {dp:Bool} {t:Ty} {e:E (.sl false t)} (he:e.vs N) {args:Array Value} {Fs:List (List Nat)} {ys:List Value} (hF:Fs.flatten=[])
  (hr:∀(w':World) (M':Nat→Prop),Kept w (Mt bd.Z s.heap g) w' M'→Rws w' M' dp t noHo Fs (den e r) ys) (hc:Calls P f args w (MadeP w t.size (den e r:List t.D).length ys)) :
  Calls P f args w fun e1 w'=>∃v g',e1=.returned v∧R bd N ((s.kills []).new id (.arr dp t e)) r g' a.tmps st w'∧SRep w' (Mt bd.Z ((s.kills []).new id (.arr dp t e)).heap g') g' r (.a (.ref id)) v∧SV.all (Atom.ok N ((s.kills []).new id (.arr dp t e)).heap) (.a (.ref id)):=by
 obtain ⟨hid,hnp⟩:=free_eq hf
 refine hc.mono ?_
 rintro e1 w' ⟨v',o',rfl,hown,hfresh,hsame,hsz,hos,htp,hout⟩
 have hmade:=h.made (w':=w') [] id (.arr dp t e) ⟨0,v',o'.toList++Fs.flatten⟩ hid hnp (by simp) (fun b hb _=>hsame b hb) ?_ he ?_ ?_ hsz hos htp hout
 ·exact ⟨v',_,rfl,hmade,by simp [SRep,ARep],by simp [SV.all,Atom.ok,St.new,upd]⟩
 ·intro M' hk _ _ _
  simp only [BRep]
  exact OwnA_iff.2 ⟨o',_,_,by simp only [if_true];exact hown,by simp,hr w' M' hk⟩
 ·rw [hF,List.append_nil];cases o'<;>simp
 ·intro b hb
  rw [hF,List.append_nil] at hb
  exact .inl (hfresh b (by simpa using hb))
theorem cln_ok (hrun:ClnRun P f) {x:Operand} (hs:symCln s id x=some (gs,sv,s')) (h:R bd N s r g a.tmps st w) (hg:∀e∈gs,den e r=true) :
  Enters P f∧Calls P f #[a.eval x] w fun e w'=>∃v g',e=.returned v∧R bd N s' r g' a.tmps st w'∧SRep w' (Mt bd.Z s'.heap g') g' r sv v∧sv.all (Atom.ok N s'.heap):=by
 obtain ⟨hent,hrun⟩:=hrun
 refine ⟨hent,?_⟩
 unfold symCln at hs
 split at hs
 case h_2=>cases hs
 rename_i e mv hsrc
 split at hs
 case isFalse=>cases hs
 rename_i hf
 simp only [Option.some.injEq,Prod.mk.injEq] at hs
 obtain ⟨rfl,rfl,rfl⟩:=hs
 obtain ⟨hxv,hxn⟩:=atom_rep h x
 obtain ⟨he,Fs,xs,⟨p,c,hv,hp,h0,hr⟩,-⟩:=appSrc_ok h hsrc hxv hxn
 have hxs:=Rws.ints hr
 have g1:((den e r:List Int).length:Int)≤lim:=gLe_iff.1 (hg (gLe (lenI e) (eI .i64 lim)) (by simp))
 rw [hv]
 refine made_ok h hf he (flatten_replicate_nil (den e r:List Int).length) (fun w' M' _=>Rws.of_ints (den e r)) ?_
 refine hrun w p c (den e r) (fun q hq hne=>?_) h0 g1
 obtain ⟨b1,b2⟩:=hp q hq (by rw [hxs];intro h;exact hne (List.map_eq_nil_iff.1 h))
 rw [hxs] at b2
 exact ⟨b1,b2⟩
theorem grw_ok {u:Ty} (hrun:GrwRun P f u.size) {x n:Operand} (hs:symGrw s id u x n=some (gs,sv,s')) (h:R bd N s r g a.tmps st w) (hg:∀e∈gs,den e r=true) :
  Enters P f∧Calls P f #[a.eval x,a.eval n] w fun e w'=>∃v g',e=.returned v∧R bd N s' r g' a.tmps st w'∧SRep w' (Mt bd.Z s'.heap g') g' r sv v∧sv.all (Atom.ok N s'.heap):=by
 obtain ⟨hent,hrun⟩:=hrun
 refine ⟨hent,?_⟩
 unfold symGrw at hs
 split at hs
 case h_2=>cases hs
 rename_i k hx hn
 split at hs
 case isFalse=>cases hs
 rename_i hf
 simp only [Option.some.injEq,Prod.mk.injEq] at hs
 obtain ⟨rfl,rfl,rfl⟩:=hs
 obtain ⟨hxv,hxn⟩:=atom_rep h x
 rw [hx] at hxv
 simp only [ARep] at hxv
 obtain ⟨hnv,hnn⟩:=get_a h hn
 have hnv:=int_of hnv
 have g0:(0:Int)≤den k r:=gLe_iff.1 (hg (gLe (eI .i64 0) k) (by simp))
 have g1:(den k r:Int)≤lim:=gLe_iff.1 (hg (gLe k (eI .i64 lim)) (by simp))
 obtain ⟨kk,hkk⟩:∃kk:Nat,(den k r:Int)=kk:=⟨Int.toNat (den k r),(Int.toNat_of_nonneg g0).symm⟩
 rw [hxv,hnv,hkk]
 exact made_ok h hf (e:=.nil false u) trivial (Fs:=[]) rfl (fun w' M' _=>Rws.nil) (hrun w kk (by rw [←hkk];exact g1))
theorem srt_ok (hrun:SrtRun P f) {x:Operand} (hs:symSort s x=some (gs,sv,s')) (h:R bd N s r g a.tmps st w) (hg:∀e∈gs,den e r=true) :
  Enters P f∧Calls P f #[a.eval x] w fun e w'=>∃v g',e=.returned v∧R bd N s' r g' a.tmps st w'∧SRep w' (Mt bd.Z s'.heap g') g' r sv v∧sv.all (Atom.ok N s'.heap):=by
 obtain ⟨hent,hrun⟩:=hrun
 refine ⟨hent,?_⟩
 unfold symSort at hs
 split at hs
 case h_2=>cases hs
 rename_i i hx
 split at hs
 case h_2=>cases hs
 rename_i e hi
 simp only [Option.some.injEq,Prod.mk.injEq] at hs
 obtain ⟨rfl,rfl,rfl⟩:=hs
 obtain ⟨hxv,hxn⟩:=atom_rep h x
 rw [hx] at hxv
 simp only [ARep] at hxv
 have g1:((den e r:List Int).length:Int)≤lim:=gLe_iff.1 (hg (gLe (lenI e) (eI .i64 lim)) (by simp))
 obtain ⟨o,xs,Fs,b1,b2,b3⟩:=OwnA_iff.1 (h.heap i _ hi)
 have hxs:=Rws.ints b3
 have hF:=Row_flat_F b3
 rw [hF,List.append_nil] at b2
 rw [hxs] at b1
 rw [hxv]
 refine (hrun w (g i).val o (den e r) b1 g1).mono ?_
 rintro e1 w' ⟨rfl,hown,hsame,hsz,hos,htp,hout⟩
 have hpoke:=h.poked (w':=w') [] i _ (.arr false (.int .i64) (.o1 (.hnd 0) e)) (g i) hi (by simp) rfl rfl (by simp) (fun b hb hnb _=>hsame b hb fun hh=>hnb (by rw [b2,←hh];simp)) ?_ (h.nheap i _ hi) (h.nodup i _ hi) (fun b hb=>.inr (.inl hb)) ?_ hsz hos htp hout
 ·exact ⟨_,_,rfl,hpoke,⟨_,rfl,trivial⟩,by simp [SV.all]⟩
 ·intro M' hk _
  simp only [BRep,if_true]
  refine OwnA_iff.2 ⟨o,_,_,?_,by rw [b2,flatten_replicate_nil,List.append_nil],Rws.of_ints (srtZ (den e r))⟩
  exact hown
 ·intro c hc hci
  obtain ⟨_,l,hl⟩:=h.kpl c (by rw [←h.kp] at hc;rw [h.kp] at hc;exact hc)
  rw [hci,hi] at hl;cases hl
theorem cpt_ok (hrun:CptRun P f) {x:Operand} (hs:symCpt s id x=some (gs,sv,s')) (h:R bd N s r g a.tmps st w) (hg:∀e∈gs,den e r=true) :
  Enters P f∧Calls P f #[a.eval x] w fun e w'=>∃v g',e=.returned v∧R bd N s' r g' a.tmps st w'∧SRep w' (Mt bd.Z s'.heap g') g' r sv v∧sv.all (Atom.ok N s'.heap):=by
 obtain ⟨hent,hrun⟩:=hrun
 refine ⟨hent,?_⟩
 unfold symCpt at hs
 split at hs
 case h_2=>cases hs
 rename_i i hx
 split at hs
 case h_2=>cases hs
 rename_i e hi
 split at hs
 case isFalse=>cases hs
 rename_i hf
 obtain ⟨hid,hnp⟩:=free_eq hf
 simp only [Option.some.injEq,Prod.mk.injEq] at hs
 obtain ⟨rfl,rfl,rfl⟩:=hs
 obtain ⟨hxv,hxn⟩:=atom_rep h x
 rw [hx] at hxv
 simp only [ARep] at hxv
 have g1:((den e r:List Int).length:Int)≤lim:=gLe_iff.1 (hg (gLe (lenI e) (eI .i64 lim)) (by simp))
 obtain ⟨o,xs,Fs,b1,b2,b3⟩:=OwnA_iff.1 (h.heap i _ hi)
 have hxs:=Rws.ints b3
 have hF:=Row_flat_F b3
 rw [hF,List.append_nil] at b2
 rw [hxs] at b1
 rw [hxv]
 refine (hrun w (g i).val o (den e r) b1 g1).mono ?_
 rintro e1 w' ⟨v',rfl,hown,hsame,hsz,hos,htp,hout⟩
 have hmade:=h.made (w':=w') [i] id (.arr false (.int .i64) (.o1 (.hnd 1) e)) ⟨0,v',o.toList⟩ hid hnp (fun q hq l hl=>by rw [List.mem_singleton.1 hq,hi] at hl;cases hl) (fun b hb hnot=>hsame b hb fun hh=>hnot i _ (by simp) hi (by rw [b2,←hh];simp)) ?_ (h.nheap i _ hi) ?_ ?_ hsz hos htp hout
 ·exact ⟨v',_,rfl,hmade,by simp [SRep,ARep],by simp [SV.all,Atom.ok,St.new,upd]⟩
 ·intro M' hk _ _ _
  simp only [BRep]
  refine OwnA_iff.2 ⟨o,_,_,?_,by simp only [if_true];rw [flatten_replicate_nil,List.append_nil],Rws.of_ints (cptZ (den e r))⟩
  simp only [if_true]
  exact hown
 ·cases o<;>simp
 ·intro b hb
  exact .inr ⟨i,_,by simp,hi,by rw [b2];exact hb⟩
end
theorem srtN_ok {P:Program} {f:FuncId} {s s':St} {id:Nat} {gs:List (E .bool)} {sv:SV} {bd:Bd} {N:Nat→Prop} {r:Env} {g:Nat→G} {a:Act} {st:List (Array Value)} {w:World} (hrun:SrtRun P f) {x:Operand} (hs:symSortN s id x=some (gs,sv,s')) (h:R bd N s r g a.tmps st w) (hg:∀e∈gs,den e r=true) :
  Enters P f∧Calls P f #[a.eval x] w fun e w'=>∃v g',e=.returned v∧R bd N s' r g' a.tmps st w'∧SRep w' (Mt bd.Z s'.heap g') g' r sv v∧sv.all (Atom.ok N s'.heap):=by
 unfold symSortN at hs
 split at hs
 case h_2=>cases hs
 rename_i t
 split at hs
 case h_2=>cases hs
 rename_i i s1 hl
 split at hs
 case h_2=>cases hs
 rename_i gs0 s2 hss
 obtain ⟨s3,hu,heq⟩:=Option.map_eq_some_iff.1 hs
 simp only [Prod.mk.injEq] at heq
 obtain ⟨rfl,rfl,rfl⟩:=heq
 obtain ⟨g1,h1⟩:=lend_ok h hl
 obtain ⟨hent,hc⟩:=srt_ok hrun hss h1 hg
 refine ⟨hent,hc.mono ?_⟩
 rintro e w' ⟨v,g2,rfl,h2,⟨cs,hv,hcs⟩,h4⟩
 obtain ⟨g3,h3⟩:=unlend_ok h2 hu
 refine ⟨v,g3,rfl,h3,⟨cs,hv,?_⟩,by simp [SV.all]⟩
 generalize cs.toList=l at hcs
 cases l with
 | nil=>trivial
 | cons=>exact hcs.elim
theorem cptN_ok {P:Program} {f:FuncId} {s s':St} {id:Nat} {gs:List (E .bool)} {sv:SV} {bd:Bd} {N:Nat→Prop} {r:Env} {g:Nat→G} {a:Act} {st:List (Array Value)} {w:World} (hrun:CptRun P f) {x:Operand} (hs:symCptN s id x=some (gs,sv,s')) (h:R bd N s r g a.tmps st w) (hg:∀e∈gs,den e r=true) :
  Enters P f∧Calls P f #[a.eval x] w fun e w'=>∃v g',e=.returned v∧R bd N s' r g' a.tmps st w'∧SRep w' (Mt bd.Z s'.heap g') g' r sv v∧sv.all (Atom.ok N s'.heap):=by
 unfold symCptN at hs
 split at hs
 case h_2=>cases hs
 rename_i t
 split at hs
 case h_2=>cases hs
 rename_i i s1 hl
 obtain ⟨g1,h1⟩:=lend_ok h hl
 exact cpt_ok hrun hs h1 hg
theorem hand_ok {c:Cx} (hI:∀f ty,c.ins f=some ty→HandRun c.P f ty):InsOK c:=by
 intro f ty s id ops gs sv s' bd N r g a st w hf hs h hg
 have hr:=hI f ty hf
 unfold symHand at hs
 split at hs
 ·split at hs
  ·rename_i q hq
   cases hs
   exact srt_ok hr hq h hg
  ·exact srtN_ok hr hs h hg
 ·split at hs
  ·rename_i q hq
   cases hs
   exact cpt_ok hr hq h hg
  ·exact cptN_ok hr hs h hg
 ·exact cln_ok hr hs h hg
 ·exact grw_ok hr hs h hg
 ·exact ins_ok hr hs h hg
 ·cases hs
end Go.Sm
namespace Go.Sm
set_option linter.unusedVariables false
set_option linter.unusedSimpArgs false
def nilG:G:=⟨0,.slice none 0 0,[]⟩
def gren (ρ:Nat→Option Nat) (g:Nat→G):Nat→G:=fun k=>match ρ k with
 | some i=>g i
 | none=>nilG
def AEq (ρ:Nat→Option Nat) (r r':Env):Atom→Atom→Prop
 | _,.no=>True
 | .un,.un=>True
 | .nil,.nil=>True
 | .nil,.ref k=>ρ k=none
 | .nil,.x t e=>∃u,denA ⟨t,e⟩ r'=⟨.sl false u,([]:List u.D)⟩∨denA ⟨t,e⟩ r'=⟨.sl true u,([]:List u.D)⟩
 | .x t e,.x t' e'=>denA ⟨t,e⟩ r=denA ⟨t',e'⟩ r'
 | .xc t e,.xc t' e'=>denA ⟨.sl false t,e⟩ r=denA ⟨.sl false t',e'⟩ r'
 | .ref i,.ref k=>ρ k=some i
 | .ptr i j,.ptr k j'=>ρ k=some i∧j=j'
 | .eptr id t _ i j,.eptr k t' _ i' j'=>ρ k=some id∧t=t'∧(den i r:Int)=den i' r'∧j=j'
 | .xptr c t l _ i j,.xptr c' t' l' _ i' j'=>denA ⟨.sl c t,l⟩ r=denA ⟨.sl c' t',l'⟩ r'∧(den i r:Int)=den i' r'∧j=j'
 | .clo f caps,.clo f' caps'=>f=f'∧caps'.map (fun c=>(ρ c.1,c.2))=caps.map (fun c=>(some c.1,c.2))
 | .nref id t _ i j,.nref k t' _ i' j'=>ρ k=some id∧t=t'∧(den i r:Int)=den i' r'∧j=j'
 | .vw id t lo hi,.vw k t' lo' hi'=>ρ k=some id∧t=t'∧(den lo r:Int)=den lo' r'∧(den hi r:Int)=den hi' r'
 | .nptr id t _ i j u _ i2 j2,.nptr k t' _ i' j' u' _ i2' j2'=>ρ k=some id∧t=t'∧(den i r:Int)=den i' r'∧j=j'∧u=u'∧(den i2 r:Int)=den i2' r'∧j2=j2'
 | _,_=>False
theorem AV.rep_eq {w:World} {M:Nat→Prop} {t t':Ty} {d:t.D} {d':t'.D} (h:(⟨t,d⟩:AV)=⟨t',d'⟩) {vs:List Value} (hr:Rep w M t d vs):Rep w M t' d' vs:=by
 cases h;exact hr
theorem gren_some {ρ:Nat→Option Nat} {g:Nat→G} {k i:Nat} (h:ρ k=some i):gren ρ g k=g i:=by simp [gren,h]
section
variable {w:World} {M M':Nat→Prop} {g:Nat→G} {r r':Env} {ρ:Nat→Option Nat}
theorem ARep.ren (hM:∀b,M' b→M b) {a a':Atom} {v:Value} (h:ARep w M g r a v) (he:AEq ρ r r' a a'):ARep w M' (gren ρ g) r' a' v:=by
 have hk:Kept w M w M':=⟨fun _ _ _=>rfl,fun b _ h=>hM b h⟩
 cases a' with
 | no=>trivial
 | un=>cases a<;>first | exact he.elim | exact h
 | nil=>cases a<;>first | exact he.elim | exact h
 | x t' e' =>
  cases a<;>try exact he.elim
  ·simp only [ARep] at h
   subst h
   obtain ⟨u,he | he⟩:=he
   ·have:Rep w M' (.sl false u) ([]:List u.D) [.slice none 0 0]:=⟨none,0,rfl,Nat.le_refl _,fun h=>by (cases h),fun _=>rfl,fun p hp=>by cases hp⟩
    exact AV.rep_eq he.symm this
   ·have:Rep w M' (.sl true u) ([]:List u.D) [.slice none 0 0]:=⟨none,0,rfl,Nat.le_refl _,fun _=>by simp,fun _=>rfl,fun p hp=>by cases hp⟩
    exact AV.rep_eq he.symm this
  ·exact AV.rep_eq he (Rep.keep hk h)
 | xc t' e' =>
  cases a<;>try exact he.elim
  rename_i t e
  obtain ⟨h1,x,h2⟩:=h
  have he':(⟨.sl false t,den e r⟩:AV)=⟨.sl false t',den e' r'⟩:=he
  have ht:t=t':=by have:=congrArg Sigma.fst he';simpa using this
  subst ht
  have hd:(den e r:List t.D)=den e' r':=by simpa using he'
  exact ⟨by rw [←hd];exact Rep.keep hk h1,x,by rw [←hd];exact h2⟩
 | ref k =>
  cases a<;>try exact he.elim
  ·simp only [AEq] at he;simp only [ARep] at h ⊢;rw [h,gren,he];rfl
  ·simp only [AEq] at he;simp only [ARep] at h ⊢;rw [h,gren_some he]
 | ptr k j' =>
  cases a<;>try exact he.elim
  obtain ⟨h1,rfl⟩:=he
  simp only [ARep] at h ⊢;rw [h,gren_some h1]
 | eptr k t' k' i' j' =>
  cases a<;>try exact he.elim
  obtain ⟨h1,rfl,h2,rfl⟩:=he
  simp only [ARep] at h ⊢;rw [gren_some h1,←h2];exact h
 | xptr c' t' l' k' i' j' =>
  cases a<;>try exact he.elim
  rename_i c t l kk i j
  obtain ⟨h1,h2,rfl⟩:=he
  obtain ⟨p,n,cp,a1,a2,a3,a4,a5⟩:=h
  have ht:(Ty.sl c t)=.sl c' t':=by have:=congrArg Sigma.fst h1;simpa [denA] using this
  cases ht
  exact ⟨p,n,cp,AV.rep_eq h1 (Rep.keep hk a1),a2,by rw [←h2];exact a3,by rw [←h2];exact a4,by rw [←h2];exact a5⟩
 | clo f' caps' =>
  cases a<;>try exact he.elim
  rename_i f caps
  obtain ⟨rfl,h1⟩:=he
  simp only [ARep] at h ⊢
  rw [h]
  have h2:∀(l l':List (Nat×Nat)),l'.map (fun c=>(ρ c.1,c.2))=l.map (fun c=>(some c.1,c.2))→l.map (fun c=>Value.pointer (some ⟨(g c.1).blk,c.2,none⟩))=l'.map (fun c=>Value.pointer (some ⟨(gren ρ g c.1).blk,c.2,none⟩)):=by
   intro l
   induction l with
   | nil=>intro l' h;simp at h;subst h;rfl
   | cons c l ih =>
    intro l' h
    cases l' with
    | nil=>simp at h
    | cons c' l' =>
     simp only [List.map_cons,List.cons.injEq,Prod.mk.injEq] at h
     simp only [List.map_cons]
     rw [ih l' h.2,gren_some h.1.1,h.1.2]
  rw [h2 caps caps' h1]
 | nref k t' k' i' j' =>
  cases a<;>try exact he.elim
  obtain ⟨h1,rfl,h2,rfl⟩:=he
  simp only [ARep] at h ⊢;rw [gren_some h1,←h2];exact h
 | nptr k t' k' i' j' u' k2 i2' j2' =>
  cases a<;>try exact he.elim
  obtain ⟨h1,rfl,h2,rfl,rfl,h3,rfl⟩:=he
  simp only [ARep] at h ⊢;rw [gren_some h1,←h2,←h3];exact h
 | vw k t' lo' hi' =>
  cases a<;>try exact he.elim
  obtain ⟨h1,rfl,h2,h3⟩:=he
  simp only [ARep] at h ⊢;rw [gren_some h1,←h2,←h3];exact h
def AEqs (ρ:Nat→Option Nat) (r r':Env):List Atom→List Atom→Prop
 | [],[]=>True
 | a::l,a'::l'=>AEq ρ r r' a a'∧AEqs ρ r r' l l'
 | _,_=>False
theorem AReps.ren (hM:∀b,M' b→M b):∀{l l':List Atom} {vs:List Value},AReps w M g r l vs→AEqs ρ r r' l l'→AReps w M' (gren ρ g) r' l' vs
 | [],[],[],_,_=>trivial
 | _::_,_::_,_::_,h,he=>⟨h.1.ren hM he.1,AReps.ren hM h.2 he.2⟩
 | [],[],_::_,h,_=>h.elim
 | [],_::_,_,_,he=>he.elim
 | _::_,[],_,_,he=>he.elim
 | _::_,_::_,[],h,_=>h.elim
def CEqs (ρ:Nat→Option Nat) (r r':Env):List (Bool×List Atom)→List (Bool×List Atom)→Prop
 | [],[]=>True
 | a::l,a'::l'=>(a.1=a'.1∧AEqs ρ r r' a.2 a'.2)∧CEqs ρ r r' l l'
 | _,_=>False
theorem CReps.ren (hM:∀b,M' b→M b):∀{l l':List (Bool×List Atom)} {vs:List Value},CReps w M g r l vs→CEqs ρ r r' l l'→CReps w M' (gren ρ g) r' l' vs
 | [],[],[],_,_=>trivial
 | (b,l)::_,(b',l')::_,_::_,h,he=>by
  obtain ⟨⟨hb,h1⟩,h2⟩:=he
  simp only at hb
  subst hb
  refine ⟨?_,CReps.ren hM h.2 h2⟩
  have:=h.1
  unfold CRep at this ⊢
  simp only at this ⊢
  split
  ·rename_i hb;rw [if_pos hb] at this;obtain ⟨cs,e1,e2⟩:=this;exact ⟨cs,e1,e2.ren hM h1⟩
  ·rename_i hb;rw [if_neg hb] at this;exact this.ren hM h1
 | [],[],_::_,h,_=>h.elim
 | [],_::_,_,_,he=>he.elim
 | _::_,[],_,_,he=>he.elim
 | _::_,_::_,[],h,_=>h.elim
def SEq (ρ:Nat→Option Nat) (r r':Env):SV→SV→Prop
 | .a x,.a y=>AEq ρ r r' x y
 | .agg l,.agg m=>AEqs ρ r r' l m
 | .tup l,.tup m=>CEqs ρ r r' l m
 | _,_=>False
theorem SRep.ren (hM:∀b,M' b→M b) {s s':SV} {v:Value} (h:SRep w M g r s v) (he:SEq ρ r r' s s'):SRep w M' (gren ρ g) r' s' v:=by
 cases s<;>cases s'<;>first | exact he.elim | skip
 ·exact ARep.ren hM h he
 ·obtain ⟨cs,h1,h2⟩:=h;exact ⟨cs,h1,h2.ren hM he⟩
 ·obtain ⟨cs,h1,h2⟩:=h;exact ⟨cs,h1,h2.ren hM he⟩
def SEqs (ρ:Nat→Option Nat) (r r':Env):List SV→List SV→Prop
 | [],[]=>True
 | a::l,a'::l'=>SEq ρ r r' a a'∧SEqs ρ r r' l l'
 | _,_=>False
theorem SReps.ren (hM:∀b,M' b→M b):∀{l l':List SV} {vs:List Value},SReps w M g r l vs→SEqs ρ r r' l l'→SReps w M' (gren ρ g) r' l' vs
 | [],[],[],_,_=>trivial
 | _::_,_::_,_::_,h,he=>⟨h.1.ren hM he.1,SReps.ren hM h.2 he.2⟩
 | [],[],_::_,h,_=>h.elim
 | [],_::_,_,_,he=>he.elim
 | _::_,[],_,_,he=>he.elim
 | _::_,_::_,[],h,_=>h.elim
def SEqss (ρ:Nat→Option Nat) (r r':Env):List (List SV)→List (List SV)→Prop
 | [],[]=>True
 | a::l,a'::l'=>SEqs ρ r r' a a'∧SEqss ρ r r' l l'
 | _,_=>False
theorem SRepss.ren (hM:∀b,M' b→M b):∀{l l':List (List SV)} {vs:List (Array Value)},SRepss w M g r l vs→SEqss ρ r r' l l'→SRepss w M' (gren ρ g) r' l' vs
 | [],[],[],_,_=>trivial
 | _::_,_::_,_::_,h,he=>⟨h.1.ren hM he.1,SRepss.ren hM h.2 he.2⟩
 | [],[],_::_,h,_=>h.elim
 | [],_::_,_,_,he=>he.elim
 | _::_,[],_,_,he=>he.elim
 | _::_,_::_,[],h,_=>h.elim
def BEq' (ρ:Nat→Option Nat) (r r':Env):Blk→Blk→Prop
 | .box l,.box m=>AEqs ρ r r' l m
 | .arr dp t e,.arr dp' t' e'=>dp=dp'∧denA ⟨.sl false t,e⟩ r=denA ⟨.sl false t',e'⟩ r'
 | .hole t e _ i j a,.hole t' e' _ i' j' a'=>denA ⟨.sl false t,e⟩ r=denA ⟨.sl false t',e'⟩ r'∧(den i r:Int)=den i' r'∧j=j'∧AEq ρ r r' a a'
 | .lent t e _ i a,.lent t' e' _ i' a'=>denA ⟨.sl false t,e⟩ r=denA ⟨.sl false t',e'⟩ r'∧(den i r:Int)=den i' r'∧AEq ρ r r' a a'
 | _,_=>False
theorem denA_sl {t t':Ty} {e:E (.sl false t)} {e':E (.sl false t')} (h:denA ⟨.sl false t,e⟩ r=denA ⟨.sl false t',e'⟩ r'):∃h:t=t',(den e' r':List t'.D)=h▸(den e r:List t.D):=by
 have ht:t=t':=by have:=congrArg Sigma.fst h;simpa [denA] using this
 subst ht
 exact ⟨rfl,by simpa [denA] using h.symm⟩
theorem BRep.ren (hM:∀b,M' b→M b) {k i:Nat} (hk:ρ k=some i) {B B':Blk} (h:BRep w M g r i B) (he:BEq' ρ r r' B B'):BRep w M' (gren ρ g) r' k B':=by
 have hkept:Kept w M w M':=⟨fun _ _ _=>rfl,fun b _ h=>hM b h⟩
 cases B<;>cases B'<;>first | exact he.elim | skip
 ·obtain ⟨h1,c,ty,h2,h3⟩:=h
  simp only [BRep]
  rw [gren_some hk]
  exact ⟨h1,c,ty,h2,h3.ren hM he⟩
 ·obtain ⟨rfl,h1⟩:=he
  obtain ⟨rfl,h2⟩:=denA_sl h1
  simp only [BRep] at h ⊢
  rw [gren_some hk,h2]
  exact h.keep hkept fun _ _=>rfl
 ·obtain ⟨h1,h3,rfl,h4⟩:=he
  obtain ⟨rfl,h2⟩:=denA_sl h1
  simp only [BRep] at h ⊢
  obtain ⟨q1,v,q2,q3⟩:=h
  refine ⟨?_,v,?_,q3.ren hM h4⟩
  ·rw [gren_some hk,h2,←h3]
   exact q1.keep hkept fun _ _=>rfl
  ·simp only [ARep] at q2 ⊢
   rw [gren_some hk,←h3]
   exact q2
 ·obtain ⟨h1,h3,h4⟩:=he
  obtain ⟨rfl,h2⟩:=denA_sl h1
  simp only [BRep] at h ⊢
  obtain ⟨v,q1,q3⟩:=h
  refine ⟨v,?_,q3.ren hM h4⟩
  rw [gren_some hk,h2,←h3]
  exact q1.keep hkept fun _ _=>rfl
end
section
variable {bd:Bd} {N N':Nat→Prop} {s s':St} {r r':Env} {g:Nat→G} {tm tm':Array Value} {st st':List (Array Value)} {w:World} {ρ:Nat→Option Nat}
def HeapEq (ρ:Nat→Option Nat) (r r':Env) (h h':Nat→Option Blk):Prop :=
 ∀k B',h' k=some B'→match ρ k with
  | some i=>∃B,h i=some B∧BEq' ρ r r' B B'
  | none=>∃dp t e,B'=.arr dp t e∧(den e r':List t.D)=[]
theorem gren_foot (hh:HeapEq ρ r r' s.heap s'.heap) {k:Nat} {B':Blk} (hk:s'.heap k=some B') {b:Nat} (hb:b∈(gren ρ g k).foot):∃i B,ρ k=some i∧s.heap i=some B∧b∈(g i).foot:=by
 have:=hh k B' hk
 unfold gren at hb
 split at this
 ·rename_i i hi
  rw [hi] at hb
  obtain ⟨B,h3,_⟩:=this
  exact ⟨i,B,hi,h3,hb⟩
 ·rename_i hi
  rw [hi] at hb
  simp [nilG] at hb
theorem Mt_ren (hh:HeapEq ρ r r' s.heap s'.heap) {b:Nat} (hb:Mt bd.Z s'.heap (gren ρ g) b):Mt bd.Z s.heap g b:=by
 rcases hb with ⟨k,B',h1,h2⟩ | hz
 ·obtain ⟨i,B,_,h3,h4⟩:=gren_foot hh h1 h2
  exact .inl ⟨i,B,h3,h4⟩
 ·exact .inr hz
theorem nil_rep {M:Nat→Prop} {g:Nat→G} {k:Nat} (hk:g k=nilG) {dp:Bool} {t:Ty} {e:E (.sl false t)} (he:(den e r':List t.D)=[]):BRep w M g r' k (.arr dp t e):=by
 simp only [BRep]
 rw [hk,he]
 refine ⟨none,[],[],⟨by simp,.inl ⟨none,rfl,rfl,rfl⟩⟩,rfl,rfl,fun i hi=>by simp at hi⟩
theorem R.ren (h:R bd N s r g tm st w) (hh:HeapEq ρ r r' s.heap s'.heap) (hinj:∀k k' i,(s'.heap k).isSome=true→(s'.heap k').isSome=true→ρ k=some i→ρ k'=some i→k=k')
  (hcur:SReps w (Mt bd.Z s'.heap (gren ρ g)) (gren ρ g) r' s'.cur tm'.toList) (hstk:SRepss w (Mt bd.Z s'.heap (gren ρ g)) (gren ρ g) r' s'.stk st')
  (hown:∀k B,s'.heap k=some B→∀b∈(gren ρ g k).foot,bd.M0 b∨bd.w0.heap.size≤b) (hw:Wd bd w) (hpin:∀k p,bd.pins[k]?=some p→k<s'.np→(gren ρ g k).blk=p.blk∧(gren ρ g k).val=p.val)
  (hnp:s'.np=bd.pins.length) (hkp:s'.kp=bd.kp) (hkept:∀c∈bd.kp,cell w (gren ρ g c.1).blk c.2=bd.kept c.1 c.2) (hkpl:∀c∈bd.kp,c.1<s'.np∧∃l,s'.heap c.1=some (.box l))
  (n1:∀v∈s'.cur,v.all (Atom.ok N' s'.heap)) (n2:∀f∈s'.stk,∀v∈f,v.all (Atom.ok N' s'.heap)) (n3:∀id B,s'.heap id=some B→B.ok N' s'.heap) :
  R bd N' s' r' (gren ρ g) tm' st' w:=by
 have foot:∀k B',s'.heap k=some B'→∀b∈(gren ρ g k).foot,∃i B,ρ k=some i∧s.heap i=some B∧b∈(g i).foot:=by
  intro k B' hk b hb
  have:=hh k B' hk
  unfold gren at hb
  split at this
  ·rename_i i hi
   rw [hi] at hb
   obtain ⟨B,h3,_⟩:=this
   exact ⟨i,B,hi,h3,hb⟩
  ·rename_i hi
   rw [hi] at hb
   simp [nilG] at hb
 refine { cur:=hcur,stk:=hstk,heap:=?_,inj:=?_,nodup:=?_,own:=hown,lt:=?_,world:=hw,pin:=hpin,np:=hnp,kp:=hkp,kept:=hkept,kpl:=hkpl,ncur:=n1,nstk:=n2,nheap:=n3 }
 ·intro k B' hk
  have:=hh k B' hk
  split at this
  ·rename_i i hi
   obtain ⟨B,h3,h4⟩:=this
   exact (h.heap i B h3).ren (fun b hb=>Mt_ren hh hb) hi h4
  ·rename_i hi
   obtain ⟨dp,t,e,rfl,he⟩:=this
   exact nil_rep (by simp [gren,hi]) he
 ·intro k k' B B' b hk hk' hb hb'
  obtain ⟨i,C,e1,e2,e3⟩:=foot k B hk b hb
  obtain ⟨i',C',e1',e2',e3'⟩:=foot k' B' hk' b hb'
  have:=h.inj i i' C C' b e2 e2' e3 e3'
  subst this
  exact hinj k k' i (by simp [hk]) (by simp [hk']) e1 e1'
 ·intro k B hk
  have:=hh k B hk
  split at this
  ·rename_i i hi
   obtain ⟨C,h3,_⟩:=this
   rw [gren_some hi]
   exact h.nodup i C h3
  ·rename_i hi
   simp [gren,hi,nilG]
 ·intro k B hk b hb
  obtain ⟨i,C,e1,e2,e3⟩:=foot k B hk b hb
  exact h.lt i C e2 b e3
end
end Go.Sm
namespace Go.Sm
set_option linter.unusedVariables false
set_option linter.unusedSimpArgs false
def Seg {α:Type} (E:List α) (n:Nat) (l:List α):Prop:=∃p q,E=p++(l++q)∧p.length=n
theorem Seg.left {α:Type} {E:List α} {n:Nat} {l m:List α} (h:Seg E n (l++m)):Seg E n l:=by
 obtain ⟨p,q,h1,h2⟩:=h;exact ⟨p,m++q,by rw [h1,List.append_assoc],h2⟩
theorem Seg.right {α:Type} {E:List α} {n:Nat} {l m:List α} (h:Seg E n (l++m)):Seg E (n+l.length) m:=by
 obtain ⟨p,q,h1,h2⟩:=h;exact ⟨p++l,q,by rw [h1];simp [List.append_assoc],by simp [h2]⟩
theorem Seg.get {α:Type} {E:List α} {n:Nat} {l:List α} (h:Seg E n l) {i:Nat} {a:α} (hi:l[i]?=some a):E[n+i]?=some a:=by
 obtain ⟨p,q,h1,h2⟩:=h
 have hl:i<l.length:=(List.getElem?_eq_some_iff.1 hi).1
 rw [h1,List.getElem?_append_right (by omega),List.getElem?_append_left (by omega)]
 rw [←hi];congr 1;omega
theorem Seg.get0 {α:Type} {E:List α} {n:Nat} {l:List α} {a:α} (h:Seg E n (a::l)):E[n]?=some a:=h.get (i:=0) rfl
theorem Seg.all {α:Type} (E:List α):Seg E 0 E:=⟨[],[],by simp,rfl⟩
theorem Seg.lt {α:Type} {E:List α} {n:Nat} {l:List α} (h:Seg E n l) {i:Nat} (hi:i<l.length):n+i<E.length:=by
 have:=h.get (List.getElem?_eq_getElem hi)
 exact (List.getElem?_eq_some_iff.1 this).1
theorem findI_get:∀{L:List Nat} {x k:Nat},findI L x=some k→L[k]?=some x
 | [],x,k,h=>by simp [findI] at h
 | a::L,x,k,h=>by
  unfold findI at h
  split at h
  ·rename_i ha;cases h;simp [ha]
  ·obtain ⟨j,hj,rfl⟩:=Option.map_eq_some_iff.1 h
   simpa using findI_get hj
theorem renCaps_eq {L:List Nat}:∀{l l':List (Nat×Nat)},renCaps L l=some l'→l'.map (fun c=>(L[c.1]?,c.2))=l.map (fun c=>(some c.1,c.2))
 | [],l',h=>by simp [renCaps] at h;subst h;rfl
 | (i,j)::l,l',h=>by
  unfold renCaps at h
  split at h
  ·rename_i k r hk hr
   cases h
   simp only [List.map_cons]
   rw [renCaps_eq hr,findI_get hk]
  ·cases h
section
variable {L:List Nat} {Es:List AE} {r r':Env}
def Holds (Es:List AE) (r r':Env):Prop:=∀i x,Es[i]?=some x→r' i=denA x r
theorem den_var {t:Ty} {e:E t} {n:Nat} (hh:Holds Es r r') (hs:Es[n]?=some ⟨t,e⟩):den (.var t n) r'=den e r:=by
 simp only [den]
 rw [hh n _ hs]
 exact AV.as_mk t _
theorem isLit_den {t:Ty} {e:E t} (h:isLit e=true):den e r'=den e r:=by
 cases e<;>first | rfl | (simp [isLit] at h)
theorem isLit_vs {N:Nat→Prop} {t:Ty} {e:E t} (h:isLit e=true):e.vs N:=by
 cases e<;>first | trivial | (simp [isLit] at h)
theorem sub_ren (hh:Holds Es r r') {a:Atom} {b:Bool} {n:Nat} (hs:Seg Es n ((ren L a).es b)):AEq (fun k=>L[k]?) r r' a ((ren L a).sub b n):=by
 cases a with
 | no=>trivial
 | un=>trivial
 | nil=>trivial
 | x t e =>
  simp only [ren,Atom.sub,Atom.es] at hs ⊢
  split
  ·rename_i hb
   simp only [AEq,denA]
   simp only [Bool.and_eq_true] at hb
   rw [isLit_den hb.2]
  ·rename_i hb
   rw [if_neg hb] at hs
   simp only [AEq,denA]
   rw [den_var hh hs.get0]
 | xc t e =>
  simp only [ren,Atom.sub,Atom.es] at hs ⊢
  simp only [AEq,denA]
  rw [den_var hh hs.get0]
 | ref id =>
  simp only [ren] at hs ⊢
  split<;>rename_i h
  ·exact findI_get h
  ·trivial
 | ptr id j =>
  simp only [ren] at hs ⊢
  split<;>rename_i h
  ·exact ⟨findI_get h,rfl⟩
  ·trivial
 | eptr id t k i j =>
  simp only [ren] at hs ⊢
  cases h:findI L id with
  | none=>trivial
  | some kk =>
   simp only [h,Atom.sub,Atom.es] at hs ⊢
   exact ⟨findI_get h,rfl,by rw [den_var hh hs.get0],rfl⟩
 | xptr c t l k i j =>
  simp only [ren,Atom.sub,Atom.es] at hs ⊢
  refine ⟨?_,?_,rfl⟩
  ·simp only [denA];rw [den_var hh hs.get0]
  ·rw [den_var hh (hs.get (i:=1) rfl)]
 | clo f caps =>
  simp only [ren] at hs ⊢
  split<;>rename_i h
  ·exact ⟨rfl,renCaps_eq h⟩
  ·trivial
 | nref id t k i j =>
  simp only [ren] at hs ⊢
  cases h:findI L id with
  | none=>trivial
  | some kk =>
   simp only [h,Atom.sub,Atom.es] at hs ⊢
   exact ⟨findI_get h,rfl,by rw [den_var hh hs.get0],rfl⟩
 | nptr id t k i j u k2 i2 j2 =>
  simp only [ren] at hs ⊢
  cases h:findI L id with
  | none=>trivial
  | some kk =>
   simp only [h,Atom.sub,Atom.es] at hs ⊢
   exact ⟨findI_get h,rfl,by rw [den_var hh hs.get0],rfl,rfl,by rw [den_var hh (hs.get (i:=1) rfl)],rfl⟩
 | vw id t lo hi =>
  simp only [ren] at hs ⊢
  cases h:findI L id with
  | none=>trivial
  | some kk =>
   simp only [h,Atom.sub,Atom.es] at hs ⊢
   exact ⟨findI_get h,rfl,by rw [den_var hh hs.get0],by rw [den_var hh (hs.get (i:=1) rfl)]⟩
theorem subL_ren (hh:Holds Es r r') {b:Bool}:∀{l:List Atom} {n:Nat},Seg Es n (esL b (l.map (ren L)))→AEqs (fun k=>L[k]?) r r' l (subL b n (l.map (ren L)))
 | [],n,_=>trivial
 | a::l,n,hs=>⟨sub_ren hh hs.left,subL_ren hh hs.right⟩
theorem subC_ren (hh:Holds Es r r') {b:Bool}:∀{l:List (Bool×List Atom)} {n:Nat},Seg Es n (esC b (l.map fun c=>(c.1,c.2.map (ren L))))→CEqs (fun k=>L[k]?) r r' l (subC b n (l.map fun c=>(c.1,c.2.map (ren L))))
 | [],n,_=>trivial
 | c::l,n,hs=>⟨⟨rfl,subL_ren hh hs.left⟩,subC_ren hh hs.right⟩
theorem subV_ren (hh:Holds Es r r') {b:Bool} {v:SV} {n:Nat} (hs:Seg Es n ((v.map (ren L)).es b)):SEq (fun k=>L[k]?) r r' v ((v.map (ren L)).sub b n):=by
 cases v with
 | a x=>exact sub_ren hh hs
 | agg l=>exact subL_ren hh hs
 | tup l=>exact subC_ren hh hs
theorem subS_ren (hh:Holds Es r r') {b:Bool}:∀{l:List SV} {n:Nat},Seg Es n (esS b (l.map (SV.map (ren L))))→SEqs (fun k=>L[k]?) r r' l (subS b n (l.map (SV.map (ren L))))
 | [],n,_=>trivial
 | v::l,n,hs=>⟨subV_ren hh hs.left,subS_ren hh hs.right⟩
theorem subSS_ren (hh:Holds Es r r'):∀{l:List (List SV)} {n:Nat},Seg Es n (esSS (l.map (List.map (SV.map (ren L)))))→SEqss (fun k=>L[k]?) r r' l (subSS n (l.map (List.map (SV.map (ren L)))))
 | [],n,_=>trivial
 | v::l,n,hs=>⟨subS_ren hh hs.left,subSS_ren hh hs.right⟩
theorem subB_ren (hh:Holds Es r r') {B:Blk} {n:Nat} (hs:Seg Es n (B.map (ren L)).es):BEq' (fun k=>L[k]?) r r' B ((B.map (ren L)).sub n):=by
 cases B with
 | box l=>exact subL_ren hh hs
 | arr dp t e =>
  refine ⟨rfl,?_⟩
  simp only [denA];rw [den_var hh hs.get0]
 | hole t e k i j a =>
  refine ⟨?_,?_,rfl,sub_ren hh (hs.right (l:=[_,_]))⟩
  ·simp only [denA];rw [den_var hh hs.get0]
  ·rw [den_var hh (hs.get (i:=1) rfl)]
 | lent t e k i a =>
  refine ⟨?_,?_,sub_ren hh (hs.right (l:=[_,_]))⟩
  ·simp only [denA];rw [den_var hh hs.get0]
  ·rw [den_var hh (hs.get (i:=1) rfl)]
theorem subB_get:∀{l:List Blk} {n k:Nat} {B':Blk},Seg Es n (esB l)→(subB n l)[k]?=some B'→∃B m,l[k]?=some B∧B'=B.sub m∧Seg Es m B.es
 | [],n,k,B',_,h=>by simp [subB] at h
 | B::l,n,0,B',hs,h=>by simp only [subB,List.getElem?_cons_zero,Option.some.injEq] at h;exact ⟨B,n,rfl,h.symm,hs.left⟩
 | B::l,n,k+1,B',hs,h=>by
  simp only [subB,List.getElem?_cons_succ] at h
  obtain ⟨C,m,h1,h2,h3⟩:=subB_get hs.right h
  exact ⟨C,m,by simpa using h1,h2,h3⟩
theorem subB_len:∀(l:List Blk) (n:Nat),(subB n l).length=l.length
 | [],_=>rfl
 | B::l,n=>by simp [subB,subB_len l]
theorem blks_get {s:St}:∀{l:List Nat} {hl:List Blk},blks s L l=some hl→hl.length=l.length∧∀(k id:Nat),l[k]?=some id→∃B,s.heap id=some B∧hl[k]?=some (B.map (ren L))
 | [],hl,h=>by simp [blks] at h;subst h;simp
 | id::l,hl,h=>by
  unfold blks at h
  split at h
  case h_2=>cases h
  rename_i B l' hB hl'
  cases h
  obtain ⟨h1,h2⟩:=blks_get hl'
  refine ⟨by simp [h1],fun k id' hk=>?_⟩
  cases k with
  | zero=>simp at hk;subst hk;exact ⟨B,hB,rfl⟩
  | succ k=>simpa using h2 k id' (by simpa using hk)
section
variable {h':Nat→Option Blk} (hl:∀k,(L[k]?).isSome=true→(h' k).isSome=true)
include hl
theorem sub_ok {a:Atom} {b:Bool} {n:Nat} (hs:Seg Es n ((ren L a).es b)):((ren L a).sub b n).ok (·<Es.length) h':=by
 have hf:∀{id k:Nat},findI L id=some k→(h' k).isSome=true:=fun h=>hl _ (by rw [findI_get h];rfl)
 cases a with
 | no=>trivial
 | un=>trivial
 | nil=>trivial
 | x t e =>
  simp only [ren,Atom.sub,Atom.es] at hs ⊢
  split
  ·rename_i hb
   simp only [Bool.and_eq_true] at hb
   exact isLit_vs hb.2
  ·rename_i hb
   rw [if_neg hb] at hs
   exact hs.lt (i:=0) (by simp)
 | xc t e=>exact hs.lt (i:=0) (by simp [ren,Atom.es])
 | ref id =>
  simp only [ren] at hs ⊢
  split<;>rename_i h
  ·exact hf h
  ·trivial
 | ptr id j =>
  simp only [ren] at hs ⊢
  split<;>rename_i h
  ·exact hf h
  ·trivial
 | eptr id t k i j =>
  simp only [ren] at hs ⊢
  cases h:findI L id with
  | none=>trivial
  | some kk =>
   simp only [h,Atom.sub,Atom.es] at hs ⊢
   exact ⟨hs.lt (i:=0) (by simp),hf h⟩
 | xptr c t l k i j=>exact ⟨hs.lt (i:=0) (by simp [ren,Atom.es]),hs.lt (i:=1) (by simp [ren,Atom.es])⟩
 | clo f caps =>
  simp only [ren] at hs ⊢
  split<;>rename_i h
  ·intro c hc
   have h1:=renCaps_eq h
   have h2:(L[c.1]?,c.2)∈caps.map (fun c=>(some c.1,c.2)):=by rw [←h1];exact List.mem_map.2 ⟨c,hc,rfl⟩
   obtain ⟨d,_,hd⟩:=List.mem_map.1 h2
   simp only [Prod.mk.injEq] at hd
   exact hl _ (by rw [←hd.1];rfl)
  ·trivial
 | nref id t k i j =>
  simp only [ren] at hs ⊢
  cases h:findI L id with
  | none=>trivial
  | some kk =>
   simp only [h,Atom.sub,Atom.es] at hs ⊢
   exact ⟨hs.lt (i:=0) (by simp),hf h⟩
 | nptr id t k i j u k2 i2 j2 =>
  simp only [ren] at hs ⊢
  cases h:findI L id with
  | none=>trivial
  | some kk =>
   simp only [h,Atom.sub,Atom.es] at hs ⊢
   exact ⟨⟨hs.lt (i:=0) (by simp),hs.lt (i:=1) (by simp)⟩,hf h⟩
 | vw id t lo hi =>
  simp only [ren] at hs ⊢
  cases h:findI L id with
  | none=>trivial
  | some kk =>
   simp only [h,Atom.sub,Atom.es] at hs ⊢
   exact ⟨⟨hs.lt (i:=0) (by simp),hs.lt (i:=1) (by simp)⟩,hf h⟩
theorem subL_ok {b:Bool}:∀{l:List Atom} {n:Nat},Seg Es n (esL b (l.map (ren L)))→∀a∈subL b n (l.map (ren L)),a.ok (·<Es.length) h'
 | [],n,_,a,ha=>by cases ha
 | x::l,n,hs,a,ha=>by
  rcases List.mem_cons.1 ha with rfl | ha
  ·exact sub_ok hl hs.left
  ·exact subL_ok hs.right a ha
theorem subC_ok {b:Bool}:∀{l:List (Bool×List Atom)} {n:Nat},Seg Es n (esC b (l.map fun c=>(c.1,c.2.map (ren L))))→∀c∈subC b n (l.map fun c=>(c.1,c.2.map (ren L))),∀a∈c.2,a.ok (·<Es.length) h'
 | [],n,_,a,ha=>by cases ha
 | x::l,n,hs,a,ha=>by
  rcases List.mem_cons.1 ha with rfl | ha
  ·exact subL_ok hl hs.left
  ·exact subC_ok hs.right a ha
theorem subV_ok {b:Bool} {v:SV} {n:Nat} (hs:Seg Es n ((v.map (ren L)).es b)):((v.map (ren L)).sub b n).all (Atom.ok (·<Es.length) h'):=by
 cases v with
 | a x=>exact sub_ok hl hs
 | agg l=>exact subL_ok hl hs
 | tup l=>exact subC_ok hl hs
theorem subS_ok {b:Bool}:∀{l:List SV} {n:Nat},Seg Es n (esS b (l.map (SV.map (ren L))))→∀v∈subS b n (l.map (SV.map (ren L))),v.all (Atom.ok (·<Es.length) h')
 | [],n,_,a,ha=>by cases ha
 | x::l,n,hs,a,ha=>by
  rcases List.mem_cons.1 ha with rfl | ha
  ·exact subV_ok hl hs.left
  ·exact subS_ok hs.right a ha
theorem subSS_ok:∀{l:List (List SV)} {n:Nat},Seg Es n (esSS (l.map (List.map (SV.map (ren L)))))→∀f∈subSS n (l.map (List.map (SV.map (ren L)))),∀v∈f,v.all (Atom.ok (·<Es.length) h')
 | [],n,_,a,ha=>by cases ha
 | x::l,n,hs,a,ha=>by
  rcases List.mem_cons.1 ha with rfl | ha
  ·exact subS_ok hl hs.left
  ·exact subSS_ok hs.right a ha
theorem subB_ok {B:Blk} {n:Nat} (hs:Seg Es n (B.map (ren L)).es):((B.map (ren L)).sub n).ok (·<Es.length) h':=by
 cases B with
 | box l=>exact subL_ok hl hs
 | arr dp t e=>exact hs.lt (i:=0) (by simp [Blk.map,Blk.es])
 | hole t e k i j a=>exact ⟨hs.lt (i:=0) (by simp [Blk.map,Blk.es]),hs.lt (i:=1) (by simp [Blk.map,Blk.es]),sub_ok hl (hs.right (l:=[_,_]))⟩
 | lent t e k i a=>exact ⟨hs.lt (i:=0) (by simp [Blk.map,Blk.es]),hs.lt (i:=1) (by simp [Blk.map,Blk.es]),sub_ok hl (hs.right (l:=[_,_]))⟩
end
end
theorem nodupB_inj:∀{L:List Nat},nodupB L=true→∀k k' i:Nat,L[k]?=some i→L[k']?=some i→k=k'
 | [],_,k,k',i,h,_=>by simp at h
 | a::L,hn,k,k',i,h,h'=>by
  simp only [nodupB,Bool.and_eq_true,Bool.not_eq_true',List.contains_eq_mem,decide_eq_false_iff_not] at hn
  cases k<;>cases k'<;>simp only [List.getElem?_cons_zero,List.getElem?_cons_succ,Option.some.injEq] at h h'
  ·rfl
  ·subst h;exact (hn.1 (List.mem_of_getElem? h')).elim
  ·subst h';exact (hn.1 (List.mem_of_getElem? h)).elim
  ·rw [nodupB_inj hn.2 _ _ i h h']
theorem envOf_get {l:List AV} {i:Nat} {v:AV} (h:l[i]?=some v):envOf l i=v:=by
 simp [envOf,h]
section
variable {bd:Bd} {N:Nat→Prop} {s:St} {r:Env} {g:Nat→G} {tm:Array Value} {st:List (Array Value)} {w:World}
theorem take_range_get {L:List Nat} {n k:Nat} (h:L.take n=List.range n) (hk:k<n):L[k]?=some k:=by
 have:(L.take n)[k]?=(List.range n)[k]?:=by rw [h]
 rw [List.getElem?_take_of_lt hk,List.getElem?_range hk] at this
 exact this
theorem norm_ok (h:R bd N s r g tm st w) {vs:List AE} {n:NS} (hn:norm s=some (vs,n)) (b:Nat):∃g',R bd (·<vs.length) (n.toSt b) (envOf (vs.map (denA · r))) g' tm st w:=by
 unfold norm at hn
 generalize reach s.heap 400 ((List.range s.np).flatMap (fun k=>((s.heap k).map Blk.ids).getD [])++(s.cur.flatMap SV.ids++s.stk.flatMap (List.flatMap SV.ids))) (List.range s.np)=L at hn
 simp only at hn
 split at hn
 case isFalse=>cases hn
 rename_i hL
 simp only [Bool.and_eq_true,beq_iff_eq] at hL
 obtain ⟨hl,hb,h1⟩:=Option.map_eq_some_iff.1 hn
 simp only [Prod.mk.injEq] at h1
 obtain ⟨rfl,rfl⟩:=h1
 obtain ⟨hlen,hget⟩:=blks_get hb
 generalize hE:esS false (s.cur.map (SV.map (ren L)))++(esSS (s.stk.map (List.map (SV.map (ren L))))++esB hl)=Es
 have hh:Holds Es r (envOf (Es.map (denA · r))):=by
  intro i x hi
  exact envOf_get (by simp [hi])
 have hall:Seg Es 0 Es:=Seg.all Es
 have s1:Seg Es 0 (esS false (s.cur.map (SV.map (ren L)))):=by rw [←hE] at hall ⊢;exact hall.left
 have s23:Seg Es (0+(esS false (s.cur.map (SV.map (ren L)))).length) (esSS (s.stk.map (List.map (SV.map (ren L))))++esB hl):=by rw [←hE] at hall ⊢;exact hall.right
 rw [Nat.zero_add] at s23
 have s2:=s23.left
 have s3:=s23.right
 have hpin:∀k,k<s.np→L[k]?=some k:=fun k hk=>take_range_get hL.2 hk
 have hlive:∀k:Nat,(L[k]?).isSome=true→((subB ((esS false (s.cur.map (SV.map (ren L)))).length+(esSS (s.stk.map (List.map (SV.map (ren L))))).length) hl)[k]?).isSome=true:=by
  intro k hk
  rw [isSome_getElem?] at hk ⊢
  rw [subB_len,hlen]
  simpa using hk
 have hheap:HeapEq (fun k=>L[k]?) r (envOf (Es.map (denA · r))) s.heap (NS.toSt ⟨subS false 0 (s.cur.map (SV.map (ren L))),subSS (esS false (s.cur.map (SV.map (ren L)))).length (s.stk.map (List.map (SV.map (ren L)))),subB ((esS false (s.cur.map (SV.map (ren L)))).length+(esSS (s.stk.map (List.map (SV.map (ren L))))).length) hl,s.np,s.kp⟩ b).heap:=by
  intro k B' hk
  simp only [NS.toSt] at hk
  obtain ⟨B,m,e1,rfl,e3⟩:=subB_get s3 hk
  have hk':k<L.length:=by rw [←hlen];exact (List.getElem?_eq_some_iff.1 e1).1
  obtain ⟨C,c1,c2⟩:=hget k L[k] (List.getElem?_eq_getElem hk')
  rw [c2] at e1
  cases e1
  have hk2:L[k]?=some L[k]:=List.getElem?_eq_getElem hk'
  simp only [hk2]
  exact ⟨C,c1,subB_ren hh e3⟩
 refine ⟨gren (fun k=>L[k]?) g,h.ren hheap ?_ ?_ ?_ ?_ h.world ?_ h.np h.kp ?_ ?_ ?_ ?_ ?_⟩
 ·intro k k' i _ _ e1 e2
  exact nodupB_inj hL.1 k k' i e1 e2
 ·exact h.cur.ren (fun b hb=>Mt_ren hheap hb) (subS_ren hh s1)
 ·exact h.stk.ren (fun b hb=>Mt_ren hheap hb) (subSS_ren hh s2)
 ·intro k B hk b' hb'
  obtain ⟨i,C,_,c1,c2⟩:=gren_foot hheap hk hb'
  exact h.own i C c1 b' c2
 ·intro k p hp hk
  rw [gren_some (hpin k hk)]
  exact h.pin k p hp hk
 ·intro c hc
  rw [gren_some (hpin c.1 (h.kpl c hc).1)]
  exact h.kept c hc
 ·intro c hc
  obtain ⟨h1,l,h2⟩:=h.kpl c hc
  refine ⟨h1,?_⟩
  obtain ⟨C,c1,c2⟩:=hget c.1 c.1 (hpin _ h1)
  rw [h2] at c1
  cases c1
  have hlt:c.1<(subB ((esS false (s.cur.map (SV.map (ren L)))).length+(esSS (s.stk.map (List.map (SV.map (ren L))))).length) hl).length:=by
   rw [subB_len];exact (List.getElem?_eq_some_iff.1 c2).1
  obtain ⟨B,m,e1,e2,e3⟩:=subB_get s3 (List.getElem?_eq_getElem hlt)
  rw [c2] at e1
  cases e1
  exact ⟨_,by simp only [NS.toSt];rw [List.getElem?_eq_getElem hlt,e2];rfl⟩
 ·exact subS_ok hlive s1
 ·exact subSS_ok hlive s2
 ·intro k B hk
  simp only [NS.toSt] at hk
  obtain ⟨B,m,e1,rfl,e3⟩:=subB_get s3 hk
  have hk':k<L.length:=by rw [←hlen];exact (List.getElem?_eq_some_iff.1 e1).1
  obtain ⟨C,c1,c2⟩:=hget k L[k] (List.getElem?_eq_getElem hk')
  rw [c2] at e1
  cases e1
  exact subB_ok hlive e3
end
end Go.Sm
namespace Go.Sm
set_option linter.unusedVariables false
set_option linter.unusedSimpArgs false
section
variable {bd:Bd} {N:Nat→Prop} {s:St} {r:Env} {g:Nat→G} {tm:Array Value} {st:List (Array Value)} {w:World}
theorem list_set_self {α:Type} {l:List α} {i:Nat} {a:α} (h:l[i]?=some a):l.set i a=l:=by
 apply List.ext_getElem?
 intro j
 rw [List.getElem?_set]
 split
 ·rename_i hij
  subst hij
  split
  ·exact h.symm
  ·rename_i hlt
   rw [List.getElem?_eq_none (by omega)]
 ·rfl
theorem R.reslot (h:R bd N s r g tm st w) {slot:Nat} {old new:SV} (ho:s.cur[slot]?=some old) (hn:∀v,tm.toList[slot]?=some v→SRep w (Mt bd.Z s.heap g) g r new v) (hk:new.all (Atom.ok N s.heap)) :
  R bd N { s with cur:=s.cur.set slot new } r g tm st w:=by
 obtain ⟨v,hv,hs⟩:=h.cur.get ho
 have h1:=h.cur.set (i:=slot) (hn v hv)
 rw [list_set_self hv] at h1
 refine h.slots (stk:=s.stk) h1 h.stk (fun u hu=>?_) h.nstk
 rcases List.mem_or_eq_of_mem_set hu with hu | rfl
 ·exact h.ncur u hu
 ·exact hk
theorem Mt_upd {h:Nat→Option Blk} {b:Nat} {B B':Blk} (hb:h b=some B):Mt bd.Z (upd h b (some B')) g=Mt bd.Z h g:=by
 funext x
 apply propext
 constructor
 ·rintro (⟨i,C,h1,h2⟩ | hz)
  ·by_cases hi:i=b
   ·subst hi;exact .inl ⟨i,B,hb,h2⟩
   ·simp only [upd,show (i==b)=false by simpa using hi,cond_false] at h1;exact .inl ⟨i,C,h1,h2⟩
  ·exact .inr hz
 ·rintro (⟨i,C,h1,h2⟩ | hz)
  ·by_cases hi:i=b
   ·subst hi;exact .inl ⟨i,B',by simp [upd],h2⟩
   ·exact .inl ⟨i,C,by simp only [upd,show (i==b)=false by simpa using hi,cond_false];exact h1,h2⟩
  ·exact .inr hz
theorem live_upd {h:Nat→Option Blk} {b:Nat} {B B':Blk} (hb:h b=some B) (i:Nat) (hi:(h i).isSome=true):(upd h b (some B') i).isSome=true:=by
 unfold upd
 cases hib:(i==b)
 ·simpa using hi
 ·simp
theorem Blk.ok_live {h h':Nat→Option Blk} (hh:∀i,(h i).isSome=true→(h' i).isSome=true) {B:Blk} (hB:B.ok N h):B.ok N h':=by
 cases B with
 | box l=>exact fun a ha=>Atom.ok_mono (fun _ h=>h) hh (hB a ha)
 | arr dp t e=>exact hB
 | hole t e k i j a=>exact ⟨hB.1,hB.2.1,Atom.ok_mono (fun _ h=>h) hh hB.2.2⟩
 | lent t e k i a=>exact ⟨hB.1,hB.2.1,Atom.ok_mono (fun _ h=>h) hh hB.2.2⟩
theorem R.reblk (h:R bd N s r g tm st w) {b:Nat} {B B':Blk} (hb:s.heap b=some B) (hB:BRep w (Mt bd.Z s.heap g) g r b B→BRep w (Mt bd.Z s.heap g) g r b B') (hok:B'.ok N s.heap) (hbox:∀l,B=.box l→∃l',B'=.box l') :
  R bd N { s with heap:=upd s.heap b (some B') } r g tm st w:=by
 have hM:=Mt_upd (bd:=bd) (g:=g) (B':=B') hb
 have hlive:=live_upd (B':=B') hb
 have old:∀i C,upd s.heap b (some B') i=some C→(i=b∧C=B')∨(i≠b∧s.heap i=some C):=by
  intro i C hi
  by_cases hib:i=b
  ·subst hib;simp [upd] at hi;exact .inl ⟨rfl,hi.symm⟩
  ·simp only [upd,show (i==b)=false by simpa using hib,cond_false] at hi;exact .inr ⟨hib,hi⟩
 have dom:∀i C,upd s.heap b (some B') i=some C→∃C',s.heap i=some C':=by
  intro i C hi
  rcases old i C hi with ⟨rfl,_⟩ | ⟨_,h1⟩
  ·exact ⟨B,hb⟩
  ·exact ⟨C,h1⟩
 exact
  {cur:=by simpa only [hM] using h.cur
   stk:=by simpa only [hM] using h.stk
   heap:=by
    intro i C hi
    simp only [hM]
    rcases old i C hi with ⟨rfl,rfl⟩ | ⟨_,h1⟩
    ·exact hB (h.heap i B hb)
    ·exact h.heap i C h1
   inj:=fun i j C D x hi hj=>by
    obtain ⟨C',h1⟩:=dom i C hi
    obtain ⟨D',h2⟩:=dom j D hj
    exact h.inj i j C' D' x h1 h2
   nodup:=fun i C hi=>by obtain ⟨C',h1⟩:=dom i C hi;exact h.nodup i C' h1
   own:=fun i C hi=>by obtain ⟨C',h1⟩:=dom i C hi;exact h.own i C' h1
   lt:=fun i C hi=>by obtain ⟨C',h1⟩:=dom i C hi;exact h.lt i C' h1
   world:=h.world,pin:=h.pin,np:=h.np,kp:=h.kp,kept:=h.kept
   kpl:=fun c hc=>by
    obtain ⟨h1,l,h2⟩:=h.kpl c hc
    refine ⟨h1,?_⟩
    by_cases hcb:c.1=b
    ·rw [hcb] at h2 ⊢
     rw [hb] at h2;cases h2
     obtain ⟨l',rfl⟩:=hbox l rfl
     exact ⟨l',by simp [upd]⟩
    ·exact ⟨l,by simp only [upd,show (c.1==b)=false by simpa using hcb,cond_false];exact h2⟩
   ncur:=fun v hv=>SV.all_mono (fun a ha=>Atom.ok_mono (fun _ h=>h) hlive ha) (h.ncur v hv)
   nstk:=fun f hf v hv=>SV.all_mono (fun a ha=>Atom.ok_mono (fun _ h=>h) hlive ha) (h.nstk f hf v hv)
   nheap:=fun i C hi=>by
    rcases old i C hi with ⟨rfl,rfl⟩ | ⟨_,h1⟩
    ·exact Blk.ok_live hlive hok
    ·exact Blk.ok_live hlive (h.nheap i C h1) }
theorem settle_ok (h:R bd N s r g tm st w) {i:Nat} {s':St} (hs:settle s i=some s'):R bd N s' r g tm st w:=by
 unfold settle at hs
 split at hs
 case h_2=>cases hs
 rename_i t e k ix t' v hid
 split at hs
 case isFalse=>cases hs
 rename_i ht
 subst ht
 simp only [Option.some.injEq] at hs
 subst hs
 refine h.reblk hid (fun hB=>?_) ?_ fun l hl=>(by cases hl)
 ·obtain ⟨v0,⟨c2,ov,xs,b1,b2,b3,b4,b5⟩,hav⟩:=hB
  have hds:(den (.o3 (.set t' k) e ix v) r:List t'.D)=(den e r:List t'.D).set (Int.toNat (den ix r)) (den v r):=den_set e ix v
  refine ⟨ov,xs,List.replicate (den e r:List t'.D).length [],?_,?_,?_,fun m hm=>?_⟩
  ·rw [hds,List.length_set];exact b1
  ·rw [b2,flatten_replicate_nil,List.append_nil]
  ·rw [hds,List.length_set,List.length_replicate]
  ·have hm':m<(den e r:List t'.D).length:=by rw [hds,List.length_set] at hm;exact hm
   by_cases hmn:m=Int.toNat (den ix r)
   ·subst hmn
    refine ⟨[v0],by rw [c2];rfl,fun j u hj=>?_,?_⟩
    ·cases j with
     | zero=>simp only [List.getElem?_cons_zero,Option.some.injEq] at hj;subst hj;rw [c2,Nat.mul_one,Nat.add_zero];exact b4
     | succ j=>simp at hj
    ·simp only [Row,Bool.false_eq_true,if_false]
     refine ⟨by simp [List.getD_eq_getElem?_getD,hm'],?_⟩
     have he:(den (.o3 (.set t' k) e ix v) r:List t'.D)[Int.toNat (den ix r)]=den v r:=by simp only [hds,List.getElem_set_self]
     rw [he]
     exact hav
   ·obtain ⟨us,a1,a2,a3⟩:=b5 m hm' hmn
    refine ⟨us,a1,a2,?_⟩
    simp only [Row,Bool.false_eq_true,if_false]
    refine ⟨by simp [List.getD_eq_getElem?_getD,hm'],?_⟩
    have he:(den (.o3 (.set t' k) e ix v) r:List t'.D)[m]=(den e r:List t'.D)[m]:=by simp only [hds];rw [List.getElem_set_ne (Ne.symm hmn)]
    rw [he]
    exact a3
 ·obtain ⟨n1,n2,n3⟩:=h.nheap _ _ hid
  exact ⟨n1,n2,n3⟩
theorem back_ok (h:R bd N s r g tm st w) {i:Nat} {s':St} (hs:back s i=some s'):∃g',R bd N s' r g' tm st w:=by
 unfold back at hs
 split at hs
 ·exact ⟨g,settle_ok (h.freeze _) hs⟩
 ·exact ⟨g,settle_ok h hs⟩
 ·exact unlend_ok (a:=⟨tm,[]⟩) h hs
 ·cases hs
theorem turnA_ok (h:R bd N s r g tm st w) {id:Nat} {a:Atom} {act:Trn} {s':St} {a':Option Atom} (ht:turnA s id a act=some (s',a')) (ha:a.ok N s.heap) :
  ∃g',R bd N s' r g' tm st w∧∀b,a'=some b→s'.cur=s.cur∧(∀i B,s.heap i=some B→s'.heap i=some B∧g' i=g i)∧b.ok N s'.heap∧∀v,ARep w (Mt bd.Z s.heap g) g r a v→ARep w (Mt bd.Z s'.heap g') g' r b v:=by
 unfold turnA at ht
 split at ht
 ·rename_i dp t
  split at ht
  ·split at ht
   case isFalse=>cases ht
   rename_i hf
   simp only [Option.some.injEq,Prod.mk.injEq] at ht
   obtain ⟨rfl,rfl⟩:=ht
   obtain ⟨hid,hnp⟩:=free_eq hf
   have hm:=h.made (w':=w) [] id (.arr dp t (.nil false t)) nilG hid hnp (fun k hk=>by cases hk) (fun _ _ _=>rfl)
    (fun M' _ _ _ _=>nil_rep (by simp) (by simp [den])) trivial (by simp [nilG]) (fun b hb=>by simp [nilG] at hb) (Nat.le_refl _) rfl rfl rfl
   refine ⟨_,hm,fun b hb=>?_⟩
   cases hb
   refine ⟨rfl,fun i B hi=>?_,by simp [Atom.ok,St.new,upd],fun v hv=>?_⟩
   ·have:i≠id:=by rintro rfl;rw [hid] at hi;cases hi
    exact ⟨by simp [St.new,upd,show (i==id)=false by simpa using this,hi,St.kills],by simp [this]⟩
   ·simp only [ARep] at hv ⊢
    subst hv
    simp [nilG]
  ·cases ht
 ·rename_i t
  split at ht
  ·simp only [Option.some.injEq,Prod.mk.injEq] at ht
   obtain ⟨rfl,rfl⟩:=ht
   refine ⟨g,h,fun b hb=>?_⟩
   cases hb
   refine ⟨rfl,fun i B hi=>⟨hi,rfl⟩,trivial,fun v hv=>?_⟩
   simp only [ARep] at hv ⊢
   subst hv
   exact ⟨none,0,rfl,Nat.le_refl _,fun h=>(by cases h),fun _=>rfl,fun p hp=>by cases hp⟩
  ·simp only [Option.some.injEq,Prod.mk.injEq] at ht
   obtain ⟨rfl,rfl⟩:=ht
   exact ⟨g,h.freeze _,fun b hb=>by cases hb⟩
  ·simp only [Option.some.injEq,Prod.mk.injEq] at ht
   obtain ⟨rfl,rfl⟩:=ht
   exact ⟨g,h.freeze _,fun b hb=>by cases hb⟩
  ·simp only [Option.some.injEq,Prod.mk.injEq] at ht
   obtain ⟨rfl,rfl⟩:=ht
   exact ⟨g,h.freeze _,fun b hb=>by cases hb⟩
  ·simp only [Option.some.injEq,Prod.mk.injEq] at ht
   obtain ⟨rfl,rfl⟩:=ht
   refine ⟨g,h,fun b hb=>?_⟩
   cases hb
   exact ⟨rfl,fun i B hi=>⟨hi,rfl⟩,ha,fun v hv=>hv.1⟩
  ·simp only [Option.some.injEq,Prod.mk.injEq] at ht
   obtain ⟨rfl,rfl⟩:=ht
   refine ⟨g,h,fun b hb=>?_⟩
   cases hb
   refine ⟨rfl,fun i B hi=>⟨hi,rfl⟩,ha,fun v hv=>?_⟩
   obtain ⟨x,cp,h1,h2,h3,h4,h5⟩:=hv
   exact ⟨x,cp,h1,h2,fun h=>(by cases h),h4,h5⟩
  ·cases ht
 ·split at ht
  ·rename_i i
   split at ht
   ·rename_i s2 hb
    simp only [Option.some.injEq,Prod.mk.injEq] at ht
    obtain ⟨rfl,rfl⟩:=ht
    obtain ⟨g',h2⟩:=back_ok h hb
    exact ⟨g',h2,fun b hb=>by cases hb⟩
   ·simp only [Option.some.injEq,Prod.mk.injEq] at ht
    obtain ⟨rfl,rfl⟩:=ht
    obtain ⟨g',h1,h2⟩:=h.shallow i
    exact ⟨g',h2,fun b hb=>by cases hb⟩
  ·cases ht
 ·split at ht
  ·simp only [Option.some.injEq,Prod.mk.injEq] at ht
   obtain ⟨rfl,rfl⟩:=ht
   refine ⟨g,h,fun b hb=>?_⟩
   cases hb
   refine ⟨rfl,fun i B hi=>⟨hi,rfl⟩,trivial,fun v hv=>?_⟩
   simp only [ARep] at hv ⊢
   subst hv
   exact ⟨none,0,rfl,Nat.le_refl _,fun _=>⟨fun _=>rfl,fun _=>rfl⟩,fun _=>rfl,fun p hp=>by cases hp⟩
  ·cases ht
 ·split at ht
  ·rename_i i
   split at ht
   ·rename_i s2 hb
    simp only [Option.some.injEq,Prod.mk.injEq] at ht
    obtain ⟨rfl,rfl⟩:=ht
    obtain ⟨g',h2⟩:=back_ok h hb
    exact ⟨g',h2,fun b hb=>by cases hb⟩
   ·cases ht
  ·cases ht
theorem cur_get {s:St} {slot:Nat} {v:SV} (h:s.cur.getD slot (.a .no)=v) (hv:v≠.a .no):s.cur[slot]?=some v:=by
 rw [List.getD_eq_getElem?_getD] at h
 cases hx:s.cur[slot]? with
 | none=>rw [hx] at h;exact (hv h.symm).elim
 | some y=>rw [hx] at h;simpa using h
theorem applyAct_ok (h:R bd N s r g tm st w) (id slot:Nat) (c:Option Nat) (act:Trn):∃g',R bd N (applyAct s id slot c act) r g' tm st w:=by
 unfold applyAct
 split
 ·split
  ·rename_i a hslot
   split
   ·rename_i s' a' ht
    have hne:(SV.a a)≠.a .no:=by
     intro he
     cases he
     unfold turnA at ht
     split at ht<;>cases ht
    have hg:=cur_get hslot hne
    obtain ⟨g',h1,h2⟩:=turnA_ok h ht (h.ncur _ (List.mem_of_getElem? hg))
    obtain ⟨e1,e2,e3,e4⟩:=h2 a' rfl
    refine ⟨g',h1.reslot (old:=.a a) (by rw [e1];exact hg) (fun v hv=>?_) e3⟩
    obtain ⟨v0,hv0,hs0⟩:=h.cur.get hg
    rw [hv0] at hv
    cases hv
    exact e4 _ hs0
   ·rename_i s' ht
    by_cases hne:(SV.a a)=.a .no
    ·cases hne
     unfold turnA at ht
     split at ht<;>cases ht
    ·have hg:=cur_get hslot hne
     obtain ⟨g',h1,_⟩:=turnA_ok h ht (h.ncur _ (List.mem_of_getElem? hg))
     exact ⟨g',h1⟩
   ·exact ⟨g,h⟩
  ·exact ⟨g,h⟩
 ·rename_i c
  split
  ·rename_i b l hbox
   have hb:s.heap b=some (.box l):=by
    unfold boxOf at hbox
    split at hbox
    ·split at hbox
     ·rename_i hh;simp only [Option.some.injEq,Prod.mk.injEq] at hbox;obtain ⟨rfl,rfl⟩:=hbox;exact hh
     ·cases hbox
    ·cases hbox
   have hatom:∀s' a',turnA s id (l.getD c .no) act=some (s',a')→l[c]?=some (l.getD c .no):=by
    intro s' a' ht
    rw [List.getD_eq_getElem?_getD] at ht ⊢
    cases hx:l[c]? with
    | none =>
     rw [hx] at ht
     simp only [Option.getD_none] at ht
     unfold turnA at ht
     split at ht<;>cases ht
    | some y=>rfl
   split
   ·rename_i s' a' ht
    have hl:=hatom _ _ ht
    obtain ⟨g',h1,h2⟩:=turnA_ok h ht (h.nheap b _ hb _ (List.mem_of_getElem? hl))
    obtain ⟨e1,e2,e3,e4⟩:=h2 a' rfl
    split
    ·rename_i l' hl'
     have:=(e2 b _ hb).1
     rw [this] at hl'
     cases hl'
     have hbrep:=h.heap b _ hb
     refine ⟨g',h1.reblk this (fun hB=>?_) ?_ fun l0 _=>⟨_,rfl⟩⟩
     ·obtain ⟨f1,cs,ty,f2,f3⟩:=hB
      obtain ⟨_,cs0,ty0,f20,f30⟩:=hbrep
      rw [(e2 b _ hb).2,f20] at f2
      cases f2
      refine ⟨f1,cs,ty,by rw [(e2 b _ hb).2];exact f20,?_⟩
      obtain ⟨v,hv,hs⟩:=f30.get hl
      have h3:=f3.set (i:=c) (e4 v hs)
      rwa [list_set_self hv] at h3
     ·intro x hx
      rcases List.mem_or_eq_of_mem_set hx with hx | rfl
      ·exact h1.nheap b _ this x hx
      ·exact e3
    ·exact ⟨g,h⟩
   ·rename_i s' ht
    have hl:=hatom _ _ ht
    obtain ⟨g',h1,_⟩:=turnA_ok h ht (h.nheap b _ hb _ (List.mem_of_getElem? hl))
    exact ⟨g',h1⟩
   ·exact ⟨g,h⟩
  ·exact ⟨g,h⟩
theorem applyActs_ok:∀{s:St} {g:Nat→G} (id:Nat) (l:List (Nat×Option Nat×Trn)),R bd N s r g tm st w→∃g',R bd N (applyActs s id l) r g' tm st w
 | s,g,id,[],h=>⟨g,h⟩
 | s,g,id,(slot,c,a)::l,h=>by
  obtain ⟨g',h'⟩:=applyAct_ok h id slot c a
  exact applyActs_ok (id+1) l h'
end
end Go.Sm
namespace Go.Sm
set_option linter.unusedVariables false
set_option linter.unusedSimpArgs false
theorem eqV_eq {t t':Ty} {e:E t} {e':E t'} (h:eqV e e'=true):(⟨t,e⟩:AE)=⟨t',e'⟩:=by
 unfold eqV at h
 split at h
 ·simp only [Bool.and_eq_true,decide_eq_true_eq] at h
  obtain ⟨rfl,rfl⟩:=h
  rfl
 ·cases h
theorem eqVL_eq {t t':Ty} {e:E t} {e':E t'} (h:eqVL e e'=true):(⟨t,e⟩:AE)=⟨t',e'⟩:=by
 unfold eqVL at h
 split at h
 ·simp only [Bool.and_eq_true,decide_eq_true_eq] at h
  obtain ⟨rfl,rfl⟩:=h
  rfl
 ·simp only [Bool.and_eq_true,decide_eq_true_eq] at h
  obtain ⟨rfl,rfl⟩:=h
  rfl
 ·simp only [beq_iff_eq] at h
  subst h
  rfl
 ·cases h
theorem eqA_eq {a b:Atom} (h:eqA a b=true):a=b:=by
 unfold eqA at h
 split at h
 ·rfl
 ·rfl
 ·rfl
 ·simp only [Bool.and_eq_true,decide_eq_true_eq] at h
  have:=eqVL_eq h.2
  cases this;rfl
 ·simp only [Bool.and_eq_true,decide_eq_true_eq] at h
  obtain ⟨rfl,h⟩:=h
  have:=eqV_eq h
  simp at this;rw [this]
 ·simp only [decide_eq_true_eq] at h;rw [h]
 ·simp only [Bool.and_eq_true,decide_eq_true_eq] at h;rw [h.1,h.2]
 ·simp only [Bool.and_eq_true,decide_eq_true_eq] at h
  obtain ⟨⟨⟨⟨rfl,rfl⟩,rfl⟩,h⟩,rfl⟩:=h
  have:=eqV_eq h
  simp at this;rw [this]
 ·simp only [Bool.and_eq_true,decide_eq_true_eq] at h
  obtain ⟨⟨⟨⟨⟨rfl,rfl⟩,h1⟩,rfl⟩,h⟩,rfl⟩:=h
  have h2:=eqV_eq h
  have h3:=eqV_eq h1
  simp at h2 h3;rw [h2,h3]
 ·simp only [Bool.and_eq_true,decide_eq_true_eq] at h;rw [h.1,h.2]
 ·simp only [Bool.and_eq_true,decide_eq_true_eq] at h
  obtain ⟨⟨⟨⟨rfl,rfl⟩,rfl⟩,h⟩,rfl⟩:=h
  have:=eqV_eq h
  simp at this;rw [this]
 ·simp only [Bool.and_eq_true,decide_eq_true_eq] at h
  obtain ⟨⟨⟨⟨⟨⟨⟨⟨rfl,rfl⟩,rfl⟩,h⟩,rfl⟩,rfl⟩,rfl⟩,h2⟩,rfl⟩:=h
  have h3:=eqV_eq h
  have h4:=eqV_eq h2
  simp at h3 h4;rw [h3,h4]
 ·simp only [Bool.and_eq_true,decide_eq_true_eq] at h
  obtain ⟨⟨⟨rfl,rfl⟩,h1⟩,h2⟩:=h
  have h3:=eqV_eq h1
  have h4:=eqV_eq h2
  simp at h3 h4;rw [h3,h4]
 ·cases h
theorem eqL_eq {α:Type} {p:α→α→Bool} (hp:∀a b,p a b=true→a=b):∀{l m:List α},eqL p l m=true→l=m
 | [],[],_=>rfl
 | a::l,b::m,h=>by
  simp only [eqL,Bool.and_eq_true] at h
  rw [hp a b h.1,eqL_eq hp h.2]
 | [],_::_,h=>by simp [eqL] at h
 | _::_,[],h=>by simp [eqL] at h
theorem eqSV_eq {a b:SV} (h:eqSV a b=true):a=b:=by
 unfold eqSV at h
 split at h
 ·rw [eqA_eq h]
 ·rw [eqL_eq (fun a b h=>eqA_eq h) h]
 ·rw [eqL_eq (fun c d h=>?_) h]
  simp only [Bool.and_eq_true,decide_eq_true_eq] at h
  exact Prod.ext h.1 (eqL_eq (fun a b h=>eqA_eq h) h.2)
 ·cases h
theorem eqB_eq {a b:Blk} (h:eqB a b=true):a=b:=by
 unfold eqB at h
 split at h
 ·rw [eqL_eq (fun a b h=>eqA_eq h) h]
 ·simp only [Bool.and_eq_true,decide_eq_true_eq] at h
  obtain ⟨⟨rfl,rfl⟩,h⟩:=h
  have:=eqV_eq h
  simp at this;rw [this]
 ·simp only [Bool.and_eq_true,decide_eq_true_eq] at h
  obtain ⟨⟨⟨⟨⟨rfl,h⟩,rfl⟩,h2⟩,rfl⟩,h5⟩:=h
  have h3:=eqV_eq h
  have h4:=eqV_eq h2
  simp at h3 h4;rw [h3,h4,eqA_eq h5]
 ·simp only [Bool.and_eq_true,decide_eq_true_eq] at h
  obtain ⟨⟨⟨⟨rfl,h⟩,rfl⟩,h2⟩,h5⟩:=h
  have h3:=eqV_eq h
  have h4:=eqV_eq h2
  simp at h3 h4;rw [h3,h4,eqA_eq h5]
 ·cases h
theorem NS.eq_eq {a b:NS} (h:a.eq b=true):a=b:=by
 cases a;cases b
 simp only [NS.eq,Bool.and_eq_true,decide_eq_true_eq] at h
 obtain ⟨⟨⟨⟨h1,h2⟩,h3⟩,rfl⟩,rfl⟩:=h
 rw [eqL_eq (fun a b h=>eqSV_eq h) h1,eqL_eq (fun a b h=>eqL_eq (fun a b h=>eqSV_eq h) h) h2,eqL_eq (fun a b h=>eqB_eq h) h3]
theorem sub_len {a:Atom} {b:Bool} {n:Nat}:((a.sub b n).es b).length=(a.es b).length:=by
 cases a<;>simp only [Atom.sub,Atom.es]<;>try rfl
 rename_i t e
 by_cases hb:(b&&isLit e)=true
 ·rw [if_pos hb]
 ·rw [if_neg hb,if_neg hb]
  simp only [isLit,Bool.and_false,Bool.false_eq_true,if_false]
  rfl
theorem subL_len {b:Bool}:∀{l:List Atom} {n:Nat},(esL b (subL b n l)).length=(esL b l).length
 | [],_=>rfl
 | a::l,n=>by simp only [subL,esL,List.length_append,sub_len,subL_len]
theorem subC_len {b:Bool}:∀{l:List (Bool×List Atom)} {n:Nat},(esC b (subC b n l)).length=(esC b l).length
 | [],_=>rfl
 | a::l,n=>by simp only [subC,esC,List.length_append,subL_len,subC_len]
theorem subV_len {b:Bool} {v:SV} {n:Nat}:((v.sub b n).es b).length=(v.es b).length:=by
 cases v<;>simp only [SV.sub,SV.es,sub_len,subL_len,subC_len]
theorem subS_len {b:Bool}:∀{l:List SV} {n:Nat},(esS b (subS b n l)).length=(esS b l).length
 | [],_=>rfl
 | a::l,n=>by simp only [subS,esS,List.length_append,subV_len,subS_len]
theorem subSS_len:∀{l:List (List SV)} {n:Nat},(esSS (subSS n l)).length=(esSS l).length
 | [],_=>rfl
 | a::l,n=>by simp only [subSS,esSS,List.length_append,subS_len,subSS_len]
theorem subBk_len {B:Blk} {n:Nat}:(B.sub n).es.length=B.es.length:=by
 cases B<;>simp only [Blk.sub,Blk.es,subL_len,List.length_append,sub_len]<;>rfl
theorem subBs_len:∀{l:List Blk} {n:Nat},(esB (subB n l)).length=(esB l).length
 | [],_=>rfl
 | a::l,n=>by simp only [subB,esB,List.length_append,subBk_len,subBs_len]
theorem norm_len {s:St} {vs:List AE} {n:NS} (hn:norm s=some (vs,n)):vs.length≤n.base:=by
 unfold norm at hn
 simp only at hn
 split at hn
 case isFalse=>cases hn
 obtain ⟨hl,hb,h1⟩:=Option.map_eq_some_iff.1 hn
 simp only [Prod.mk.injEq] at h1
 obtain ⟨rfl,rfl⟩:=h1
 simp only [NS.base,subS_len,subSS_len,subBs_len,List.length_append]
 omega
section
variable {K:Sem1} {m:Nat}
def Turned (h:Hint) (k:Nat) (T:NS) (d:Nat) (out out':Out):Prop :=
 match out with
 | .leaf .normal s r=>∃vs,meetAt h k s=some (vs,T)∧out'=.jump d (vs.map (denA · r))
 | o=>out'=o
theorem loopN_turn {h:Hint} {k:Nat} {T:NS} {t:Tr} {d:Nat} (ih:∀r out',run K m (t.toJumps h k T (d+1)) r=some out'→∃out,run K m t r=some out∧Turned h k T (d+1) out out') :
  ∀(n:Nat) (vs:List AV) (out':Out),loopN (run K m (t.toJumps h k T (d+1))) n vs=some out'→∃out,loopN (run K m t) n vs=some out∧Turned h k T d out out'
 | 0,_,_,h=>by simp only [loopN] at h;cases h
 | n+1,vs,out',h=>by
  simp only [loopN] at h ⊢
  split at h
  ·rename_i us hr
   obtain ⟨out,h1,h2⟩:=ih _ _ hr
   unfold Turned at h2
   split at h2
   ·obtain ⟨_,_,h3⟩:=h2;cases h3
   ·subst h2;rw [h1];exact loopN_turn ih n us out' h
  ·rename_i l us hr
   cases h
   obtain ⟨out,h1,h2⟩:=ih _ _ hr
   unfold Turned at h2
   split at h2
   ·rename_i s r
    obtain ⟨ws,h3,h4⟩:=h2
    cases h4
    rw [h1]
    exact ⟨.leaf .normal s r,rfl,ws,h3,rfl⟩
   ·subst h2;rw [h1];exact ⟨.jump l us,rfl,rfl⟩
  ·rename_i x s r hr
   cases h
   obtain ⟨out,h1,h2⟩:=ih _ _ hr
   unfold Turned at h2
   split at h2
   ·obtain ⟨_,_,h3⟩:=h2;cases h3
   ·rename_i hne
    subst h2
    rw [h1]
    refine ⟨.leaf x s r,rfl,?_⟩
    unfold Turned
    split
    ·rename_i heq;exact (hne _ _ heq).elim
    ·rfl
  ·rename_i us hr
   cases h
   obtain ⟨out,h1,h2⟩:=ih _ _ hr
   unfold Turned at h2
   split at h2
   ·obtain ⟨_,_,h3⟩:=h2;cases h3
   ·subst h2;rw [h1];exact ⟨.ret us,rfl,rfl⟩
  ·cases h
theorem toJumps_ok {h:Hint} {k:Nat} {T:NS}:∀(t:Tr) (d:Nat) (r:Env) (out':Out),run K m (t.toJumps h k T d) r=some out'→∃out,run K m t r=some out∧Turned h k T d out out'
 | .leaf x s,d,r,out',hr=>by
  unfold Tr.toJumps at hr
  split at hr
  ·rename_i d s heq
   cases heq
   split at hr
   ·rename_i vs n hm
    split at hr
    ·rename_i hn
     simp only [run] at hr
     cases hr
     exact ⟨_,rfl,vs,by rw [hm,NS.eq_eq hn],rfl⟩
    ·simp only [run] at hr;cases hr
   ·simp only [run] at hr;cases hr
  ·rename_i x s hne heq
   cases heq
   simp only [run] at hr
   cases hr
   refine ⟨.leaf x s r,rfl,?_⟩
   unfold Turned
   split
   ·rename_i heq;cases heq;exact (hne rfl).elim
   ·rfl
  all_goals (rename_i heq;cases heq)
 | .bad,d,r,out',hr=>by simp only [Tr.toJumps,run] at hr;cases hr
 | .ite c a b,d,r,out',hr=>by
  simp only [Tr.toJumps,run] at hr ⊢
  split at hr
  ·rename_i hc;simp only [hc,if_true];exact toJumps_ok a d r out' hr
  ·rename_i hc;simp only [hc,if_false,Bool.false_eq_true];exact toJumps_ok b d r out' hr
 | .guard c t,d,r,out',hr=>by
  simp only [Tr.toJumps,run] at hr ⊢
  split at hr
  ·rename_i hc;simp only [hc,if_true];exact toJumps_ok t d r out' hr
  ·cases hr
 | .call g ins b t,d,r,out',hr=>by
  simp only [Tr.toJumps,run] at hr ⊢
  split at hr
  ·exact toJumps_ok t d _ out' hr
  ·cases hr
 | .jump l vs,d,r,out',hr=>by
  simp only [Tr.toJumps,run] at hr ⊢
  cases hr
  exact ⟨_,rfl,rfl⟩
 | .ret vs,d,r,out',hr=>by
  simp only [Tr.toJumps,run] at hr ⊢
  cases hr
  exact ⟨_,rfl,rfl⟩
 | .join t u,d,r,out',hr=>by
  simp only [Tr.toJumps,run] at hr ⊢
  split at hr
  ·rename_i us hr'
   obtain ⟨out,h1,h2⟩:=toJumps_ok t (d+1) _ _ hr'
   unfold Turned at h2
   split at h2
   ·obtain ⟨_,_,h3⟩:=h2;cases h3
   ·subst h2;rw [h1];exact toJumps_ok u d _ _ hr
  ·rename_i l us hr'
   cases hr
   obtain ⟨out,h1,h2⟩:=toJumps_ok t (d+1) _ _ hr'
   unfold Turned at h2
   split at h2
   ·rename_i s r
    obtain ⟨ws,h3,h4⟩:=h2
    cases h4
    rw [h1]
    exact ⟨.leaf .normal s r,rfl,ws,h3,rfl⟩
   ·subst h2;rw [h1];exact ⟨.jump l us,rfl,rfl⟩
  ·rename_i x s r hr'
   cases hr
   obtain ⟨out,h1,h2⟩:=toJumps_ok t (d+1) _ _ hr'
   unfold Turned at h2
   split at h2
   ·obtain ⟨_,_,h3⟩:=h2;cases h3
   ·rename_i hne
    subst h2
    rw [h1]
    refine ⟨.leaf x s r,rfl,?_⟩
    unfold Turned
    split
    ·rename_i heq;exact (hne _ _ heq).elim
    ·rfl
  ·rename_i us hr'
   cases hr
   obtain ⟨out,h1,h2⟩:=toJumps_ok t (d+1) _ _ hr'
   unfold Turned at h2
   split at h2
   ·obtain ⟨_,_,h3⟩:=h2;cases h3
   ·subst h2;rw [h1];exact ⟨.ret us,rfl,rfl⟩
  ·cases hr
 | .loop i b,d,r,out',hr=>by
  simp only [Tr.toJumps,run] at hr ⊢
  exact loopN_turn (fun r out' h=>toJumps_ok b (d+1) r out' h) m _ out' hr
end
end Go.Sm
namespace Go.Sm
set_option linter.unusedVariables false
set_option linter.unusedSimpArgs false
def Rel (l:List (Nat×Nat×Nat)) (r r':Env):Prop:=∀i j,alV l i j=true→r i=r' j
theorem rel_nil (r:Env):Rel [] r r:=fun i j h=>by
 simp only [alV,decide_eq_true_eq] at h
 rw [h]
theorem rel_eq {r r':Env} (h:Rel [] r r'):r=r':=funext fun i=>h i i (by simp [alV])
theorem rel_put {l:List (Nat×Nat×Nat)} {r r':Env} (h:Rel l r r') {a b:Nat} {vs:List AV}:Rel (pushL a b vs.length l) (putN r a vs) (putN r' b vs):=by
 unfold pushL
 by_cases h0:vs.length=0
 ·rw [if_pos h0,List.eq_nil_of_length_eq_zero h0]
  have e:∀(r:Env) (a:Nat),putN r a []=r:=fun r a=>by
   funext i
   simp only [putN]
   split
   ·rfl
   ·rw [if_neg (by simp)]
  rw [e,e]
  exact h
 rw [if_neg h0]
 intro i j hij
 simp only [alV] at hij
 rw [if_neg h0] at hij
 by_cases h1:a≤i∧i<a+vs.length
 ·rw [if_pos h1] at hij
  simp only [decide_eq_true_eq] at hij
  subst hij
  simp only [putN]
  rw [if_neg (by omega),if_pos (by omega),if_neg (by omega),if_pos (by omega)]
  congr 1
  omega
 ·rw [if_neg h1] at hij
  by_cases h2:b≤j∧j<b+vs.length
  ·rw [if_pos h2] at hij;cases hij
  ·rw [if_neg h2] at hij
   have:=h i j hij
   simp only [putN]
   have e1:(if i<a then r i else if i - a<vs.length then vs.getD (i - a) dflt else r i)=r i:=by
    by_cases h3:i<a
    ·rw [if_pos h3]
    ·rw [if_neg h3,if_neg (by omega)]
   have e2:(if j<b then r' j else if j - b<vs.length then vs.getD (j - b) dflt else r' j)=r' j:=by
    by_cases h3:j<b
    ·rw [if_pos h3]
    ·rw [if_neg h3,if_neg (by omega)]
   rw [e1,e2,this]
theorem alO2_den {a b c a' b' c':Ty} (o:O2 a b c) (p:O2 a' b' c') (h:alO2 o p=true) (x:a.D) (y:a'.D) (hxy:(⟨a,x⟩:AV)=⟨a',y⟩) (u:b.D) (v:b'.D) (huv:(⟨b,u⟩:AV)=⟨b',v⟩) :
  (⟨c,o.d x u⟩:AV)=⟨c',p.d y v⟩:=by
 by_cases h0:eqO2 o p=true
 ·exact eqO2_den o p h0 x y hxy u v huv
 cases o<;>cases p<;>simp only [alO2,h0,Bool.and_eq_true,decide_eq_true_eq,Bool.false_eq_true] at h <;>
  first
  | exact h.elim
  | (subst h;cases hxy;cases huv;rfl)
  | (obtain ⟨rfl,rfl⟩:=h;cases hxy;cases huv;rfl)
  | (obtain ⟨⟨rfl,rfl⟩,rfl⟩:=h;cases hxy;cases huv;rfl)
  | (cases hxy;cases huv;rfl)
theorem alO3_den {a b c d a' b' c' d':Ty} (o:O3 a b c d) (p:O3 a' b' c' d') (h:alO3 o p=true) (x:a.D) (y:a'.D) (hxy:(⟨a,x⟩:AV)=⟨a',y⟩) (u:b.D) (v:b'.D) (huv:(⟨b,u⟩:AV)=⟨b',v⟩)
  (e:c.D) (f:c'.D) (hef:(⟨c,e⟩:AV)=⟨c',f⟩):(⟨d,o.d x u e⟩:AV)=⟨d',p.d y v f⟩:=by
 cases o<;>cases p<;>simp only [alO3,Bool.and_eq_true,decide_eq_true_eq,Bool.false_eq_true] at h <;>
  first
  | (subst h;cases hxy;cases huv;cases hef;rfl)
  | (obtain ⟨rfl,rfl⟩:=h;cases hxy;cases huv;cases hef;rfl)
section
variable {l:List (Nat×Nat×Nat)} {r r':Env}
theorem alE_den (hr:Rel l r r'):∀{t t':Ty} (x:E t) (y:E t'),alE l x y=true→(⟨t,den x r⟩:AV)=⟨t',den y r'⟩:=by
 intro t t' x
 induction x generalizing t' with
 | var t i =>
  intro y h
  cases y<;>simp only [alE,Bool.and_eq_true,decide_eq_true_eq,Bool.false_eq_true] at h
  obtain ⟨rfl,h⟩:=h
  simp only [den,hr _ _ h]
 | int k n=>intro y h;cases y<;>simp only [alE,Bool.and_eq_true,decide_eq_true_eq,Bool.false_eq_true] at h;obtain ⟨rfl,rfl⟩:=h;rfl
 | bool b=>intro y h;cases y<;>simp only [alE,beq_iff_eq,Bool.false_eq_true] at h;subst h;rfl
 | str b=>intro y h;cases y<;>simp only [alE,decide_eq_true_eq,Bool.false_eq_true] at h;subst h;rfl
 | nil c e=>intro y h;cases y<;>simp only [alE,Bool.and_eq_true,decide_eq_true_eq,Bool.false_eq_true] at h;obtain ⟨rfl,rfl⟩:=h;rfl
 | z t=>intro y h;cases y<;>simp only [alE,decide_eq_true_eq,Bool.false_eq_true] at h;subst h;rfl
 | o1 o x ih =>
  intro y h
  cases y<;>simp only [alE,Bool.and_eq_true,Bool.false_eq_true] at h
  exact eqO1_den o _ h.1 _ _ (ih _ h.2)
 | o2 o x y ihx ihy =>
  intro z h
  cases z<;>simp only [alE,Bool.and_eq_true,Bool.false_eq_true] at h
  exact alO2_den o _ h.1.1 _ _ (ihx _ h.1.2) _ _ (ihy _ h.2)
 | o3 o x y z ihx ihy ihz =>
  intro u h
  cases u<;>simp only [alE,Bool.and_eq_true,Bool.false_eq_true] at h
  exact alO3_den o _ h.1.1.1 _ _ (ihx _ h.1.1.2) _ _ (ihy _ h.1.2) _ _ (ihz _ h.2)
theorem set_swap {α:Type} (l:List α) (i j:Nat) (u:α):(l.set i u).set j u=(l.set j u).set i u:=by
 by_cases h:i=j
 ·rw [h]
 ·exact List.set_comm u u h
theorem asSet_den {a:Ty} {e:E a} {p:SetV} (h:asSet e=some p) (r:Env):(⟨a,den e r⟩:AV)=⟨.sl false p.t,List.set (α:=p.t.D) (den p.x r) (Int.toNat (den p.i r)) (den p.u r)⟩:=by
 unfold asSet at h
 split at h
 case h_2=>cases h
 cases h
 rfl
theorem asSet_ty {t:Ty} {e:E (.sl false t)} {p:SetV} (h:asSet e=some p):p.t=t:=by
 have:=congrArg Sigma.fst (asSet_den h (fun _=>dflt))
 simp at this
 exact this.symm
theorem swapE_den (hr:Rel l r r') {t t':Ty} (x:E t) (y:E t') (h:swapE l x y=true):(⟨t,den x r⟩:AV)=⟨t',den y r'⟩:=by
 unfold swapE at h
 split at h
 case h_2=>cases h
 rename_i p q hp hq
 split at h
 case h_2=>cases h
 rename_i p' q' hp' hq'
 simp only [Bool.and_eq_true,decide_eq_true_eq] at h
 obtain ⟨⟨⟨⟨⟨⟨h0,hx⟩,hi⟩,hj⟩,h1⟩,h2⟩,h3⟩:=h
 rw [asSet_den hp r,asSet_den hq r']
 have f1:=asSet_den hp' r
 have f2:=asSet_den hq' r'
 have t1:=asSet_ty hp'
 have t2:=asSet_ty hq'
 clear hp hq hp' hq'
 obtain ⟨tp,kp,xp,ip,up⟩:=p
 obtain ⟨tq,kq,xq,iq,uq⟩:=q
 obtain ⟨tp',kp',xp',ip',up'⟩:=p'
 obtain ⟨tq',kq',xq',iq',uq'⟩:=q'
 simp only at h0 hx hi hj h1 h2 h3 f1 f2 t1 t2 ⊢
 subst h0;subst t1;subst t2
 have ex:=alE_den hr _ _ hx
 have e1:=alE_den hr _ _ h1
 have e2:=alE_den hr _ _ h2
 have e3:=alE_den hr _ _ h3
 have nI:∀{k k':IntKind} {x:Int} {y:Int},((⟨.int k,x⟩:AV)=⟨.int k',y⟩)→x=y:=by
  intro k k' x y hxy;cases hxy;rfl
 have ei:=congrArg Int.toNat (nI (alE_den hr _ _ hi))
 have ej:=congrArg Int.toNat (nI (alE_den hr _ _ hj))
 simp only [Sigma.mk.injEq,heq_eq_eq,true_and] at ex e1 e2 e3 f1 f2 ⊢
 rw [f1,f2,ex,ei,ej,e2,e3,←e1,e3]
 exact set_swap _ _ _ _
theorem alA_den (hr:Rel l r r') {a b:AE} (h:alA l a b=true):denA a r=denA b r':=by
 simp only [alA,Bool.or_eq_true] at h
 rcases h with h | h
 ·exact alE_den hr _ _ h
 ·exact swapE_den hr _ _ h
theorem alAs_den (hr:Rel l r r'):∀{as bs:List AE},eqL (alA l) as bs=true→as.map (denA · r)=bs.map (denA · r')
 | [],[],_=>rfl
 | a::as,b::bs,h=>by
  simp only [eqL,Bool.and_eq_true] at h
  simp only [List.map_cons,alA_den hr h.1,alAs_den hr h.2]
 | [],_::_,h=>by simp [eqL] at h
 | _::_,[],h=>by simp [eqL] at h
end
def OR:Out→Out→Prop
 | .leaf x _ r,.leaf x' _ r'=>x=x'∧r=r'
 | .jump l us,.jump l' us'=>l=l'∧us=us'
 | .ret us,.ret us'=>us=us'
 | _,_=>False
theorem loopN_al {f f':Env→Option Out} (h:∀r out,f r=some out→∃out',f' r=some out'∧OR out out'):∀(n:Nat) (vs:List AV) (out:Out),loopN f n vs=some out→∃out',loopN f' n vs=some out'∧OR out out'
 | 0,_,_,hl=>by simp only [loopN] at hl;cases hl
 | n+1,vs,out,hl=>by
  simp only [loopN] at hl ⊢
  split at hl
  ·rename_i us hr
   obtain ⟨o,h1,h2⟩:=h _ _ hr
   cases o<;>simp only [OR] at h2
   obtain ⟨rfl,rfl⟩:=h2
   rw [h1]
   exact loopN_al h n us out hl
  ·rename_i k us hr
   cases hl
   obtain ⟨o,h1,h2⟩:=h _ _ hr
   cases o<;>simp only [OR] at h2
   obtain ⟨rfl,rfl⟩:=h2
   rw [h1]
   exact ⟨_,rfl,rfl,rfl⟩
  ·rename_i x s r hr
   cases hl
   obtain ⟨o,h1,h2⟩:=h _ _ hr
   cases o<;>simp only [OR] at h2
   obtain ⟨rfl,rfl⟩:=h2
   rw [h1]
   exact ⟨_,rfl,rfl,rfl⟩
  ·rename_i us hr
   cases hl
   obtain ⟨o,h1,h2⟩:=h _ _ hr
   cases o<;>simp only [OR] at h2
   subst h2
   rw [h1]
   exact ⟨_,rfl,rfl⟩
  ·cases hl
theorem noV_den {b:Nat} {vs:List AV} {r:Env}:∀{t:Ty} (e:E t),e.noV b vs.length=true→den e (putN r b vs)=den e r:=by
 intro t e
 induction e with
 | var t i =>
  intro h
  simp only [E.noV,Bool.not_eq_true',Bool.and_eq_false_iff,decide_eq_false_iff_not] at h
  simp only [den,putN]
  by_cases h1:i<b
  ·rw [if_pos h1]
  ·rw [if_neg h1,if_neg (by omega)]
 | o1 o x ih=>intro h;simp only [den,ih h]
 | o2 o x y ihx ihy=>intro h;simp only [E.noV,Bool.and_eq_true] at h;simp only [den,ihx h.1,ihy h.2]
 | o3 o x y z ihx ihy ihz=>intro h;simp only [E.noV,Bool.and_eq_true] at h;simp only [den,ihx h.1.1,ihy h.1.2,ihz h.2]
 | _=>intro _;simp only [den]
theorem spineG_ok {c:Cx} {K:Sem1} {m:Nat} (hlen:LenOK c K):∀(t:Tr) (r:Env) (out:Out),run K m t r=some out→∀e∈spineG c t,den e r=true:=by
 intro t
 induction t with
 | guard c1 t ih =>
  intro r out h e he
  simp only [run] at h
  split at h
  ·rename_i hc
   rcases List.mem_cons.1 he with rfl | he
   ·exact hc
   ·exact ih r out h e he
  ·cases h
 | call f ins b t ih =>
  intro r out h e he
  simp only [run] at h
  split at h
  case h_2=>cases h
  rename_i vs hv
  simp only [spineG] at he
  split at he
  ·rename_i g hg
   obtain ⟨h1,h2⟩:=List.mem_filter.1 he
   rw [←hlen f g _ _ hg hv] at h2
   rw [←noV_den e h2 (r:=r)]
   exact ih _ out h e h1
  ·cases he
 | _=>intro r out h e he;cases he
theorem stripG_ok {K:Sem1} {m:Nat} {l:List (Nat×Nat×Nat)} {r r':Env} (hr:Rel l r r') {gs:List (E .bool)} (hg:∀e∈gs,den e r=true):∀(t':Tr),run K m t' r'=run K m (stripG l gs t') r':=by
 intro t'
 induction t' with
 | guard e t ih =>
  simp only [stripG]
  cases hc:gs.any fun g=>alE l g e
  ·rfl
  ·obtain ⟨g,h1,h2⟩:=List.any_eq_true.1 hc
   have h3:=alE_den hr _ _ h2
   simp only [Sigma.mk.injEq,heq_eq_eq,true_and] at h3
   simp only [cond_true,run]
   rw [←h3,hg g h1,if_pos rfl]
   exact ih
 | _=>rfl
theorem alT_ok {c:Cx} {K:Sem1} {m:Nat} (hlen:LenOK c K):∀(t t':Tr) (l:List (Nat×Nat×Nat)) (gs:List (E .bool)) (r r':Env) (out:Out),alT c l gs t t'=true→Rel l r r'→(∀e∈gs,den e r=true)→run K m t r=some out→∃out',run K m t' r'=some out'∧OR out out':=by
 intro t
 induction t with
 | leaf x s =>
  intro t' l gs r r' out h hr hgs hrun
  simp only [alT] at h
  rw [stripG_ok hr hgs t']
  split at h
  case h_2=>cases h
  rename_i x' s' he
  rw [he]
  simp only [Bool.and_eq_true,List.isEmpty_iff,decide_eq_true_eq] at h
  obtain ⟨rfl,rfl⟩:=h
  simp only [run] at hrun ⊢
  cases hrun
  exact ⟨_,rfl,rfl,rel_eq hr⟩
 | bad=>intro t' l gs r r' out h hr hgs hrun;simp only [run] at hrun;cases hrun
 | ite c1 a b iha ihb =>
  intro t' l gs r r' out h hr hgs hrun
  simp only [alT] at h
  rw [stripG_ok hr hgs t']
  split at h
  case h_2=>cases h
  rename_i c2 a' b' he
  rw [he]
  simp only [Bool.and_eq_true] at h
  obtain ⟨⟨h1,h2⟩,h3⟩:=h
  have hc:=alE_den hr _ _ h1
  simp only [Sigma.mk.injEq,heq_eq_eq,true_and] at hc
  simp only [run] at hrun ⊢
  rw [←hc]
  split at hrun
  ·rename_i hh;simp only [hh,if_true];exact iha _ _ _ _ _ _ h2 hr hgs hrun
  ·rename_i hh;simp only [hh,if_false,Bool.false_eq_true];exact ihb _ _ _ _ _ _ h3 hr hgs hrun
 | guard c1 t ih =>
  intro t' l gs r r' out h hr hgs hrun
  simp only [alT] at h
  simp only [run] at hrun
  split at hrun
  ·rename_i hh
   refine ih _ _ _ _ _ _ h hr (fun e he=>?_) hrun
   rcases List.mem_cons.1 he with rfl | he
   ·exact hh
   ·exact hgs e he
  ·cases hrun
 | call f ins b t ih =>
  intro t' l gs r r' out h hr hgs hrun
  simp only [alT] at h
  split at h
  case h_2=>cases h
  rename_i g hg
  have hsp:=spineG_ok hlen (.call f ins b t) r out hrun
  simp only [spineG,hg] at hsp
  rw [stripG_ok hr (gs:=gs++(spineG c t).filter fun e=>e.noV b g.outs) (fun e he=>by
   rcases List.mem_append.1 he with he | he
   ·exact hgs e he
   ·exact hsp e he) t']
  split at h
  case h_2=>cases h
  rename_i f' ins' b' t'' he
  rw [he]
  simp only [Bool.and_eq_true,decide_eq_true_eq] at h
  obtain ⟨⟨rfl,h2⟩,h3⟩:=h
  simp only [run] at hrun ⊢
  rw [←alAs_den hr h2]
  split at hrun
  case h_2=>cases hrun
  rename_i vs hv
  rw [←hlen f g _ _ hg hv] at h3
  refine ih _ _ _ _ _ _ h3 (rel_put hr) (fun e he=>?_) hrun
  obtain ⟨h4,h5⟩:=List.mem_filter.1 he
  rw [noV_den e h5]
  exact hgs e h4
 | jump n vs =>
  intro t' l gs r r' out h hr hgs hrun
  simp only [alT] at h
  rw [stripG_ok hr hgs t']
  split at h
  case h_2=>cases h
  rename_i n' vs' he
  rw [he]
  simp only [Bool.and_eq_true,decide_eq_true_eq] at h
  obtain ⟨rfl,h2⟩:=h
  simp only [run] at hrun ⊢
  cases hrun
  exact ⟨_,rfl,rfl,alAs_den hr h2⟩
 | ret vs =>
  intro t' l gs r r' out h hr hgs hrun
  simp only [alT] at h
  rw [stripG_ok hr hgs t']
  split at h
  case h_2=>cases h
  rename_i vs' he
  rw [he]
  simp only [run] at hrun ⊢
  cases hrun
  exact ⟨_,rfl,alAs_den hr h⟩
 | join t k iht ihk =>
  intro t' l gs r r' out h hr hgs hrun
  simp only [alT] at h
  rw [stripG_ok hr hgs t']
  split at h
  case h_2=>cases h
  rename_i t'' k' he
  rw [he]
  simp only [Bool.and_eq_true] at h
  simp only [run] at hrun ⊢
  split at hrun
  ·rename_i us hh
   obtain ⟨o,h1,h2⟩:=iht _ _ _ _ _ _ h.1 hr hgs hh
   cases o<;>simp only [OR] at h2
   obtain ⟨rfl,rfl⟩:=h2
   rw [h1]
   exact ihk _ _ _ _ _ _ h.2 (rel_nil _) (fun e he=>by cases he) hrun
  ·rename_i n us hh
   cases hrun
   obtain ⟨o,h1,h2⟩:=iht _ _ _ _ _ _ h.1 hr hgs hh
   cases o<;>simp only [OR] at h2
   obtain ⟨rfl,rfl⟩:=h2
   rw [h1]
   exact ⟨_,rfl,rfl,rfl⟩
  ·rename_i x s r1 hh
   cases hrun
   obtain ⟨o,h1,h2⟩:=iht _ _ _ _ _ _ h.1 hr hgs hh
   cases o<;>simp only [OR] at h2
   obtain ⟨rfl,rfl⟩:=h2
   rw [h1]
   exact ⟨_,rfl,rfl,rfl⟩
  ·rename_i us hh
   cases hrun
   obtain ⟨o,h1,h2⟩:=iht _ _ _ _ _ _ h.1 hr hgs hh
   cases o<;>simp only [OR] at h2
   subst h2
   rw [h1]
   exact ⟨_,rfl,rfl⟩
  ·cases hrun
 | loop i b ih =>
  intro t' l gs r r' out h hr hgs hrun
  simp only [alT] at h
  rw [stripG_ok hr hgs t']
  split at h
  case h_2=>cases h
  rename_i i' b' he
  rw [he]
  simp only [Bool.and_eq_true] at h
  simp only [run] at hrun ⊢
  rw [←alAs_den hr h.1]
  exact loopN_al (fun r out hh=>ih _ _ _ _ _ _ h.2 (rel_nil r) (fun e he=>by cases he) hh) m _ out hrun
def RelS:Option (List Nat)→List AV→List AV→Prop
 | none,us,us'=>us=us'
 | some q,us,us'=>us.map some=q.map fun k=>us'[k]?
theorem selQ_rel {l:List (Nat×Nat×Nat)} {r r':Env} (hr:Rel l r r'):∀{vs:List AE} {q:List Nat} {vs':List AE},selQ l vs q vs'=true→(vs.map (denA · r)).map some=q.map fun k=>(vs'.map (denA · r'))[k]?
 | [],[],_,_=>rfl
 | v::vs,k::q,vs',h=>by
  simp only [selQ,Bool.and_eq_true] at h
  obtain ⟨h1,h2⟩:=h
  split at h1
  case h_2=>cases h1
  rename_i v' hv
  have h3:=selQ_rel hr h2
  simp only [List.map_cons,h3,List.getElem?_map,hv,Option.map_some,alA_den hr h1]
 | [],_::_,_,h=>by simp [selQ] at h
 | _::_,[],_,h=>by simp [selQ] at h
theorem selOk_rel {l:List (Nat×Nat×Nat)} {r r':Env} (hr:Rel l r r') {q:Option (List Nat)} {vs vs':List AE} (h:selOk l q vs vs'=true):RelS q (vs.map (denA · r)) (vs'.map (denA · r')):=by
 cases q with
 | none=>exact alAs_den hr h
 | some q=>exact selQ_rel hr h
theorem mapL_rel {r r':Env}:∀{q:List Nat} {n:Nat},(∀i k,q[i]?=some k→r (n+i)=r' k)→Rel (mapL n q) r r'
 | [],n,_=>fun i j h=>by simp [mapL,alV] at h
 | k::q,n,h=>fun i j hij=>by
  simp only [mapL,alV,if_true] at hij
  rw [if_neg (by omega)] at hij
  by_cases hi:i=n
  ·rw [if_pos hi] at hij
   simp only [decide_eq_true_eq] at hij
   have:j=k:=by omega
   subst this;subst hi
   exact h 0 j rfl
  ·rw [if_neg hi] at hij
   refine mapL_rel (q:=q) (n:=n+1) (fun i k hk=>?_) i j hij
   have:=h (i+1) k (by simpa using hk)
   rw [←this]
   congr 1
   omega
theorem selL_rel {q:Option (List Nat)} {us us':List AV} (h:RelS q us us'):Rel (selL q) (envOf us) (envOf us'):=by
 cases q with
 | none=>simp only [RelS] at h;subst h;exact rel_nil _
 | some q =>
  simp only [RelS] at h
  refine mapL_rel fun i k hk=>?_
  have h1:(us.map some)[i]?=some (us'[k]?):=by rw [h,List.getElem?_map,hk];rfl
  rw [List.getElem?_map] at h1
  cases hu:us[i]? with
  | none=>rw [hu] at h1;cases h1
  | some x =>
   rw [hu] at h1
   simp only [Option.map_some,Option.some.injEq] at h1
   simp only [envOf,Nat.zero_add,List.getD_eq_getElem?_getD,hu,←h1]
def ORD (js:List (Option (List Nat))):Out→Out→Prop
 | .leaf x _ r,.leaf x' _ r'=>x=x'∧r=r'
 | .jump n us,.jump n' us'=>n=n'∧RelS (js.getD n none) us us'
 | .ret us,.ret us'=>us=us'
 | _,_=>False
theorem loopN_alD {f f':Env→Option Out} {q:Option (List Nat)} {js:List (Option (List Nat))} (h:∀us us' out,RelS q us us'→f (envOf us)=some out→∃out',f' (envOf us')=some out'∧ORD (q::js) out out') :
  ∀(n:Nat) (us us':List AV) (out:Out),RelS q us us'→loopN f n us=some out→∃out',loopN f' n us'=some out'∧ORD js out out'
 | 0,_,_,_,_,hl=>by simp only [loopN] at hl;cases hl
 | n+1,vs,vs',out,hv,hl=>by
  simp only [loopN] at hl ⊢
  split at hl
  ·rename_i us hr
   obtain ⟨o,h1,h2⟩:=h _ _ _ hv hr
   cases o<;>simp only [ORD] at h2
   obtain ⟨rfl,h2⟩:=h2
   rw [h1]
   exact loopN_alD h n us _ out h2 hl
  ·rename_i k us hr
   cases hl
   obtain ⟨o,h1,h2⟩:=h _ _ _ hv hr
   cases o<;>simp only [ORD] at h2
   obtain ⟨rfl,h2⟩:=h2
   rw [h1]
   exact ⟨_,rfl,rfl,h2⟩
  ·rename_i x s r hr
   cases hl
   obtain ⟨o,h1,h2⟩:=h _ _ _ hv hr
   cases o<;>simp only [ORD] at h2
   obtain ⟨rfl,rfl⟩:=h2
   rw [h1]
   exact ⟨_,rfl,rfl,rfl⟩
  ·rename_i us hr
   cases hl
   obtain ⟨o,h1,h2⟩:=h _ _ _ hv hr
   cases o<;>simp only [ORD] at h2
   subst h2
   rw [h1]
   exact ⟨_,rfl,rfl⟩
  ·cases hl
theorem alD_ok {c:Cx} {K:Sem1} {m:Nat} (hlen:LenOK c K):∀(t t':Tr) (l:List (Nat×Nat×Nat)) (gs:List (E .bool)) (js:List (Option (List Nat))) (r r':Env) (out:Out),alD c l gs js t t'=true→Rel l r r'→(∀e∈gs,den e r=true)→run K m t r=some out→∃out',run K m t' r'=some out'∧ORD js out out':=by
 intro t
 induction t with
 | leaf x s =>
  intro t' l gs js r r' out h hr hgs hrun
  simp only [alD] at h
  rw [stripG_ok hr hgs t']
  split at h
  case h_2=>cases h
  rename_i x' s' he
  rw [he]
  simp only [Bool.and_eq_true,List.isEmpty_iff,decide_eq_true_eq] at h
  obtain ⟨rfl,rfl⟩:=h
  simp only [run] at hrun ⊢
  cases hrun
  exact ⟨_,rfl,rfl,rel_eq hr⟩
 | bad=>intro t' l gs js r r' out h hr hgs hrun;simp only [run] at hrun;cases hrun
 | ite c1 a b iha ihb =>
  intro t' l gs js r r' out h hr hgs hrun
  simp only [alD] at h
  rw [stripG_ok hr hgs t']
  split at h
  case h_2=>cases h
  rename_i c2 a' b' he
  rw [he]
  simp only [Bool.and_eq_true] at h
  obtain ⟨⟨h1,h2⟩,h3⟩:=h
  have hc:=alE_den hr _ _ h1
  simp only [Sigma.mk.injEq,heq_eq_eq,true_and] at hc
  simp only [run] at hrun ⊢
  rw [←hc]
  split at hrun
  ·rename_i hh;simp only [hh,if_true];exact iha _ _ _ _ _ _ _ h2 hr hgs hrun
  ·rename_i hh;simp only [hh,if_false,Bool.false_eq_true];exact ihb _ _ _ _ _ _ _ h3 hr hgs hrun
 | guard c1 t ih =>
  intro t' l gs js r r' out h hr hgs hrun
  simp only [alD] at h
  simp only [run] at hrun
  split at hrun
  ·rename_i hh
   refine ih _ _ _ _ _ _ _ h hr (fun e he=>?_) hrun
   rcases List.mem_cons.1 he with rfl | he
   ·exact hh
   ·exact hgs e he
  ·cases hrun
 | call f ins b t ih =>
  intro t' l gs js r r' out h hr hgs hrun
  simp only [alD] at h
  split at h
  case h_2=>cases h
  rename_i g hg
  have hsp:=spineG_ok hlen (.call f ins b t) r out hrun
  simp only [spineG,hg] at hsp
  rw [stripG_ok hr (gs:=gs++(spineG c t).filter fun e=>e.noV b g.outs) (fun e he=>by
   rcases List.mem_append.1 he with he | he
   ·exact hgs e he
   ·exact hsp e he) t']
  split at h
  case h_2=>cases h
  rename_i f' ins' b' t'' he
  rw [he]
  simp only [Bool.and_eq_true,decide_eq_true_eq] at h
  obtain ⟨⟨rfl,h2⟩,h3⟩:=h
  simp only [run] at hrun ⊢
  rw [←alAs_den hr h2]
  split at hrun
  case h_2=>cases hrun
  rename_i vs hv
  rw [←hlen f g _ _ hg hv] at h3
  refine ih _ _ _ _ _ _ _ h3 (rel_put hr) (fun e he=>?_) hrun
  obtain ⟨h4,h5⟩:=List.mem_filter.1 he
  rw [noV_den e h5]
  exact hgs e h4
 | jump n vs =>
  intro t' l gs js r r' out h hr hgs hrun
  simp only [alD] at h
  rw [stripG_ok hr hgs t']
  split at h
  case h_2=>cases h
  rename_i n' vs' he
  rw [he]
  simp only [Bool.and_eq_true,decide_eq_true_eq] at h
  obtain ⟨rfl,h2⟩:=h
  simp only [run] at hrun ⊢
  cases hrun
  exact ⟨_,rfl,rfl,selOk_rel hr h2⟩
 | ret vs =>
  intro t' l gs js r r' out h hr hgs hrun
  simp only [alD] at h
  rw [stripG_ok hr hgs t']
  split at h
  case h_2=>cases h
  rename_i vs' he
  rw [he]
  simp only [run] at hrun ⊢
  cases hrun
  exact ⟨_,rfl,alAs_den hr h⟩
 | join t k iht ihk =>
  intro t' l gs js r r' out h hr hgs hrun
  simp only [alD] at h
  rw [stripG_ok hr hgs t']
  split at h
  case h_2=>cases h
  rename_i t'' k' he
  rw [he]
  generalize (match findJ 0 t,findJ 0 t'' with
    | some vs,some vs'=>selOf l vs vs'
    | _,_=>none)=q at h
  simp only [Bool.and_eq_true] at h
  simp only [run] at hrun ⊢
  split at hrun
  ·rename_i us hh
   obtain ⟨o,h1,h2⟩:=iht _ _ _ _ _ _ _ h.1 hr hgs hh
   cases o<;>simp only [ORD] at h2
   obtain ⟨rfl,h2⟩:=h2
   rw [h1]
   exact ihk _ _ _ _ _ _ _ h.2 (selL_rel h2) (fun e he=>by cases he) hrun
  ·rename_i n us hh
   cases hrun
   obtain ⟨o,h1,h2⟩:=iht _ _ _ _ _ _ _ h.1 hr hgs hh
   cases o<;>simp only [ORD] at h2
   obtain ⟨rfl,h2⟩:=h2
   rw [h1]
   exact ⟨_,rfl,rfl,h2⟩
  ·rename_i x s r1 hh
   cases hrun
   obtain ⟨o,h1,h2⟩:=iht _ _ _ _ _ _ _ h.1 hr hgs hh
   cases o<;>simp only [ORD] at h2
   obtain ⟨rfl,rfl⟩:=h2
   rw [h1]
   exact ⟨_,rfl,rfl,rfl⟩
  ·rename_i us hh
   cases hrun
   obtain ⟨o,h1,h2⟩:=iht _ _ _ _ _ _ _ h.1 hr hgs hh
   cases o<;>simp only [ORD] at h2
   subst h2
   rw [h1]
   exact ⟨_,rfl,rfl⟩
  ·cases hrun
 | loop i b ih =>
  intro t' l gs js r r' out h hr hgs hrun
  simp only [alD] at h
  rw [stripG_ok hr hgs t']
  split at h
  case h_2=>cases h
  rename_i i' b' he
  rw [he]
  simp only [Bool.and_eq_true] at h
  simp only [run] at hrun ⊢
  exact loopN_alD (fun us us' out hu hh=>ih _ _ _ _ _ _ _ h.2 (selL_rel hu) (fun e he=>by cases he) hh) m _ _ out (selOk_rel hr h.1) hrun
section
variable {c:Cx} {K:Sem1} {m:Nat} {inl:Inl} {fn:FuncId} {rid:Nat} {ops:Array Oper} {bd:Bd} {st:List (Array Value)}
theorem meetOut_ok {N:Nat→Prop} {s:St} {r:Env} {g:Nat→G} {tm:Array Value} {w:World} (h:R bd N s r g tm st w) {hi:Hint} {k:Nat} {vs:List AE} {T:NS} (hm:meetOut hi k s=some (vs,T)):∃g',R bd (·<T.base) (T.toSt T.base) (envOf (vs.map (denA · r))) g' tm st w:=by
 obtain ⟨g2,h2⟩:=norm_ok (h.keep (hi.liveOut k)) hm T.base
 exact ⟨g2,h2.mono fun i hi=>Nat.lt_of_lt_of_le hi (norm_len hm)⟩
theorem formAt_get {n:NS}:∀{l:List NS} {i:Nat},formAt n l=some i→l[i]?=some n
 | [],i,h=>by simp [formAt] at h
 | T::l,i,h=>by
  unfold formAt at h
  split at h
  ·rename_i hT
   have:=NS.eq_eq hT
   subst this
   cases h
   rfl
  ·obtain ⟨j,hj,rfl⟩:=Option.map_eq_some_iff.1 h
   simpa using formAt_get hj
theorem anyEnd_leafy {h:Hint} {Ts:List NS} (s:St):Leafy K m (anyEnd h rid Ts s):=by
 unfold anyEnd
 split
 ·split
  ·intro r out hr
   simp only [run] at hr
   cases hr
   exact ⟨_,_,_,rfl⟩
  ·exact Leafy.bad
 ·exact Leafy.bad
theorem anyOps_closed (hcl:InlCl K m inl) {t:List (List Nat)} {all:Bool} {k:St→Tr} (hk:∀s',Leafy K m (k s')):∀(n i:Nat) (listed:Array Bool) (s:St),Leafy K m (anyOps c fn rid inl ops t all k n i listed s)
 | 0,i,listed,s=>by
  unfold anyOps
  split
  ·exact hk s
  ·exact Leafy.bad
 | n+1,i,listed,s=>by
  have ih:=fun i listed s=>anyOps_closed hcl (t:=t) (all:=all) hk n i listed s
  unfold anyOps
  split
  ·split
   ·exact symStep_closed hcl (fun s'=>ih _ _ s') s
   ·exact Leafy.bad
  ·split
   ·exact Leafy.bad
   ·split
    ·split
     ·exact symStep_closed hcl (fun s'=>ih _ _ s') s
     ·exact Leafy.bad
    ·exact Leafy.bad
theorem anyOps_ok (hcall:CallOK c K) (hinl:InlOK c K m inl) (hcl:InlCl K m inl) {h:Hint} {Ts:List NS} {ix:Nat} {T:NS} (hTs:Ts[ix]?=some T) {re:Env} {Q:Exit→Act→World→Prop} (hQp:∀ch a w,¬Q (.panic ch) a w) {df:List Deferred}
  (hQ:∀(a':Act) (w':World),a'.defers=df→(∃g',R bd (·<T.base) (T.toSt T.base) re g' a'.tmps st w')→Q .normal a' w')
  (hsel:Region.noSelect ops=true) {t:List (List Nat)} (ht:ancOk ops t=true) :
  ∀(n i:Nat) (listed:Array Bool) (a:Act) (w:World) (out:Out),(∃S,out=.leaf (.exit ix) S re)→ClosedL ops listed →
   Nx K m bd st df i (anyOps c fn rid inl ops t true (anyEnd h rid Ts) n i listed) out a w→wpAnyE c.P ops Q (fun j=>match ops[j]? with | some oj=>lateB c oj | none=>false) n listed a w
 | 0,i,listed,a,w,out,hout,hc,hx=>by
  obtain ⟨hdf,s,r,g,hR,hrun⟩:=hx
  unfold anyOps at hrun
  split at hrun
  case isFalse=>simp only [run] at hrun;cases hrun
  rename_i he
  refine ⟨by simpa using he,hQ a w hdf ?_⟩
  unfold anyEnd at hrun
  split at hrun
  case h_2=>simp only [run] at hrun;cases hrun
  rename_i vs n' hm
  split at hrun
  case h_2=>simp only [run] at hrun;cases hrun
  rename_i i' hT
  have hT:=formAt_get hT
  simp only [run] at hrun
  cases hrun
  obtain ⟨S,hh⟩:=hout
  cases hh
  rw [hTs] at hT
  cases hT
  exact meetOut_ok hR hm
 | n+1,i,listed,a,w,out,hout,hc,hx=>by
  obtain ⟨hdf,s,r,g,hR,hrun⟩:=hx
  have step:∀(j:Nat) (o:Oper) (out:Out),(∃S,out=.leaf (.exit ix) S re)→j∈Region.ready .any ops listed→run K m (symStep c fn rid inl ops i o (restOf ops (listed.setIfInBounds j true)) (anyOps c fn rid inl ops t true (anyEnd h rid Ts) n (i+1) (listed.setIfInBounds j true)) s) r=some out →
    StepP c ops a o w fun a' w'=>wpAnyE c.P ops Q (fun j=>match ops[j]? with | some oj=>lateB c oj | none=>false) n (listed.setIfInBounds j true) a' w':=by
   intro j o out hout hmem hrun
   have hs:=symStep_ok hcall hinl (fun s'=>anyOps_closed hcl anyEnd_leafy n (i+1) (listed.setIfInBounds j true) s') hR hrun
   rw [hdf] at hs
   have ih:=fun a' w' h'=>anyOps_ok (h:=h) hcall hinl hcl hTs hQp hQ hsel ht n (i+1) _ a' w' out hout (hc.set hmem) h'
   rcases hs with ⟨hw,hk⟩ | ⟨hw,hd⟩
   ·exact .inl ⟨hw,ih _ _ hk⟩
   ·exact .inr ⟨hw,hd.mono fun v w' hk=>ih _ _ hk⟩
  unfold anyOps at hrun
  split at hrun
  ·rename_i j hfind
   have hj:=List.find?_some hfind
   have hmem:=List.mem_of_find?_eq_some hfind
   split at hrun
   case h_2=>simp only [run] at hrun;cases hrun
   rename_i o hoj
   rw [hoj] at hj
   simp only [Bool.and_eq_true] at hj
   obtain ⟨hpk,hj⟩:=hj
   obtain ⟨ld,hld⟩:=Option.isSome_iff_exists.1 hpk
   have hs:=step j o out hout hmem hrun
   unfold takeOk at hj
   rw [hld] at hj
   simp only [Bool.and_eq_true,Bool.or_eq_true,Bool.not_eq_true'] at hj
   obtain ⟨hfree,hlate⟩:=hj
   have hlate':ld=true→∀listed',ClosedL ops listed'→(∀k,listed.getD k true=true→listed'.getD k true=true)→listed'.getD j true=false→∀x∈Region.ready .any ops listed',(match ops[x]? with | some oj=>lateB c oj | none=>false)=false:=by
    intro hl listed' hc' hsub hun x hx
    rcases hlate with hlate | hlate
    ·rw [hl] at hlate;cases hlate
    obtain ⟨hxun,ox,hox,hxall⟩:=mem_ready.1 hx
    have hxs:x<ops.size:=(Array.getElem?_eq_some_iff.1 hox).1
    simp only [List.all_eq_true,List.mem_range,Bool.or_eq_true] at hlate
    have h0:=hlate x hxs
    simp only [hox] at h0 ⊢
    rcases h0 with h1 | h1
    ·rw [hsub x h1] at hxun;cases hxun
    ·rcases Bool.or_eq_true ..▸h1 with h1 | h1
     ·simpa using h1
     ·have:=anc_listed ht hc' (x+1) x (by omega) hxs (fun oj hoj e he hb=>by rw [hox] at hoj;cases hoj;exact hxall e he hb) j (by simpa using h1)
      rw [getD_false_of_true hun] at this;cases this
   rcases hs with ⟨hw,hk⟩ | ⟨hw,hp,-⟩
   ·exact wpAnyE_first hoj (Region.noSelect_spec hsel) hQp n listed a w (Region.free_spec hoj hfree) hc hlate' hmem (.inr ⟨hw,rfl⟩) hk
   ·obtain ⟨v,h1,h2⟩:=hp ld hld
    exact wpAnyE_first hoj (Region.noSelect_spec hsel) hQp n listed a w (Region.free_spec hoj hfree) hc hlate' hmem (.inl ⟨hw,h1⟩) h2
  ·split at hrun
   ·simp only [run] at hrun;cases hrun
   ·rename_i j js hrd
    split at hrun
    case h_2=>simp only [run] at hrun;cases hrun
    rename_i o hoj
    split at hrun
    case isFalse=>simp only [run] at hrun;cases hrun
    rename_i hall
    simp only [Bool.not_true,Bool.false_or,List.all_eq_true] at hall
    have one:∀(j:Nat) (o:Oper) (out:Out),ops[j]?=some o→(∃S,out=.leaf (.exit ix) S re)→j∈Region.ready .any ops listed→run K m (symStep c fn rid inl ops i o (restOf ops (listed.setIfInBounds j true)) (anyOps c fn rid inl ops t true (anyEnd h rid Ts) n (i+1) (listed.setIfInBounds j true)) s) r=some out →
      wpOp c.P ops Q j (fun a' w'=>((match ops[j]? with | some oj=>lateB c oj | none=>false)=false→Ext w w')∧wpAnyE c.P ops Q (fun j=>match ops[j]? with | some oj=>lateB c oj | none=>false) n (listed.setIfInBounds j true) a' w') a w:=by
     intro j o out hoj hout hmem hrun
     unfold wpOp
     simp only [hoj]
     rcases step j o out hout hmem hrun with ⟨hw,hk⟩ | ⟨hw,hp,hd⟩
     ·simp only [hw,Bool.false_eq_true,if_false]
      exact ⟨fun _=>Ext.refl w,hk⟩
     ·simp only [hw,if_true]
      cases hpk:pureKind o.op with
      | some ld =>
       obtain ⟨v,h1,h2⟩:=hp ld hpk
       exact .inl (Done.upon (.val v w (.inl (h1 w fun _=>Ext.refl w)) ⟨fun _=>Ext.refl w,h2⟩))
      | none =>
       refine .inl (Done.upon (hd.mono ?_))
       rintro a' w' ⟨hf,v,rfl,hk⟩
       refine ⟨fun hl=>hf ?_,hk⟩
       simp only [lateB,hpk,Option.isNone_none,Bool.true_and,Bool.not_eq_false'] at hl
       exact hl
    refine ⟨fun h0=>absurd (hrd▸h0) (by simp),fun j' hj'=>?_⟩
    have hj1:j'=j∨j'∈js:=by rw [hrd] at hj';simpa using hj'
    rcases hj1 with rfl | hj1
    ·exact one j' o out hoj hout hj' hrun
    ·have h2:=hall j' hj1
     cases ho':ops[j']? with
     | none=>rw [ho'] at h2;cases h2
     | some o' =>
      rw [ho'] at h2
      simp only at h2
      obtain ⟨S,rfl⟩:=hout
      rcases Bool.or_eq_true ..▸h2 with h2 | h2
      ·obtain ⟨out',h3,h4⟩:=alT_ok hcall.1.2 _ _ _ _ _ _ _ h2 (rel_nil r) (fun e he=>by cases he) hrun
       cases out'<;>simp only [OR] at h4
       obtain ⟨rfl,rfl⟩:=h4
       exact one j' o' _ ho' ⟨_,rfl⟩ hj' h3
      ·obtain ⟨out',h3,h4⟩:=alD_ok hcall.1.2 _ _ _ _ _ _ _ _ h2 (rel_nil r) (fun e he=>by cases he) hrun
       cases out'<;>simp only [ORD] at h4
       obtain ⟨rfl,rfl⟩:=h4
       exact one j' o' _ ho' ⟨_,rfl⟩ hj' h3
theorem anyRegion_leafy (hcl:InlCl K m inl) (s:St):Leafy K m (anyRegion c fn inl rid ops s):=by
 unfold anyRegion
 split
 ·refine Leafy.bind (anyOps_closed hcl (fun s=>anyEnd_leafy s) _ _ _ _) fun x _=>?_
  split
  ·split
   ·exact Leafy.leaf _ _
   ·exact Leafy.bad
  ·exact Leafy.bad
 ·exact Leafy.bad
end
end Go.Sm
namespace Go.Sm
set_option linter.unusedVariables false
set_option linter.unusedSimpArgs false
section
variable {P:Program} {bd:Bd} {N:Nat→Prop} {s:St} {r:Env} {g:Nat→G} {tm:Array Value} {st:List (Array Value)} {w:World}
theorem R.same (h:R bd N s r g tm st w) {w':World} (hh:∀b:Nat,w'.heap[b]?=w.heap[b]?) (hsz:w'.heap.size=w.heap.size) (hos:w'.os=w.os) (htp:w'.tape=w.tape) (hout:w'.output=w.output):R bd N s r g tm st w':=by
 have hk:Kept w (Mt bd.Z s.heap g) w' (Mt bd.Z s.heap g):=⟨fun b _ _=>hh b,fun _ _ h=>h⟩
 have ha:∀a v,a.ok N s.heap→ARep w (Mt bd.Z s.heap g) g r a v→ARep w' (Mt bd.Z s.heap g) g r a v:=fun a v ha hv=>ARep.keep hk (fun _ _=>rfl) ha.vs (fun _ _=>⟨rfl,rfl⟩) (fun _ _ _=>⟨rfl,fun _ _ _ _ _=>hh _⟩) hv
 have h1:=h.step (g':=g) (w':=w') (N':=N) (r':=r) id s.heap s.base ha (fun a ha=>ha) (fun i B hB=>?_) h.inj h.nodup h.own (fun i B hB b hb=>by rw [hsz];exact h.lt i B hB b hb)
  ⟨hos.trans h.world.os,htp.trans h.world.tape,hout.trans h.world.output,by rw [hsz];exact h.world.size,fun k hk hM=>(hh k).trans (h.world.heap k hk hM),h.world.zone⟩ (fun c hc=>(cell_congr (hh _) _).trans (h.kept c hc)) (fun _ _=>⟨rfl,rfl⟩) (fun c hc=>(h.kpl c hc).2) h.nheap
 ·have e1:s.cur.map (SV.map id)=s.cur:=by rw [List.map_congr_left (fun v _=>SV.map_id id (fun _=>rfl) v)];simp
  have e2:s.stk.map (List.map (SV.map id))=s.stk:=by
   rw [List.map_congr_left (g:=fun l=>l) (fun l _=>by rw [List.map_congr_left (fun v _=>SV.map_id id (fun _=>rfl) v)];simp)];simp
  rw [e1,e2] at h1
  exact h1
 ·have:=(h.heap i B hB).keep (f:=id) (h0:=s.heap) hk (fun _ _=>rfl) ha (h.nheap i B hB) rfl (fun b _=>hh b)
  rwa [Blk.map_id id (fun _=>rfl)] at this
theorem meet_ok (h:R bd N s r g tm st w) {hi:Hint} {k:Nat} {vs:List AE} {T:NS} (hm:meetAt hi k s=some (vs,T)):∃g',R bd (·<T.base) (T.toSt T.base) (envOf (vs.map (denA · r))) g' tm st w:=by
 unfold meetAt at hm
 obtain ⟨g1,h1⟩:=applyActs_ok ((s.base+1000000)) (hi.act k) (h.keep (hi.liveIn k))
 obtain ⟨g2,h2⟩:=norm_ok h1 hm T.base
 exact ⟨g2,h2.mono fun i hi=>Nat.lt_of_lt_of_le hi (norm_len hm)⟩
theorem single_rep {M:Nat→Prop}:∀{l:List SV} {vs:List Value} {v:SV},SReps w M g r l vs→single l=some v→∃u,(if h:vs.toArray.size=1 then vs.toArray[0] else .tuple vs.toArray)=u∧SRep w M g r v u:=by
 have hc:∀{l:List SV} {vs:List Value} {c:List (Bool×List Atom)},SReps w M g r l vs→comps l=some c→CReps w M g r c vs:=by
  intro l
  induction l with
  | nil=>intro vs c h hc;cases vs with
   | nil=>simp only [comps,Option.some.injEq] at hc;subst hc;trivial
   | cons=>exact h.elim
  | cons x l ih =>
   intro vs c h hc
   cases vs with
   | nil=>exact h.elim
   | cons u vs =>
    cases x with
    | a x =>
     simp only [comps] at hc
     obtain ⟨c',h1,rfl⟩:=Option.map_eq_some_iff.1 hc
     exact ⟨by simp only [CRep,Bool.false_eq_true,if_false];exact ⟨h.1,trivial⟩,ih h.2 h1⟩
    | agg m =>
     simp only [comps] at hc
     obtain ⟨c',h1,rfl⟩:=Option.map_eq_some_iff.1 hc
     exact ⟨by simp only [CRep,if_true];exact h.1,ih h.2 h1⟩
    | tup m=>simp [comps] at hc
 intro l vs v h hs
 match l,vs,h with
 | [x],[u],h =>
  simp only [single,Option.some.injEq] at hs
  subst hs
  exact ⟨u,by simp,h.1⟩
 | [],[],h =>
  simp only [single] at hs
  obtain ⟨c,h1,rfl⟩:=Option.map_eq_some_iff.1 hs
  exact ⟨.tuple #[],by simp,#[],rfl,hc h h1⟩
 | x::y::l,u::z::vs,h =>
  simp only [single] at hs
  obtain ⟨c,h1,rfl⟩:=Option.map_eq_some_iff.1 hs
  exact ⟨.tuple (u::z::vs).toArray,by simp,_,rfl,hc h h1⟩
 | [x],[],h=>exact h.elim
 | [x],u::z::vs,h=>exact h.2.elim
 | [],_::_,h=>exact h.elim
 | x::y::l,[],h=>exact h.elim
 | x::y::l,[u],h=>exact h.2.elim
theorem single_all {p:Atom→Prop}:∀{l:List SV} {v:SV},(∀x∈l,x.all p)→single l=some v→v.all p:=by
 have hc:∀{l:List SV} {c:List (Bool×List Atom)},(∀x∈l,x.all p)→comps l=some c→∀d∈c,∀a∈d.2,p a:=by
  intro l
  induction l with
  | nil=>intro c h hc;simp only [comps,Option.some.injEq] at hc;subst hc;simp
  | cons x l ih =>
   intro c h hc
   cases x with
   | a x =>
    simp only [comps] at hc
    obtain ⟨c',h1,rfl⟩:=Option.map_eq_some_iff.1 hc
    intro d hd a ha
    rcases List.mem_cons.1 hd with rfl | hd
    ·simp only [List.mem_singleton] at ha;subst ha;exact h (.a _) (List.mem_cons_self ..)
    ·exact ih (fun x hx=>h x (List.mem_cons_of_mem _ hx)) h1 d hd a ha
   | agg m =>
    simp only [comps] at hc
    obtain ⟨c',h1,rfl⟩:=Option.map_eq_some_iff.1 hc
    intro d hd a ha
    rcases List.mem_cons.1 hd with rfl | hd
    ·exact h (.agg m) (List.mem_cons_self ..) a ha
    ·exact ih (fun x hx=>h x (List.mem_cons_of_mem _ hx)) h1 d hd a ha
   | tup m=>simp [comps] at hc
 intro l v h hs
 match l with
 | [x]=>simp only [single,Option.some.injEq] at hs;subst hs;exact h x (List.mem_cons_self ..)
 | [] =>
  simp only [single] at hs
  obtain ⟨c,h1,rfl⟩:=Option.map_eq_some_iff.1 hs
  exact hc h h1
 | x::y::l =>
  simp only [single] at hs
  obtain ⟨c,h1,rfl⟩:=Option.map_eq_some_iff.1 hs
  exact hc h h1
def resF (tm:Array Value):ResultVar→Sem Value
 | .tmp t=>pure (tm.getD t undef)
 | .cell a t=>do loadVar t (←asAddr (tm.getD a undef))
theorem results_eq (fn:Func) (tm:Array Value):results fn tm=(do let vs ←fn.results.mapM (resF tm);pure (if h:vs.size=1 then vs[0] else .tuple vs)):=by
 unfold results
 congr 2
theorem resSV_ok {a:Act} (h:R bd N s r g a.tmps st w) {rv:ResultVar} {sv:SV} (hs:resSV P s rv=some sv) :
  ∃v,(resF a.tmps rv).run P w=.ok v w∧SRep w (Mt bd.Z s.heap g) g r sv v∧sv.all (Atom.ok N s.heap):=by
 cases rv with
 | tmp t =>
  simp only [resSV] at hs
  obtain ⟨v,hv,hr⟩:=h.cur.get hs
  refine ⟨v,?_,hr,h.ncur sv (List.mem_of_getElem? hs)⟩
  have:a.tmps.getD t undef=v:=by
   rw [Array.getD_eq_getD_getElem?,←Array.getElem?_toList,hv];rfl
  simp only [resF,this]
  rfl
 | cell x t =>
  simp only [resSV] at hs
  split at hs
  ·rename_i id j ag i hx hag hi
   split at hs
   ·rename_i l hid
    have hx':=cur_get hx (by simp)
    obtain ⟨v,hv,hr⟩:=h.cur.get hx'
    simp only [SRep,ARep] at hr
    have hv':a.tmps.getD x undef=.pointer (some ⟨(g id).blk,j,none⟩):=by
     rw [Array.getD_eq_getD_getElem?,←Array.getElem?_toList,hv,hr];rfl
    obtain ⟨-,c,ty,hc,hl⟩:=h.heap id _ hid
    obtain ⟨u,h1,h2⟩:=part_loadVar (P:=P) (o:=0) (b:=(g id).blk) hl (fun k u hk=>by rw [Nat.zero_add,cell_eq,hc];simpa using hk) hag hi hs
    refine ⟨u,?_,h2,part_all hs (h.nheap id _ hid)⟩
    simp only [resF,hv']
    rw [run_bind_ok (v:=⟨(g id).blk,j,none⟩) (w':=w) rfl]
    have:=h1 w (fun k u hk=>by rw [Nat.zero_add,cell_eq,hc];simpa using hk)
    rwa [Nat.zero_add] at this
   ·cases hs
  ·cases hs
theorem resSVs_ok {a:Act} (h:R bd N s r g a.tmps st w):∀{rs:List ResultVar} {l:List SV},resSVs P s rs=some l →
  ∃vs,(rs.mapM (resF a.tmps)).run P w=.ok vs w∧SReps w (Mt bd.Z s.heap g) g r l vs∧∀v∈l,v.all (Atom.ok N s.heap)
 | [],l,hs=>by
  simp only [resSVs,Option.some.injEq] at hs
  subst hs
  exact ⟨[],rfl,trivial,fun v hv=>by cases hv⟩
 | rv::rs,l,hs=>by
  unfold resSVs at hs
  split at hs
  case h_2=>cases hs
  rename_i v vs hv hvs
  cases hs
  obtain ⟨u,h1,h2,h3⟩:=resSV_ok h hv
  obtain ⟨us,h4,h5,h6⟩:=resSVs_ok h hvs
  refine ⟨u::us,?_,⟨h2,h5⟩,fun x hx=>?_⟩
  ·rw [List.mapM_cons]
   rw [run_bind_ok h1,run_bind_ok h4]
   rfl
  ·rcases List.mem_cons.1 hx with rfl | hx
   ·exact h3
   ·exact h6 x hx
theorem results_ok {a:Act} {fn:Func} (h:R bd N s r g a.tmps st w) {l:List SV} {v:SV} (hs:resSVs P s fn.results.toList=some l) (hv:single l=some v) :
  ∃u,(results fn a.tmps).run P w=.ok u w∧SRep w (Mt bd.Z s.heap g) g r v u∧v.all (Atom.ok N s.heap):=by
 obtain ⟨vs,h1,h2,h3⟩:=resSVs_ok h hs
 obtain ⟨u,h4,h5⟩:=single_rep h2 hv
 refine ⟨u,?_,h5,single_all h3 hv⟩
 rw [results_eq,Array.mapM_eq_mapM_toList,map_eq_pure_bind,bind_assoc,run_bind_ok h1]
 simp only [pure_bind]
 rw [h4]
 rfl
end
section
variable {c:Cx} {K:Sem1} {m:Nat} {inl:Inl} {fn:FuncId} {bd:Bd} {st:List (Array Value)}
theorem bind_leafy {x:Ex→St→Tr} {t:Tr} (ht:Leafy K m t) (hx:∀e s,Leafy K m (x e s)) {r:Env} {out:Out} (h:run K m (t.bind x) r=some out):∃e s r',run K m t r=some (.leaf e s r')∧run K m (x e s) r'=some out:=by
 rcases run_bind (fun x s=>(hx x s).closed) t r _ h with ⟨l',us,h1,h2⟩ | ⟨us,h1,h2⟩ | h1
 ·obtain ⟨_,_,_,h3⟩:=ht _ _ h1;cases h3
 ·obtain ⟨_,_,_,h3⟩:=ht _ _ h1;cases h3
 ·exact h1
theorem toJumps_leafy {t:Tr} (ht:Leafy K m t) {h:Hint} {k:Nat} {T:NS} {r:Env} {out':Out} (hr:run K m (t.toJumps h k T 0) r=some out') :
  ∃x s r',run K m t r=some (.leaf x s r')∧((x=.normal∧∃vs,meetAt h k s=some (vs,T)∧out'=.jump 0 (vs.map (denA · r')))∨(x≠.normal∧out'=.leaf x s r')):=by
 obtain ⟨out,h1,h2⟩:=toJumps_ok t 0 r out' hr
 obtain ⟨x,s,r',rfl⟩:=ht _ _ h1
 refine ⟨x,s,r',h1,?_⟩
 unfold Turned at h2
 split at h2
 ·rename_i heq;cases heq;exact .inl ⟨rfl,h2⟩
 ·rename_i hne
  refine .inr ⟨fun hx=>?_,h2⟩
  subst hx
  exact hne _ _ rfl
theorem loop_leafy {t:Tr} (ht:Leafy K m t) {h:Hint} {k:Nat} {T:NS}:∀(n:Nat) (vs:List AV) (out:Out),loopN (run K m (t.toJumps h k T 0)) n vs=some out→∃x s r',out=.leaf x s r'
 | 0,_,_,h=>by simp only [loopN] at h;cases h
 | n+1,vs,out,h=>by
  simp only [loopN] at h
  split at h
  ·exact loop_leafy ht n _ out h
  ·rename_i l us hr
   obtain ⟨x,s,r',_,⟨_,_,_,h3⟩ | ⟨_,h3⟩⟩:=toJumps_leafy ht hr
   ·cases h3
   ·cases h3
  ·cases h;exact ⟨_,_,_,rfl⟩
  ·rename_i us hr
   obtain ⟨x,s,r',_,⟨_,_,_,h3⟩ | ⟨_,h3⟩⟩:=toJumps_leafy ht hr
   ·cases h3
   ·cases h3
  ·cases h
theorem code_leafy (hcl:InlCl K m inl):∀(x:Code) (s:St),Leafy K m (symCode c fn inl x s):=by
 intro x
 induction x with
 | skip=>intro s;exact Leafy.leaf _ _
 | label l=>intro s;exact Leafy.leaf _ _
 | ret=>intro s;exact Leafy.leaf _ _
 | exit id=>intro s;exact Leafy.leaf _ _
 | seq a b iha ihb =>
  intro s
  have hf:∀(x:Ex) (s':St),Leafy K m (match x with | .normal=>symCode c fn inl b s' | x=>.leaf x s'):=by
   intro x s'
   split
   ·exact ihb _
   ·exact Leafy.leaf _ _
  simp only [symCode]
  split
  ·exact iha s
  ·exact (iha s).bind hf
  ·split
   ·exact (iha s).bind hf
   ·split
    ·intro r out h
     simp only [run] at h
     split at h
     ·exact ihb _ _ _ h
     ·rename_i l us hr
      obtain ⟨x,s,r',_,⟨_,_,_,h3⟩ | ⟨_,h3⟩⟩:=toJumps_leafy (iha _) hr
      ·cases h3
      ·cases h3
     ·cases h;exact ⟨_,_,_,rfl⟩
     ·rename_i us hr
      obtain ⟨x,s,r',_,⟨_,_,_,h3⟩ | ⟨_,h3⟩⟩:=toJumps_leafy (iha _) hr
      ·cases h3
      ·cases h3
     ·cases h
    ·exact Leafy.bad
 | cond x a b iha ihb =>
  intro s
  simp only [symCode]
  split
  ·split
   ·exact iha _
   ·exact ihb _
   ·exact Leafy.ite (iha _) (ihb _)
  ·exact Leafy.bad
 | block id b ih =>
  intro s
  simp only [symCode]
  refine (ih s).bind fun x s'=>?_
  split
  ·split<;>exact Leafy.leaf _ _
  ·exact Leafy.leaf _ _
 | loop b ih =>
  intro s
  simp only [symCode]
  split
  ·exact Leafy.bad
  ·split
   ·intro r out h
    simp only [run] at h
    exact loop_leafy (ih _) m _ out h
   ·exact Leafy.bad
 | region id ops draw =>
  intro s
  cases draw
  ·simp only [symCode];exact symOps_closed hcl (fun _=>Leafy.leaf _ _) _ _ _
  ·simp only [symCode]
   split
   ·exact symOps_closed hcl (fun _=>Leafy.leaf _ _) _ _ _
   ·exact anyRegion_leafy hcl s
 | _=>intro s;simp only [symCode];exact Leafy.bad
def QOut (bd:Bd) (st:List (Array Value)) (df:List Deferred) (out:Out):Exit→Act→World→Prop:=fun e a w =>
 a.defers=df∧∃x s r g,out=.leaf x s r∧R bd (·<s.base) s r g a.tmps st w∧e=(match x with | .normal=>Exit.normal | .exit id=>.exit id | .ret=>.ret)
theorem orderFrom_len {c:Cx} {ops:Array Oper} {t:List (List Nat)}:∀{n:Nat} {listed:Array Bool} {l:List Oper},orderFrom c ops t n listed=some l→l.length=n
 | 0,listed,l,h=>by
  unfold orderFrom at h
  split at h
  ·cases h;rfl
  ·cases h
 | n+1,listed,l,h=>by
  unfold orderFrom at h
  split at h
  ·split at h
   ·obtain ⟨l',h1,rfl⟩:=Option.map_eq_some_iff.1 h
    simp [orderFrom_len h1]
   ·cases h
  ·cases h
theorem normals_run:∀(t:Tr) (r:Env) (s:St) (r':Env),run K m t r=some (.leaf .normal s r')→t.normals≠[]
 | .leaf x s,r,s',r',h=>by simp only [run] at h;cases h;simp [Tr.normals]
 | .bad,r,s',r',h=>by simp only [run] at h;cases h
 | .ite c a b,r,s',r',h=>by
  simp only [run] at h
  simp only [Tr.normals,ne_eq,List.append_eq_nil_iff,not_and]
  split at h
  ·intro h1;exact (normals_run a _ _ _ h h1).elim
  ·intro _;exact normals_run b _ _ _ h
 | .guard c t,r,s',r',h=>by
  simp only [run] at h
  split at h
  ·exact normals_run t _ _ _ h
  ·cases h
 | .call f ins b t,r,s',r',h=>by
  simp only [run] at h
  split at h
  ·exact normals_run t _ _ _ h
  ·cases h
 | .jump l vs,r,s',r',h=>by simp only [run] at h;cases h
 | .ret vs,r,s',r',h=>by simp only [run] at h;cases h
 | .join t k,r,s',r',h=>by
  simp only [run] at h
  simp only [Tr.normals,ne_eq,List.append_eq_nil_iff,not_and]
  split at h
  ·intro _;exact normals_run k _ _ _ h
  ·cases h
  ·rename_i hr;cases h;intro h1;exact (normals_run t _ _ _ hr h1).elim
  ·cases h
  ·cases h
 | .loop i b,r,s',r',h=>by
  simp only [run] at h
  have key:∀n vs,loopN (run K m b) n vs=some (.leaf .normal s' r')→b.normals≠[]:=by
   intro n
   induction n with
   | zero=>intro vs h;simp only [loopN] at h;cases h
   | succ n ih =>
    intro vs h
    simp only [loopN] at h
    split at h
    ·exact ih _ h
    ·cases h
    ·rename_i hr;cases h;exact normals_run b _ _ _ hr
    ·cases h
    ·cases h
  exact key _ _ h
theorem region_ok (hm:c.P.follows .mixedOrders=true) (hcall:CallOK c K) (hinl:InlOK c K m inl) (hcl:InlCl K m inl) {id:Nat} {ops:Array Oper} {draw:Bool} {s:St} {r:Env} {g:Nat→G} {a:Act} {w:World} {out:Out}
  (h:R bd (·<s.base) s r g a.tmps st w) (hrun:run K m (symCode c fn inl (.region id ops draw) s) r=some out):(Code.region id ops draw).wp c.P (QOut bd st a.defers out) a w:=by
 have hk:∀s':St,Leafy K m (.leaf .normal { s' with base:=s'.base+64 * ops.size }):=fun _=>Leafy.leaf _ _
 have fin:∀(l:List Oper),l.length=ops.size→∀a' w',Nx K m bd st a.defers (0+l.length) (fun s'=>.leaf .normal { s' with base:=s'.base+64 * ops.size }) out a' w'→QOut bd st a.defers out .normal a' w':=by
  rintro l hl a' w' ⟨h1,s',r',g',h2,h3⟩
  simp only [run] at h3
  cases h3
  refine ⟨h1,.normal,_,r',g',rfl,?_,rfl⟩
  rw [Nat.zero_add,hl] at h2
  exact h2.based _
 have start:∀{w:World} {l:List Oper},R bd (·<s.base) s r g a.tmps st w→run K m (symOps c fn id inl ops (fun s'=>.leaf .normal { s' with base:=s'.base+64 * ops.size }) 0 l s) r=some out →
   Nx K m bd st a.defers 0 (symOps c fn id inl ops (fun s'=>.leaf .normal { s' with base:=s'.base+64 * ops.size }) 0 l) out a w:=fun h hr=>⟨rfl,s,r,g,by simpa using h,hr⟩
 cases draw with
 | false =>
  simp only [symCode] at hrun
  refine wp_region_list ?_
  exact symOps_ok hcall hinl hcl hk ops.toList 0 a w (fin ops.toList (by simp)) (start h hrun)
 | true =>
  simp only [symCode] at hrun
  have hw:R bd (·<s.base) s r g a.tmps st { w with drawn:=w.drawn+1 }:=h.same (fun _=>rfl) rfl rfl rfl rfl
  have hcl0:ClosedL ops (Array.replicate ops.size false):=by
   intro j oj _ hj
   exfalso
   rw [Array.getD_eq_getD_getElem?] at hj
   by_cases hlt:j<ops.size
   ·simp [hlt] at hj
   ·simp [Nat.not_lt.1 hlt] at hj
  split at hrun
  case h_2 =>
   unfold anyRegion at hrun
   split at hrun
   case isFalse=>simp only [run] at hrun;cases hrun
   rename_i hok
   simp only [Bool.and_eq_true] at hok
   simp only [] at hrun
   generalize formsOf (c.hint fn) id (anyOps c fn id inl ops (ancs ops) false (fun s'=>Tr.leaf Ex.normal s') ops.size 0 (Array.replicate ops.size false) s).normals []=Ts at hrun
   obtain ⟨x,S,re,h1,h2⟩:=bind_leafy (anyOps_closed hcl (fun s=>anyEnd_leafy s) _ _ _ _) (fun x _=>by
    split
    ·split
     ·exact Leafy.leaf _ _
     ·exact Leafy.bad
    ·exact Leafy.bad) hrun
   split at h2
   case h_2=>simp only [run] at h2;cases h2
   rename_i ix
   split at h2
   case h_2=>simp only [run] at h2;cases h2
   rename_i T hTs
   simp only [run] at h2
   cases h2
   have main:=anyOps_ok hcall hinl hcl hTs (Q:=fun e a' w'=>e=.normal∧QOut bd st a.defers (.leaf .normal (T.toSt T.base) re) .normal a' w') (df:=a.defers) (fun ch a w hq=>by cases hq.1)
    (fun a' w' hd ⟨g',hR⟩=>⟨rfl,hd,.normal,_,re,g',rfl,hR,rfl⟩) hok.1 hok.2 ops.size 0 _ a { w with drawn:=w.drawn+1 } _ ⟨S,rfl⟩ hcl0 ⟨rfl,s,r,g,by simpa using hw,h1⟩
   refine Code.wp_mono ?_ (wp_region_any hm (wpAny_of_E _ _ _ _ main))
   rintro e a' w' ⟨rfl,hq⟩
   exact hq
  rename_i l hl
  unfold orderOf at hl
  split at hl
  case isFalse=>cases hl
  rename_i hok
  simp only [Bool.and_eq_true] at hok
  have hlen:=orderFrom_len hl
  have main:=orderFrom_ok hcall hinl hcl hk (Q:=fun e a' w'=>e=.normal∧QOut bd st a.defers out .normal a' w') (fun ch a w hq=>by cases hq.1) hok.1 hok.2 ops.size 0 _ l a { w with drawn:=w.drawn+1 } hl hcl0
   (fun a' w' hn=>⟨rfl,fin l hlen a' w' hn⟩) (start hw hrun)
  refine Code.wp_mono ?_ (wp_region_any hm (wpAny_of_E _ _ _ _ main))
  rintro e a' w' ⟨rfl,hq⟩
  exact hq
theorem code_ok (hm:c.P.follows .mixedOrders=true) (hcall:CallOK c K) (hinl:InlOK c K m inl) (hcl:InlCl K m inl):∀(x:Code) (s:St) (r:Env) (g:Nat→G) (a:Act) (w:World) (out:Out),
  R bd (·<s.base) s r g a.tmps st w→run K m (symCode c fn inl x s) r=some out→x.wp c.P (QOut bd st a.defers out) a w:=by
 intro x
 induction x with
 | skip=>intro s r g a w out h hr;simp only [symCode,run] at hr;cases hr;exact wp_skip ⟨rfl,_,_,_,_,rfl,h,rfl⟩
 | label l=>intro s r g a w out h hr;simp only [symCode,run] at hr;cases hr;exact wp_label ⟨rfl,_,_,_,_,rfl,h,rfl⟩
 | ret=>intro s r g a w out h hr;simp only [symCode,run] at hr;cases hr;exact wp_ret ⟨rfl,_,_,_,_,rfl,h,rfl⟩
 | exit id=>intro s r g a w out h hr;simp only [symCode,run] at hr;cases hr;exact wp_exit ⟨rfl,_,_,_,_,rfl,h,rfl⟩
 | seq x y ihx ihy =>
  intro s r g a w out h hr
  have hf:∀(x:Ex) (s':St),Leafy K m (match x with | .normal=>symCode c fn inl y s' | x=>.leaf x s'):=by
   intro x s'
   split
   ·exact code_leafy hcl _ _
   ·exact Leafy.leaf _ _
  have hbind:run K m ((symCode c fn inl x s).bind fun x s'=>match x with | .normal=>symCode c fn inl y s' | x=>.leaf x s') r=some out→(Code.seq x y).wp c.P (QOut bd st a.defers out) a w:=by
   intro hr
   obtain ⟨e,s1,r1,h1,h2⟩:=bind_leafy (code_leafy hcl _ _) hf hr
   refine wp_seq (Code.wp_mono ?_ (ihx s r g a w _ h h1))
   rintro e' a' w' ⟨hd,x',s',r',g',heq,hR,he⟩
   cases heq
   subst he
   split at h2
   ·have:=ihy _ _ _ a' w' out hR h2
    rw [hd] at this
    exact this
   ·rename_i hne
    simp only [run] at h2
    cases h2
    cases e with
    | normal=>exact (hne rfl).elim
    | exit id=>exact ⟨hd,_,_,_,_,rfl,hR,rfl⟩
    | ret=>exact ⟨hd,_,_,_,_,rfl,hR,rfl⟩
  simp only [symCode] at hr
  split at hr
  ·rename_i hnorm
   obtain ⟨e,s1,r1,rfl⟩:=code_leafy hcl _ _ _ _ hr
   refine wp_seq (Code.wp_mono ?_ (ihx s r g a w _ h hr))
   rintro e' a' w' ⟨hd,x',s',r',g',heq,hR,he⟩
   cases heq
   subst he
   cases e with
   | normal=>exact absurd hnorm (normals_run _ _ _ _ hr)
   | exit id=>exact ⟨hd,_,_,_,_,rfl,hR,rfl⟩
   | ret=>exact ⟨hd,_,_,_,_,rfl,hR,rfl⟩
  ·exact hbind hr
  ·split at hr
   ·exact hbind hr
   ·split at hr
    case h_2=>simp only [run] at hr;cases hr
    rename_i k hk _ vs0 T hmeet
    simp only [run] at hr
    have fin:∀out1,run K m ((symCode c fn inl x s).toJumps (c.hint fn) k T 0) r=some out1 →
      (∀us,out1=.jump 0 us→run K m (symCode c fn inl y (T.toSt T.base)) (envOf us)=some out)→(∀x s r,out1=.leaf x s r→out=.leaf x s r)→(Code.seq x y).wp c.P (QOut bd st a.defers out) a w:=by
     intro out1 hr1 hj hl
     obtain ⟨e,s1,r1,h1,h2⟩:=toJumps_leafy (code_leafy hcl _ _) hr1
     refine wp_seq (Code.wp_mono ?_ (ihx s r g a w _ h h1))
     rintro e' a' w' ⟨hd,x',s',r',g',heq,hR,he⟩
     cases heq
     subst he
     rcases h2 with ⟨rfl,vs,h3,h4⟩ | ⟨hne,h3⟩
     ·obtain ⟨g2,hR2⟩:=meet_ok hR h3
      have:=ihy _ _ _ a' w' out hR2 (hj _ h4)
      rw [hd] at this
      exact this
     ·have:=hl _ _ _ h3
      subst this
      cases e with
      | normal=>exact (hne rfl).elim
      | exit id=>exact ⟨hd,_,_,_,_,rfl,hR,rfl⟩
      | ret=>exact ⟨hd,_,_,_,_,rfl,hR,rfl⟩
    split at hr
    ·rename_i us hr1
     exact fin _ hr1 (fun us' he=>by cases he;exact hr) (fun _ _ _ he=>by cases he)
    ·rename_i l us hr1
     obtain ⟨_,_,_,_,⟨_,_,_,h3⟩ | ⟨_,h3⟩⟩:=toJumps_leafy (code_leafy hcl _ _) hr1
     ·cases h3
     ·cases h3
    ·rename_i x1 s1 r1 hr1
     cases hr
     exact fin _ hr1 (fun us' he=>by cases he) (fun _ _ _ he=>he)
    ·rename_i us hr1
     obtain ⟨_,_,_,_,⟨_,_,_,h3⟩ | ⟨_,h3⟩⟩:=toJumps_leafy (code_leafy hcl _ _) hr1
     ·cases h3
     ·cases h3
    ·cases hr
 | cond x p q ihp ihq =>
  intro s r g a w out h hr
  simp only [symCode] at hr
  split at hr
  case h_2=>simp only [run] at hr;cases hr
  rename_i e hx
  have hv:=bool_of (get_a h hx).1
  split at hr
  ·rename_i hl
   refine wp_cond_true (by rw [hv,litB_eq hl r]) (ihp _ _ _ _ _ _ h hr)
  ·rename_i hl
   refine wp_cond_false (by rw [hv,litB_eq hl r]) (ihq _ _ _ _ _ _ h hr)
  ·simp only [run] at hr
   split at hr
   ·rename_i hd
    exact wp_cond_true (by rw [hv,hd]) (ihp (s.asm e true) _ _ _ _ _ (h.asm hd) hr)
   ·rename_i hd
    have hd:den e r=false:=by simpa using hd
    exact wp_cond_false (by rw [hv,hd]) (ihq (s.asm e false) _ _ _ _ _ (h.asm hd) hr)
 | block id b ih =>
  intro s r g a w out h hr
  simp only [symCode] at hr
  obtain ⟨e,s1,r1,h1,h2⟩:=bind_leafy (code_leafy hcl _ _) (fun x s'=>by
   split
   ·split<;>exact Leafy.leaf _ _
   ·exact Leafy.leaf _ _) hr
  refine wp_block (Code.wp_mono ?_ (ih s r g a w _ h h1))
  rintro e' a' w' ⟨hd,x',s',r',g',heq,hR,he⟩
  cases heq
  subst he
  cases e with
  | normal=>simp only [run] at h2;cases h2;exact ⟨hd,_,_,_,_,rfl,hR,rfl⟩
  | ret=>simp only [run] at h2;cases h2;exact ⟨hd,_,_,_,_,rfl,hR,rfl⟩
  | exit j =>
   simp only [Exit.inBlock] at h2 ⊢
   split at h2
   ·rename_i hj
    rw [if_pos hj]
    simp only [run] at h2;cases h2;exact ⟨hd,_,_,_,_,rfl,hR,rfl⟩
   ·rename_i hj
    rw [if_neg hj]
    simp only [run] at h2;cases h2;exact ⟨hd,_,_,_,_,rfl,hR,rfl⟩
 | loop b ih =>
  intro s r g a w out h hr
  simp only [symCode] at hr
  split at hr
  ·simp only [run] at hr;cases hr
  split at hr
  case h_2=>simp only [run] at hr;cases hr
  rename_i k hk _ vs0 T hmeet
  simp only [run] at hr
  obtain ⟨g0,h0⟩:=meet_ok h hmeet
  have key:∀(n:Nat) (us:List AV) (g:Nat→G) (a':Act) (w:World),a'.defers=a.defers→R bd (·<T.base) (T.toSt T.base) (envOf us) g a'.tmps st w→loopN (run K m ((symCode c fn inl b (T.toSt T.base)).toJumps (c.hint fn) k T 0)) n us=some out →
    ∀(fr:Frame) (kk:List Item) (cs:List Frame),∃e a2 w2,QOut bd st a.defers out e a2 w2∧Arrives c.P (lone (fr.at a' (.code b::.inLoop b::kk)) cs w) fr kk cs e a2 w2:=by
   intro n
   induction n with
   | zero=>intro us g a' w _ _ hl;simp only [loopN] at hl;cases hl
   | succ n ihn =>
    intro us g a' w hd hR hl fr kk cs
    simp only [loopN] at hl
    have round:∀out1,run K m ((symCode c fn inl b (T.toSt T.base)).toJumps (c.hint fn) k T 0) (envOf us)=some out1 →
      (∀us',out1=.jump 0 us'→loopN (run K m ((symCode c fn inl b (T.toSt T.base)).toJumps (c.hint fn) k T 0)) n us'=some out)→(∀x s r,out1=.leaf x s r→out=.leaf x s r) →
      ∃e a2 w2,QOut bd st a.defers out e a2 w2∧Arrives c.P (lone (fr.at a' (.code b::.inLoop b::kk)) cs w) fr kk cs e a2 w2:=by
     intro out1 hr1 hj hlf
     obtain ⟨x1,s1,r1,h1,h2⟩:=toJumps_leafy (code_leafy hcl _ _) hr1
     obtain ⟨e,a1,w1,⟨hd1,x',s',r',g',heq,hR1,he⟩,harr⟩:=ih _ _ _ a' w _ hR h1 fr (.inLoop b::kk) cs
     cases heq
     subst he
     rcases h2 with ⟨rfl,vs,h3,h4⟩ | ⟨hne,h3⟩
     ·obtain ⟨g2,hR2⟩:=meet_ok hR1 h3
      obtain ⟨e2,a2,w2,hq,harr2⟩:=ihn _ _ a1 w1 (hd1.trans hd) hR2 (hj _ h4) fr kk cs
      exact ⟨e2,a2,w2,hq,.of_steps (Steps.trans harr (.one step_inLoop)) harr2⟩
     ·have hout:=hlf _ _ _ h3
      subst hout
      cases x1 with
      | normal=>exact (hne rfl).elim
      | exit id=>exact ⟨_,a1,w1,⟨hd1.trans hd,_,_,_,_,rfl,hR1,rfl⟩,.pass (x:=.inLoop b) rfl (fun _ _=>.inl (by simp)) harr⟩
      | ret=>exact ⟨_,a1,w1,⟨hd1.trans hd,_,_,_,_,rfl,hR1,rfl⟩,.pass (x:=.inLoop b) rfl (fun _ _=>.inl (by simp)) harr⟩
    split at hl
    ·rename_i us' hr1
     exact round _ hr1 (fun us2 he=>by cases he;exact hl) (fun _ _ _ he=>by cases he)
    ·rename_i l us' hr1
     obtain ⟨_,_,_,_,⟨_,_,_,h3⟩ | ⟨_,h3⟩⟩:=toJumps_leafy (code_leafy hcl _ _) hr1
     ·cases h3
     ·cases h3
    ·rename_i x1 s1 r1 hr1
     cases hl
     exact round _ hr1 (fun us' he=>by cases he) (fun _ _ _ he=>he)
    ·rename_i us' hr1
     obtain ⟨_,_,_,_,⟨_,_,_,h3⟩ | ⟨_,h3⟩⟩:=toJumps_leafy (code_leafy hcl _ _) hr1
     ·cases h3
     ·cases h3
    ·cases hl
  intro fr kk cs
  obtain ⟨e,a2,w2,hq,harr⟩:=key m _ g0 a w rfl h0 hr fr kk cs
  exact ⟨e,a2,w2,hq,.of_steps (.one step_loop) harr⟩
 | region id ops draw=>intro s r g a w out h hr;exact region_ok hm hcall hinl hcl h hr
 | _=>intro s r g a w out h hr;simp only [symCode,run] at hr;cases hr
end
end Go.Sm
namespace Go.Sm
set_option linter.unusedVariables false
set_option linter.unusedSimpArgs false
section
variable {c:Cx} {K:Sem1} {m:Nat}
theorem inl_leafy:∀n,InlCl K m (symInl c n)
 | 0=>fun f args s k hk=>Leafy.bad
 | n+1=>fun f args s k hk=>by
  simp only [symInl]
  split
  ·split
   ·split
    ·refine (code_leafy (inl_leafy n) _ _).bind fun x s'=>?_
     split
     ·exact Leafy.bad
     ·split
      ·split
       ·exact hk _ _
       ·exact Leafy.bad
      ·exact Leafy.bad
     ·exact Leafy.bad
    ·exact Leafy.bad
   ·exact Leafy.bad
  ·exact Leafy.bad
theorem SReps.uns {w:World} {M:Nat→Prop} {g:Nat→G} {r:Env}:∀n,SReps w M g r (List.replicate n (.a .un)) (List.replicate n undef)
 | 0=>trivial
 | n+1=>⟨rfl,SReps.uns n⟩
theorem inl_ok (hm:c.P.follows .mixedOrders=true) (hcall:CallOK c K):∀n,InlOK c K m (symInl c n)
 | 0=>fun f args s k bd r g tm st w vs out _ _ _ _ hr=>by simp only [symInl,run] at hr;cases hr
 | n+1=>fun f args s k bd r g tm st w vs out h hargs hall hk hr=>by
  simp only [symInl] at hr
  split at hr
  case h_2=>simp only [run] at hr;cases hr
  rename_i fn hfn
  split at hr
  case h_2=>simp only [run] at hr;cases hr
  rename_i b hbody
  split at hr
  case isFalse=>simp only [run] at hr;cases hr
  rename_i hok
  have hlen:=hargs.length
  have hf:∀(x:Ex) (s':St),Leafy K m (match x,s'.stk with
    | .exit _,_=>.bad
    | _,cur::stk =>
     match resSVs c.P s' fn.results.toList with
     | some l=>match single l with
      | some v=>k v ⟨cur,stk,s'.heap,s'.base,s'.np,s'.kp⟩
      | none=>.bad
     | none=>.bad
    | _,[]=>.bad):=by
   intro x s'
   split
   ·exact Leafy.bad
   ·split
    ·split
     ·exact hk _ _
     ·exact Leafy.bad
    ·exact Leafy.bad
   ·exact Leafy.bad
  obtain ⟨e,s1,r1,h1,h2⟩:=bind_leafy (code_leafy (inl_leafy n) _ _) hf hr
  have hR:R bd (·<s.base) ⟨args++List.replicate (fn.ntmps - args.length) (.a .un),s.cur::s.stk,s.heap,s.base,s.np,s.kp⟩ r g (vs.toArray++Array.replicate (fn.ntmps - vs.toArray.size) undef) (tm::st) w:=by
   refine h.slots (cur:=args++List.replicate (fn.ntmps - args.length) (.a .un)) (stk:=s.cur::s.stk) (st':=tm::st) ?_ ⟨h.cur,h.stk⟩ (fun v hv=>?_) (fun f hf=>?_)
   ·rw [Array.toList_append,Array.toList_replicate,List.size_toArray,←hlen]
    exact hargs.app (SReps.uns _)
   ·rcases List.mem_append.1 hv with hv | hv
    ·exact hall v hv
    ·rw [(List.mem_replicate.1 hv).2];trivial
   ·rcases List.mem_cons.1 hf with rfl | hf
    ·exact h.ncur
    ·exact h.nstk f hf
  refine ⟨⟨fn,hfn,hok.2,by rw [hbody];rfl⟩,?_⟩
  refine calls_of_wp hfn hbody (Code.wp_mono ?_ (code_ok hm hcall (inl_ok hm hcall n) (inl_leafy n) b _ r g { tmps:=vs.toArray++Array.replicate (fn.ntmps - vs.toArray.size) undef,defers:=[] } w _ hR h1))
  rintro e' a' w' ⟨hd,x',s',r',g',heq,hR',he⟩
  cases heq
  subst he
  have body : (∃ cur stk, s1.stk = cur :: stk ∧ run K m (match resSVs c.P s1 fn.results.toList with
        | some l=>match single l with
         | some v=>k v ⟨cur,stk,s1.heap,s1.base,s1.np,s1.kp⟩
         | none=>.bad
        | none=>.bad) r1=some out)→a'.defers=[]∧∃v,(results fn a'.tmps).run c.P w'=.ok v w' ∧
    ∃v_1 sv s' r' g',Ending.returned v=Ending.returned v_1∧R bd (·<s'.base) s' r' g' tm st w'∧SRep w' (Mt bd.Z s'.heap g') g' r' sv v_1∧sv.all (Atom.ok (·<s'.base) s'.heap)∧run K m (k sv s') r'=some out:=by
   rintro ⟨cur,stk,hstk,hrun⟩
   split at hrun
   case h_2=>simp only [run] at hrun;cases hrun
   rename_i l hl
   split at hrun
   case h_2=>simp only [run] at hrun;cases hrun
   rename_i v hv
   obtain ⟨u,e1,e2,e3⟩:=results_ok hR' hl hv
   have hs:=hR'.stk
   rw [hstk] at hs
   refine ⟨hd,u,e1,u,v,⟨cur,stk,s1.heap,s1.base,s1.np,s1.kp⟩,r1,g',rfl,?_,e2,e3,hrun⟩
   exact hR'.slots (cur:=cur) (stk:=stk) hs.1 hs.2 (fun v hv=>hR'.nstk cur (by rw [hstk];exact List.mem_cons_self ..) v hv) (fun f hf=>hR'.nstk f (by rw [hstk];exact List.mem_cons_of_mem _ hf))
  cases e with
  | exit id=>simp only [run] at h2;cases h2
  | normal =>
   cases hstk:s1.stk with
   | nil=>simp only [hstk,run] at h2;cases h2
   | cons cur stk=>simp only [hstk] at h2;exact body ⟨cur,stk,hstk,h2⟩
  | ret =>
   cases hstk:s1.stk with
   | nil=>simp only [hstk,run] at h2;cases h2
   | cons cur stk=>simp only [hstk] at h2;exact body ⟨cur,stk,hstk,h2⟩
end
end Go.Sm
namespace Go.Sm
set_option linter.unusedVariables false
set_option linter.unusedSimpArgs false
section
variable {bd bd':Bd} {N N':Nat→Prop} {s s':St} {r r':Env} {g:Nat→G} {tm tm':Array Value} {st st':List (Array Value)} {w:World} {ρ:Nat→Option Nat} {M':Nat→Prop}
theorem R.view (h:R bd N s r g tm st w) (hdom:∀k B',s'.heap k=some B'→∀i,ρ k=some i→∃B,s.heap i=some B)
  (hinj:∀k k' i,(s'.heap k).isSome=true→(s'.heap k').isSome=true→ρ k=some i→ρ k'=some i→k=k')
  (hheap:∀k B',s'.heap k=some B'→BRep w (Mt bd'.Z s'.heap (gren ρ g)) (gren ρ g) r' k B')
  (hcur:SReps w (Mt bd'.Z s'.heap (gren ρ g)) (gren ρ g) r' s'.cur tm'.toList) (hstk:SRepss w (Mt bd'.Z s'.heap (gren ρ g)) (gren ρ g) r' s'.stk st')
  (hown:∀k B,s'.heap k=some B→∀b∈(gren ρ g k).foot,bd'.M0 b∨bd'.w0.heap.size≤b) (hw:Wd bd' w) (hpin:∀k p,bd'.pins[k]?=some p→k<s'.np→(gren ρ g k).blk=p.blk∧(gren ρ g k).val=p.val)
  (hnp:s'.np=bd'.pins.length) (hkp:s'.kp=bd'.kp) (hkept:∀c∈bd'.kp,cell w (gren ρ g c.1).blk c.2=bd'.kept c.1 c.2) (hkpl:∀c∈bd'.kp,c.1<s'.np∧∃l,s'.heap c.1=some (.box l))
  (n1:∀v∈s'.cur,v.all (Atom.ok N' s'.heap)) (n2:∀f∈s'.stk,∀v∈f,v.all (Atom.ok N' s'.heap)) (n3:∀id B,s'.heap id=some B→B.ok N' s'.heap) :
  R bd' N' s' r' (gren ρ g) tm' st' w:=by
 have foot:∀k B',s'.heap k=some B'→∀b∈(gren ρ g k).foot,∃i B,ρ k=some i∧s.heap i=some B∧b∈(g i).foot:=by
  intro k B' hk b hb
  cases hi:ρ k with
  | none=>simp [gren,hi,nilG] at hb
  | some i =>
   obtain ⟨B,hB⟩:=hdom k B' hk i hi
   rw [gren_some hi] at hb
   exact ⟨i,B,rfl,hB,hb⟩
 refine { cur:=hcur,stk:=hstk,heap:=hheap,inj:=?_,nodup:=?_,own:=hown,lt:=?_,world:=hw,pin:=hpin,np:=hnp,kp:=hkp,kept:=hkept,kpl:=hkpl,ncur:=n1,nstk:=n2,nheap:=n3 }
 ·intro k k' B B' b hk hk' hb hb'
  obtain ⟨i,C,e1,e2,e3⟩:=foot k B hk b hb
  obtain ⟨i',C',e1',e2',e3'⟩:=foot k' B' hk' b hb'
  have:=h.inj i i' C C' b e2 e2' e3 e3'
  subst this
  exact hinj k k' i (by simp [hk]) (by simp [hk']) e1 e1'
 ·intro k B hk
  cases hi:ρ k with
  | none=>simp [gren,hi,nilG]
  | some i =>
   obtain ⟨B,hB⟩:=hdom k B hk i hi
   rw [gren_some hi]
   exact h.nodup i B hB
 ·intro k B hk b hb
  obtain ⟨i,C,e1,e2,e3⟩:=foot k B hk b hb
  exact h.lt i C e2 b e3
theorem toE_view (h:R bd N s r g tm st w) (hM:∀b,M' b→Mt bd.Z s.heap g b) {b:Atom} {v:Value} {t:Ty} {e:E t} (hv:ARep w (Mt bd.Z s.heap g) g r b v) (he:b.toE s.heap t=some e)
  (hrd:∀i∈refsOf [b],∀B,s.heap i=some B→∀x∈(g i).foot,¬M' x):Rep w M' t (den e r) [v]:=by
 have hk:Kept w (Mt bd.Z s.heap g) w M':=⟨fun _ _ _=>rfl,fun b _ h=>hM b h⟩
 cases b with
 | x u e'=>exact (coe_rep he hv).keep hk
 | xc u e'=>exact (coe_rep he hv.1).keep hk
 | nil =>
  simp only [Atom.toE] at he
  split at he
  ·cases he
   simp only [ARep] at hv
   subst hv
   exact ⟨none,0,rfl,Nat.le_refl _,fun _=>by simp [den],fun _=>rfl,fun p hp=>by cases hp⟩
  ·cases he
 | ref id =>
  simp only [Atom.toE] at he
  split at he
  ·rename_i dp u e' hid
   simp only [ARep] at hv
   have hr:=OwnA.rep (h.heap id _ hid) hk (hrd id (by simp [refsOf]) _ hid)
   rw [←hv] at hr
   exact coe_rep he hr
  ·cases he
 | nref id u k i j =>
  simp only [Atom.toE] at he
  obtain ⟨a,ha,h2⟩:=Option.bind_eq_some_iff.1 he
  unfold nestE at ha
  split at ha
  ·rename_i t' e' hid
   split at ha
   ·rename_i ht
    subst ht
    exact coe_rep h2 (nref_x (h.heap id _ hid) hk (hrd id (by simp [refsOf]) _ hid) ha hv)
   ·cases ha
  ·cases ha
 | _=>cases he
theorem matchE_view (h:R bd N s r g tm st w) (hM:∀b,M' b→Mt bd.Z s.heap g b) {b:Atom} {v:Value} {t:Ty} {e:E t} {gs:List (E .bool)} (hv:ARep w (Mt bd.Z s.heap g) g r b v) (he:matchE s.heap t b=some (gs,e))
  (hg:∀c∈gs,den c r=true) (hrd:∀i∈refsOf [b],∀B,s.heap i=some B→∀x∈(g i).foot,¬M' x):Rep w M' t (den e r) [v]:=by
 unfold matchE at he
 split at he
 ·rename_i e' h1
  simp only [Option.some.injEq,Prod.mk.injEq] at he
  obtain ⟨rfl,rfl⟩:=he
  exact toE_view h hM hv h1 hrd
 ·split at he
  ·rename_i u
   obtain ⟨e',h1,h2⟩:=Option.map_eq_some_iff.1 he
   simp only [Prod.mk.injEq] at h2
   obtain ⟨rfl,rfl⟩:=h2
   exact (vw_rep h hM h1 hv hrd).1
  ·rename_i u
   obtain ⟨e',h1,h2⟩:=Option.map_eq_some_iff.1 he
   simp only [Prod.mk.injEq] at h2
   obtain ⟨rfl,rfl⟩:=h2
   obtain ⟨x,cp,a1,a2,a3,a4,a5⟩:=toE_view h hM hv h1 hrd
   have hne:=hg _ (List.mem_singleton.2 rfl)
   simp only [den,O1.d,Bool.not_eq_true',List.isEmpty_eq_false_iff] at hne
   refine ⟨x,cp,a1,a2,fun _=>⟨fun hx=>?_,fun hx=>(hne hx).elim⟩,a4,a5⟩
   have h0:=a4 hx
   have hpos:=List.length_pos_iff.2 hne
   omega
  ·cases he
theorem den_at {t:Ty} {d:t.D} {i:Nat} (h:r' i=⟨t,d⟩):den (.var t i) r'=d:=by
 simp only [den];rw [h];exact AV.as_mk t d
theorem mkE_view (h:R bd N s r g tm st w) (hM:∀b,M' b→Mt bd.Z s.heap g b):∀{t:Ty} {l rest:List Atom} {u:E t} {vs:List Value},mkE s.heap t l=some (u,rest)→AReps w (Mt bd.Z s.heap g) g r l vs →
  (∀b∈l,∀i∈refsOf [b],∀B,s.heap i=some B→∀x∈(g i).foot,¬M' x)→∃us ws,vs=us++ws∧Rep w M' t (den u r) us∧AReps w (Mt bd.Z s.heap g) g r rest ws∧∀b∈rest,b∈l:=by
 intro t
 have leaf:∀{t:Ty},(∀(l:List Atom),mkE s.heap t l=match l with | x::l=>(x.toE s.heap t).map (·,l) | []=>none)→∀{l rest:List Atom} {u:E t} {vs:List Value},mkE s.heap t l=some (u,rest)→AReps w (Mt bd.Z s.heap g) g r l vs →
   (∀b∈l,∀i∈refsOf [b],∀B,s.heap i=some B→∀x∈(g i).foot,¬M' x)→∃us ws,vs=us++ws∧Rep w M' t (den u r) us∧AReps w (Mt bd.Z s.heap g) g r rest ws∧∀b∈rest,b∈l:=by
  intro t hmk l rest u vs hm hr hrd
  rw [hmk] at hm
  cases l with
  | nil=>cases hm
  | cons b l =>
   cases vs with
   | nil=>exact hr.elim
   | cons v vs =>
    obtain ⟨e,he,hm⟩:=Option.map_eq_some_iff.1 hm
    cases hm
    exact ⟨[v],vs,rfl,toE_view h hM hr.1 he (hrd b (List.mem_cons_self ..)),hr.2,fun b hb=>List.mem_cons_of_mem _ hb⟩
 induction t with
 | int k=>exact leaf fun l=>by cases l<;>rfl
 | bool=>exact leaf fun l=>by cases l<;>rfl
 | str=>exact leaf fun l=>by cases l<;>rfl
 | sl c e ih=>exact leaf fun l=>by cases l<;>rfl
 | pr x y ihx ihy =>
  intro l rest u vs hm hr hrd
  simp only [mkE] at hm
  split at hm
  case h_2=>cases hm
  rename_i u1 l1 h1
  split at hm
  case h_2=>cases hm
  rename_i u2 l2 h2
  cases hm
  obtain ⟨us1,ws1,rfl,a3,a5,a6⟩:=ihx h1 hr hrd
  obtain ⟨us2,ws2,rfl,b3,b5,b6⟩:=ihy h2 a5 fun b hb=>hrd b (a6 b hb)
  exact ⟨us1++us2,ws2,by simp,⟨us1,us2,rfl,a3,b3⟩,b5,fun b hb=>a6 b (b6 b hb)⟩
theorem refsOf_mem {l:List Atom} {b:Atom} {i:Nat} (hb:b∈l) (hi:i∈refsOf [b]):i∈refsOf l:=by
 simp only [refsOf,List.mem_filterMap,List.mem_singleton,exists_eq_left] at hi ⊢
 exact ⟨b,hb,hi⟩
theorem matchC_view (h:R bd N s r g tm st w) (hM:∀b,M' b→Mt bd.Z s.heap g b) {v0 p:Nat} {c:CS} {a:Atom} {v:Value} {o:MO} (hm:matchC s.heap v0 p c a=some o) (hg:∀c∈o.gs,den c r=true) (hv:ARep w (Mt bd.Z s.heap g) g r a v)
  (hρ:∀q t,(q,t)∈o.tg→ρ q=t) (hrd:∀i∈o.rd,∀B,s.heap i=some B→∀x∈(g i).foot,¬M' x) (hr:∀i x,o.es[i]?=some x→r' (v0+i)=denA x r) :
  o.es.length=1∧o.tg.map (·.1)=(c.bl v0 p).map (·.1)∧(∀q i,(q,some i)∈o.tg→∃B,s.heap i=some B)∧ARep w M' (gren ρ g) r' (c.at v0 p) v∧∀k B,(k,B)∈c.bl v0 p→BRep w M' (gren ρ g) r' k B:=by
 have hk:Kept w (Mt bd.Z s.heap g) w M':=⟨fun _ _ _=>rfl,fun b _ h=>hM b h⟩
 cases c with
 | p t =>
  simp only [matchC] at hm
  obtain ⟨⟨gs,e⟩,h1,rfl⟩:=Option.map_eq_some_iff.1 hm
  refine ⟨rfl,rfl,fun q i hq=>(by cases hq),?_,fun k B hB=>by cases hB⟩
  have hd:=den_at (hr 0 _ rfl)
  simp only [CS.at,ARep]
  rw [Nat.add_zero] at hd
  rw [hd]
  exact matchE_view h hM hv h1 hg hrd
 | arr dp t =>
  simp only [matchC] at hm
  split at hm
  ·rename_i i
   split at hm
   ·rename_i dp' t' e hi
    split at hm
    case isFalse=>cases hm
    rename_i hdp
    split at hm
    case isFalse=>cases hm
    rename_i ht
    subst hdp
    subst ht
    cases hm
    have hpi:ρ p=some i:=hρ p (some i) (List.mem_singleton.2 rfl)
    have hd:(den (.var (.sl false t') v0) r':List t'.D)=den e r:=den_at (hr 0 _ rfl)
    refine ⟨rfl,rfl,fun q i' hq=>?_,?_,fun k B hB=>?_⟩
    ·simp only [List.mem_singleton,Prod.mk.injEq,Option.some.injEq] at hq
     obtain ⟨-,rfl⟩:=hq
     exact ⟨_,hi⟩
    ·simp only [CS.at,ARep] at hv ⊢
     rw [hv,gren_some hpi]
    ·simp only [CS.bl,List.mem_singleton,Prod.mk.injEq] at hB
     obtain ⟨rfl,rfl⟩:=hB
     simp only [BRep]
     rw [gren_some hpi,hd]
     exact OwnA.keep hk (fun _ _=>rfl) (h.heap i _ hi)
   ·cases hm
  ·cases hm
   have hpi:ρ p=none:=hρ p none (List.mem_singleton.2 rfl)
   have hd:(den (.var (.sl false t) v0) r':List t.D)=[]:=den_at (hr 0 _ rfl)
   refine ⟨rfl,rfl,fun q i' hq=>?_,?_,fun k B hB=>?_⟩
   ·simp at hq
   ·simp only [CS.at,ARep] at hv ⊢
    rw [hv];simp [gren,hpi,nilG]
   ·simp only [CS.bl,List.mem_singleton,Prod.mk.injEq] at hB
    obtain ⟨rfl,rfl⟩:=hB
    exact nil_rep (by simp [gren,hpi]) hd
  ·cases hm
 | box t =>
  simp only [matchC] at hm
  split at hm
  case h_2=>cases hm
  rename_i i
  split at hm
  case h_2=>cases hm
  rename_i l hi
  split at hm
  case h_2=>cases hm
  rename_i e he
  cases hm
  have hpi:ρ p=some i:=hρ p (some i) (List.mem_singleton.2 rfl)
  have hd:den (.var t v0) r'=den e r:=den_at (hr 0 _ rfl)
  obtain ⟨hb1,cc,ty,hb2,hb3⟩:=h.heap i _ hi
  obtain ⟨us,ws,e1,e2,e3,-⟩:=mkE_view h hM he hb3 fun b hb i hi=>hrd i (refsOf_mem hb hi)
  have hws:ws=[]:=by
   cases ws with
   | nil=>rfl
   | cons=>exact e3.elim
  subst hws
  rw [List.append_nil] at e1
  refine ⟨rfl,rfl,fun q i' hq=>?_,?_,fun k B hB=>?_⟩
  ·simp only [List.mem_singleton,Prod.mk.injEq,Option.some.injEq] at hq
   obtain ⟨-,rfl⟩:=hq
   exact ⟨_,hi⟩
  ·simp only [CS.at,ARep] at hv ⊢
   rw [hv,gren_some hpi]
  ·simp only [CS.bl,List.mem_singleton,Prod.mk.injEq] at hB
   obtain ⟨rfl,rfl⟩:=hB
   simp only [BRep]
   rw [gren_some hpi]
   refine ⟨hb1,cc,ty,hb2,cellsE_rep ?_⟩
   rw [hd,e1]
   exact e2
 | eat dp t =>
  simp only [matchC] at hm
  split at hm
  ·rename_i i
   split at hm
   ·rename_i dp' t' e hi
    split at hm
    case isFalse=>cases hm
    rename_i hdp
    split at hm
    case isFalse=>cases hm
    rename_i ht
    subst hdp
    subst ht
    cases hm
    have hpi:ρ (2000+v0)=some i:=hρ (2000+v0) (some i) (List.mem_singleton.2 rfl)
    have hd:(den (.var (.sl false t') v0) r':List t'.D)=den e r:=den_at (hr 0 _ rfl)
    refine ⟨rfl,rfl,fun q i' hq=>?_,?_,fun k B hB=>?_⟩
    ·simp only [List.mem_singleton,Prod.mk.injEq,Option.some.injEq] at hq
     obtain ⟨-,rfl⟩:=hq
     exact ⟨_,hi⟩
    ·simp only [CS.at,ARep] at hv ⊢
     rw [hv,gren_some hpi]
    ·simp only [CS.bl,List.mem_singleton,Prod.mk.injEq] at hB
     obtain ⟨rfl,rfl⟩:=hB
     simp only [BRep]
     rw [gren_some hpi,hd]
     exact OwnA.keep hk (fun _ _=>rfl) (h.heap i _ hi)
   ·cases hm
  ·cases hm
   have hpi:ρ (2000+v0)=none:=hρ (2000+v0) none (List.mem_singleton.2 rfl)
   have hd:(den (.var (.sl false t) v0) r':List t.D)=[]:=den_at (hr 0 _ rfl)
   refine ⟨rfl,rfl,fun q i' hq=>?_,?_,fun k B hB=>?_⟩
   ·simp at hq
   ·simp only [CS.at,ARep] at hv ⊢
    rw [hv];simp [gren,hpi,nilG]
   ·simp only [CS.bl,List.mem_singleton,Prod.mk.injEq] at hB
    obtain ⟨rfl,rfl⟩:=hB
    exact nil_rep (by simp [gren,hpi]) hd
  ·cases hm
 | self f =>
  simp only [matchC] at hm
  split at hm
  case h_2=>cases hm
  rename_i i
  split at hm
  case h_2=>cases hm
  rename_i b hi
  cases hm
  have hpi:ρ p=some i:=hρ p (some i) (List.mem_singleton.2 rfl)
  obtain ⟨hb1,cc,ty,hb2,hb3⟩:=h.heap i _ hi
  refine ⟨rfl,rfl,fun q i' hq=>?_,?_,fun k B hB=>?_⟩
  ·simp only [List.mem_singleton,Prod.mk.injEq,Option.some.injEq] at hq
   obtain ⟨-,rfl⟩:=hq
   exact ⟨_,hi⟩
  ·simp only [CS.at,ARep] at hv ⊢
   rw [hv,gren_some hpi]
  ·simp only [CS.bl,List.mem_singleton,Prod.mk.injEq] at hB
   obtain ⟨rfl,rfl⟩:=hB
   simp only [BRep]
   rw [gren_some hpi]
   refine ⟨hb1,cc,ty,hb2,?_⟩
   generalize cc.toList=vs at hb3 ⊢
   cases vs with
   | nil=>exact hb3.elim
   | cons v vs =>
    cases vs with
    | nil=>exact ⟨trivial,trivial⟩
    | cons=>exact hb3.2.elim
 | rbx dp t =>
  simp only [matchC] at hm
  split at hm
  case h_2=>cases hm
  rename_i i
  have mem2:∀{k:Nat} {B:Blk},(k,B)∈(CS.rbx dp t).bl v0 p→(k=p∧B=.box [.ref (3000+v0)])∨(k=3000+v0∧B=.arr dp t (.var (.sl false t) v0)):=by
   intro k B hB
   simp only [CS.bl,List.mem_cons,Prod.mk.injEq,List.not_mem_nil,or_false] at hB
   exact hB
  split at hm
  case h_3=>cases hm
  ·rename_i j hi
   split at hm
   case h_2=>cases hm
   rename_i dp' t' e hj
   split at hm
   case isFalse=>cases hm
   rename_i hdp
   split at hm
   case isFalse=>cases hm
   rename_i ht
   subst hdp
   subst ht
   cases hm
   have hpi:ρ p=some i:=hρ p (some i) (List.mem_cons_self ..)
   have hpj:ρ (3000+v0)=some j:=hρ (3000+v0) (some j) (List.mem_cons_of_mem _ (List.mem_singleton.2 rfl))
   have hd:(den (.var (.sl false t') v0) r':List t'.D)=den e r:=den_at (hr 0 _ rfl)
   obtain ⟨hb1,cc,ty,hb2,hb3⟩:=h.heap i _ hi
   refine ⟨rfl,rfl,fun q i' hq=>?_,?_,fun k B hB=>?_⟩
   ·simp only [List.mem_cons,Prod.mk.injEq,Option.some.injEq,List.not_mem_nil,or_false] at hq
    rcases hq with ⟨-,rfl⟩ | ⟨-,rfl⟩
    ·exact ⟨_,hi⟩
    ·exact ⟨_,hj⟩
   ·simp only [CS.at,ARep] at hv ⊢
    rw [hv,gren_some hpi]
   ·rcases mem2 hB with ⟨rfl,rfl⟩ | ⟨rfl,rfl⟩
    ·simp only [BRep]
     rw [gren_some hpi]
     refine ⟨hb1,cc,ty,hb2,?_⟩
     generalize cc.toList=vs at hb3 ⊢
     cases vs with
     | nil=>exact hb3.elim
     | cons v vs =>
      cases vs with
      | nil =>
       refine ⟨?_,trivial⟩
       have h5:=hb3.1
       simp only [ARep] at h5 ⊢
       rw [h5,gren_some hpj]
      | cons=>exact hb3.2.elim
    ·simp only [BRep]
     rw [gren_some hpj,hd]
     exact OwnA.keep hk (fun _ _=>rfl) (h.heap j _ hj)
  ·rename_i hi
   cases hm
   have hpi:ρ p=some i:=hρ p (some i) (List.mem_cons_self ..)
   have hpj:ρ (3000+v0)=none:=hρ (3000+v0) none (List.mem_cons_of_mem _ (List.mem_singleton.2 rfl))
   have hd:(den (.var (.sl false t) v0) r':List t.D)=[]:=den_at (hr 0 _ rfl)
   obtain ⟨hb1,cc,ty,hb2,hb3⟩:=h.heap i _ hi
   refine ⟨rfl,rfl,fun q i' hq=>?_,?_,fun k B hB=>?_⟩
   ·simp only [List.mem_cons,Prod.mk.injEq,Option.some.injEq,List.not_mem_nil,or_false,reduceCtorEq,and_false] at hq
    obtain ⟨-,rfl⟩:=hq
    exact ⟨_,hi⟩
   ·simp only [CS.at,ARep] at hv ⊢
    rw [hv,gren_some hpi]
   ·rcases mem2 hB with ⟨rfl,rfl⟩ | ⟨rfl,rfl⟩
    ·simp only [BRep]
     rw [gren_some hpi]
     refine ⟨hb1,cc,ty,hb2,?_⟩
     generalize cc.toList=vs at hb3 ⊢
     cases vs with
     | nil=>exact hb3.elim
     | cons v vs =>
      cases vs with
      | nil =>
       refine ⟨?_,trivial⟩
       have h5:=hb3.1
       simp only [ARep] at h5 ⊢
       rw [h5];simp [gren,hpj,nilG]
      | cons=>exact hb3.2.elim
    ·exact nil_rep (by simp [gren,hpj]) hd
theorem matchC_len {h0:Nat→Option Blk} {v p:Nat} {c:CS} {a:Atom} {x:MO} (hx:matchC h0 v p c a=some x):x.es.length=1:=by
 unfold matchC at hx
 repeat' split at hx
 all_goals first | (cases hx;done) | (cases hx;rfl) | (obtain ⟨_,_,rfl⟩:=Option.map_eq_some_iff.1 hx;rfl)
theorem add_hr {x y:MO} {v0 n:Nat} (hl:x.es.length=n) (hr:∀i u,(x.add y).es[i]?=some u→r' (v0+i)=denA u r) :
  (∀i u,x.es[i]?=some u→r' (v0+i)=denA u r)∧∀i u,y.es[i]?=some u→r' (v0+n+i)=denA u r:=by
 refine ⟨fun i u hi=>hr i u ?_,fun i u hi=>?_⟩
 ·simp only [MO.add]
  rw [List.getElem?_append_left (List.getElem?_eq_some_iff.1 hi).1]
  exact hi
 ·rw [Nat.add_assoc]
  refine hr (n+i) u ?_
  simp only [MO.add]
  rw [List.getElem?_append_right (by omega),hl,Nat.add_sub_cancel_left]
  exact hi
theorem matchCS_view (h:R bd N s r g tm st w) (hM:∀b,M' b→Mt bd.Z s.heap g b):∀{l:List CS} {m:List Atom} {vs:List Value} {p v0:Nat} {o:MO},matchCS s.heap v0 p l m=some o→(∀c∈o.gs,den c r=true)→AReps w (Mt bd.Z s.heap g) g r m vs →
  (∀q t,(q,t)∈o.tg→ρ q=t)→(∀i∈o.rd,∀B,s.heap i=some B→∀x∈(g i).foot,¬M' x)→(∀i x,o.es[i]?=some x→r' (v0+i)=denA x r) →
  o.es.length=l.length∧o.tg.map (·.1)=(csB v0 p l).map (·.1)∧(∀q i,(q,some i)∈o.tg→∃B,s.heap i=some B)∧AReps w M' (gren ρ g) r' (csA v0 p l) vs∧∀k B,(k,B)∈csB v0 p l→BRep w M' (gren ρ g) r' k B
 | [],[],vs,p,v0,o,hm,hg,hv,hρ,hrd,hr=>by
  simp only [matchCS,Option.some.injEq] at hm
  subst hm
  cases vs with
  | nil=>exact ⟨rfl,rfl,fun q i hq=>(by simp at hq),trivial,fun k B hB=>by cases hB⟩
  | cons=>exact hv.elim
 | c::l,a::m,vs,p,v0,o,hm,hg,hv,hρ,hrd,hr=>by
  unfold matchCS at hm
  split at hm
  case h_2=>cases hm
  rename_i x y hx hy
  cases hm
  cases vs with
  | nil=>exact hv.elim
  | cons u vs =>
   have hx0:x.es.length=1:=matchC_len hx
   obtain ⟨hr1,hr2⟩:=add_hr hx0 hr
   obtain ⟨-,b2,b3,b4,b5⟩:=matchC_view (ρ:=ρ) h hM hx (fun c hc=>hg c (List.mem_append_left _ hc)) hv.1 (fun q t hq=>hρ q t (List.mem_append_left _ hq)) (fun i hi=>hrd i (List.mem_append_left _ hi)) hr1
   obtain ⟨c1,c2,c3,c4,c5⟩:=matchCS_view h hM hy (fun c hc=>hg c (List.mem_append_right _ hc)) hv.2 (fun q t hq=>hρ q t (List.mem_append_right _ hq)) (fun i hi=>hrd i (List.mem_append_right _ hi)) hr2
   refine ⟨by simp only [MO.add,List.length_append,hx0,c1,List.length_cons];omega,?_,fun q i hq=>?_,⟨b4,c4⟩,fun k B hB=>?_⟩
   ·simp only [MO.add,csB,List.map_append,b2,c2]
   ·rcases List.mem_append.1 hq with hq | hq
    ·exact b3 q i hq
    ·exact c3 q i hq
   ·rcases List.mem_append.1 hB with hB | hB
    ·exact b5 k B hB
    ·exact c5 k B hB
 | [],_::_,vs,p,v0,o,hm,_,_,_,_,_=>by simp [matchCS] at hm
 | _::_,[],vs,p,v0,o,hm,_,_,_,_,_=>by simp [matchCS] at hm
theorem matchSh_view (h:R bd N s r g tm st w) (hM:∀b,M' b→Mt bd.Z s.heap g b) {sh:Sh} {sv:SV} {u:Value} {p v0:Nat} {o:MO} (hm:matchSh s.heap v0 p sh sv=some o) (hg:∀c∈o.gs,den c r=true) (hv:SRep w (Mt bd.Z s.heap g) g r sv u)
  (hρ:∀q t,(q,t)∈o.tg→ρ q=t) (hrd:∀i∈o.rd,∀B,s.heap i=some B→∀x∈(g i).foot,¬M' x) (hr:∀i x,o.es[i]?=some x→r' (v0+i)=denA x r) :
  o.es.length=sh.cs.length∧o.tg.map (·.1)=(csB v0 p sh.cs).map (·.1)∧(∀q i,(q,some i)∈o.tg→∃B,s.heap i=some B)∧SRep w M' (gren ρ g) r' (sh.sv v0 p) u∧∀k B,(k,B)∈csB v0 p sh.cs→BRep w M' (gren ρ g) r' k B:=by
 unfold matchSh at hm
 split at hm
 ·obtain ⟨cs,h1,h2⟩:=hv
  obtain ⟨b1,b2,b3,b4,b5⟩:=matchCS_view (ρ:=ρ) h hM hm hg h2 hρ hrd hr
  exact ⟨b1,b2,b3,⟨cs,h1,b4⟩,b5⟩
 ·obtain ⟨b1,b2,b3,b4,b5⟩:=matchCS_view (ρ:=ρ) (vs:=[u]) h hM hm hg ⟨hv,trivial⟩ hρ hrd hr
  exact ⟨b1,b2,b3,b4.1,b5⟩
 ·obtain ⟨b1,b2,b3,b4,b5⟩:=matchCS_view (ρ:=ρ) (vs:=[u]) h hM hm hg ⟨hv,trivial⟩ hρ hrd hr
  exact ⟨b1,b2,b3,b4.1,b5⟩
 ·obtain ⟨b1,b2,b3,b4,b5⟩:=matchCS_view (ρ:=ρ) (vs:=[u]) h hM hm hg ⟨hv,trivial⟩ hρ hrd hr
  exact ⟨b1,b2,b3,b4.1,b5⟩
 ·obtain ⟨b1,b2,b3,b4,b5⟩:=matchCS_view (ρ:=ρ) (vs:=[u]) h hM hm hg ⟨hv,trivial⟩ hρ hrd hr
  exact ⟨b1,b2,b3,b4.1,b5⟩
 ·obtain ⟨b1,b2,b3,b4,b5⟩:=matchCS_view (ρ:=ρ) (vs:=[u]) h hM hm hg ⟨hv,trivial⟩ hρ hrd hr
  exact ⟨b1,b2,b3,b4.1,b5⟩
 ·obtain ⟨b1,b2,b3,b4,b5⟩:=matchCS_view (ρ:=ρ) (vs:=[u]) h hM hm hg ⟨hv,trivial⟩ hρ hrd hr
  exact ⟨b1,b2,b3,b4.1,b5⟩
 ·cases hm
theorem matchCS_len {h0:Nat→Option Blk}:∀{l:List CS} {m:List Atom} {v p:Nat} {o:MO},matchCS h0 v p l m=some o→o.es.length=l.length
 | [],[],v,p,o,hm=>by simp only [matchCS,Option.some.injEq] at hm;subst hm;rfl
 | c::l,a::m,v,p,o,hm=>by
  unfold matchCS at hm
  split at hm
  case h_2=>cases hm
  rename_i x y hx hy
  cases hm
  have hx0:x.es.length=1:=matchC_len hx
  simp only [MO.add,List.length_append,hx0,matchCS_len hy,List.length_cons]
  omega
 | [],_::_,v,p,o,hm=>by simp [matchCS] at hm
 | _::_,[],v,p,o,hm=>by simp [matchCS] at hm
theorem matchSh_len {h0:Nat→Option Blk} {sh:Sh} {sv:SV} {v p:Nat} {o:MO} (hm:matchSh h0 v p sh sv=some o):o.es.length=sh.cs.length:=by
 unfold matchSh at hm
 split at hm
 ·exact matchCS_len hm
 ·exact matchCS_len hm
 ·exact matchCS_len hm
 ·exact matchCS_len hm
 ·exact matchCS_len hm
 ·exact matchCS_len hm
 ·exact matchCS_len hm
 ·cases hm
theorem matchShs_len {h0:Nat→Option Blk}:∀{l:List Sh} {m:List SV} {v p:Nat} {o:MO},matchShs h0 v p l m=some o→o.es.length=shN l
 | [],[],v,p,o,hm=>by simp only [matchShs,Option.some.injEq] at hm;subst hm;rfl
 | c::l,a::m,v,p,o,hm=>by
  unfold matchShs at hm
  split at hm
  case h_2=>cases hm
  rename_i x y hx hy
  cases hm
  simp only [MO.add,List.length_append,matchSh_len hx,matchShs_len hy,shN]
 | [],_::_,v,p,o,hm=>by simp [matchShs] at hm
 | _::_,[],v,p,o,hm=>by simp [matchShs] at hm
theorem matchShs_view (h:R bd N s r g tm st w) (hM:∀b,M' b→Mt bd.Z s.heap g b):∀{l:List Sh} {m:List SV} {vs:List Value} {p v0:Nat} {o:MO},matchShs s.heap v0 p l m=some o→(∀c∈o.gs,den c r=true)→SReps w (Mt bd.Z s.heap g) g r m vs →
  (∀q t,(q,t)∈o.tg→ρ q=t)→(∀i∈o.rd,∀B,s.heap i=some B→∀x∈(g i).foot,¬M' x)→(∀i x,o.es[i]?=some x→r' (v0+i)=denA x r) →
  o.tg.map (·.1)=(shB v0 p l).map (·.1)∧(∀q i,(q,some i)∈o.tg→∃B,s.heap i=some B)∧SReps w M' (gren ρ g) r' (shSV v0 p l) vs∧∀k B,(k,B)∈shB v0 p l→BRep w M' (gren ρ g) r' k B
 | [],[],vs,p,v0,o,hm,hg,hv,hρ,hrd,hr=>by
  simp only [matchShs,Option.some.injEq] at hm
  subst hm
  cases vs with
  | nil=>exact ⟨rfl,fun q i hq=>(by simp at hq),trivial,fun k B hB=>by cases hB⟩
  | cons=>exact hv.elim
 | c::l,a::m,vs,p,v0,o,hm,hg,hv,hρ,hrd,hr=>by
  unfold matchShs at hm
  split at hm
  case h_2=>cases hm
  rename_i x y hx hy
  cases hm
  cases vs with
  | nil=>exact hv.elim
  | cons u vs =>
   obtain ⟨hr1,hr2⟩:=add_hr (matchSh_len hx) hr
   obtain ⟨-,b2,b3,b4,b5⟩:=matchSh_view (ρ:=ρ) h hM hx (fun c hc=>hg c (List.mem_append_left _ hc)) hv.1 (fun q t hq=>hρ q t (List.mem_append_left _ hq)) (fun i hi=>hrd i (List.mem_append_left _ hi)) hr1
   obtain ⟨c2,c3,c4,c5⟩:=matchShs_view h hM hy (fun c hc=>hg c (List.mem_append_right _ hc)) hv.2 (fun q t hq=>hρ q t (List.mem_append_right _ hq)) (fun i hi=>hrd i (List.mem_append_right _ hi)) hr2
   refine ⟨?_,fun q i hq=>?_,⟨b4,c4⟩,fun k B hB=>?_⟩
   ·simp only [MO.add,shB,List.map_append,b2,c2]
   ·rcases List.mem_append.1 hq with hq | hq
    ·exact b3 q i hq
    ·exact c3 q i hq
   ·rcases List.mem_append.1 hB with hB | hB
    ·exact b5 k B hB
    ·exact c5 k B hB
 | [],_::_,vs,p,v0,o,hm,_,_,_,_,_=>by simp [matchShs] at hm
 | _::_,[],vs,p,v0,o,hm,_,_,_,_,_=>by simp [matchShs] at hm
end
section
variable {N:Nat→Prop} {h':Nat→Option Blk}
theorem csA_ok:∀{l:List CS} {v p:Nat},(∀i,v≤i→i<v+l.length→N i)→(∀k B,(k,B)∈csB v p l→(h' k).isSome=true)→∀a∈csA v p l,a.ok N h'
 | [],_,_,_,_,a,ha=>by cases ha
 | c::l,v,p,hN,hh,a,ha=>by
  rcases List.mem_cons.1 ha with rfl | ha
  ·cases c with
   | p t=>exact hN v (Nat.le_refl _) (by simp)
   | arr dp t=>exact hh p _ (List.mem_append_left _ (List.mem_singleton.2 rfl))
   | box t=>exact hh p _ (List.mem_append_left _ (List.mem_singleton.2 rfl))
   | eat dp t=>exact hh (2000+v) _ (List.mem_append_left _ (List.mem_singleton.2 rfl))
   | self f=>exact hh p _ (List.mem_append_left _ (List.mem_singleton.2 rfl))
   | rbx dp t=>exact hh p _ (List.mem_append_left _ (List.mem_cons_self ..))
  ·exact csA_ok (fun i h1 h2=>hN i (by omega) (by simp only [List.length_cons];omega)) (fun k B hB=>hh k B (List.mem_append_right _ hB)) a ha
def BlOf (v n:Nat) (p:CS→Prop) (B:Blk):Prop :=
 ∃i,v≤i∧i<v+n∧((∃dp t,B=.arr dp t (.var (.sl false t) i)∧(p (.arr dp t)∨p (.eat dp t)∨p (.rbx dp t)))∨(∃t,B=.box (cellsE t (.var t i))∧p (.box t))∨(∃f,B=.box [.no]∧p (.self f))∨∃dp t,B=.box [.ref (3000+i)]∧p (.rbx dp t))
theorem BlOf.mono {v n v' n':Nat} {p p':CS→Prop} {B:Blk} (h:BlOf v n p B) (h1:v'≤v) (h2:v+n≤v'+n') (hp:∀c,p c→p' c):BlOf v' n' p' B:=by
 obtain ⟨i,a1,a2,a3⟩:=h
 refine ⟨i,by omega,by omega,?_⟩
 rcases a3 with ⟨dp,t,b1,b2⟩ | ⟨t,b1,b2⟩ | ⟨f,b1,b2⟩ | ⟨dp,t,b1,b2⟩
 ·exact .inl ⟨dp,t,b1,b2.imp (hp _) (Or.imp (hp _) (hp _))⟩
 ·exact .inr (.inl ⟨t,b1,hp _ b2⟩)
 ·exact .inr (.inr (.inl ⟨f,b1,hp _ b2⟩))
 ·exact .inr (.inr (.inr ⟨dp,t,b1,hp _ b2⟩))
theorem csB_of:∀{l:List CS} {v p:Nat},∀k B,(k,B)∈csB v p l→BlOf v l.length (·∈l) B
 | [],_,_,k,B,hB=>by cases hB
 | c::l,v,p,k,B,hB=>by
  rcases List.mem_append.1 hB with hB | hB
  ·have hl:v<v+(c::l).length:=by simp
   cases c with
   | p t=>cases hB
   | arr dp t =>
    simp only [CS.bl,List.mem_singleton,Prod.mk.injEq] at hB
    obtain ⟨rfl,rfl⟩:=hB
    exact ⟨v,Nat.le_refl _,hl,.inl ⟨dp,t,rfl,.inl (List.mem_cons_self ..)⟩⟩
   | eat dp t =>
    simp only [CS.bl,List.mem_singleton,Prod.mk.injEq] at hB
    obtain ⟨rfl,rfl⟩:=hB
    exact ⟨v,Nat.le_refl _,hl,.inl ⟨dp,t,rfl,.inr (.inl (List.mem_cons_self ..))⟩⟩
   | box t =>
    simp only [CS.bl,List.mem_singleton,Prod.mk.injEq] at hB
    obtain ⟨rfl,rfl⟩:=hB
    exact ⟨v,Nat.le_refl _,hl,.inr (.inl ⟨t,rfl,List.mem_cons_self ..⟩)⟩
   | self f =>
    simp only [CS.bl,List.mem_singleton,Prod.mk.injEq] at hB
    obtain ⟨rfl,rfl⟩:=hB
    exact ⟨v,Nat.le_refl _,hl,.inr (.inr (.inl ⟨f,rfl,List.mem_cons_self ..⟩))⟩
   | rbx dp t =>
    simp only [CS.bl,List.mem_cons,Prod.mk.injEq,List.not_mem_nil,or_false] at hB
    rcases hB with ⟨rfl,rfl⟩ | ⟨rfl,rfl⟩
    ·exact ⟨v,Nat.le_refl _,hl,.inr (.inr (.inr ⟨dp,t,rfl,List.mem_cons_self ..⟩))⟩
    ·exact ⟨v,Nat.le_refl _,hl,.inl ⟨dp,t,rfl,.inr (.inr (List.mem_cons_self ..))⟩⟩
  ·exact (csB_of (l:=l) k B hB).mono (by omega) (by simp only [List.length_cons];omega) fun c hc=>List.mem_cons_of_mem _ hc
theorem csB_row:∀{l:List CS} {v p k q:Nat},(k,.box [.ref q])∈csB v p l→∃C,(q,C)∈csB v p l
 | [],_,_,_,_,hB=>by cases hB
 | c::l,v,p,k,q,hB=>by
  rcases List.mem_append.1 hB with hB | hB
  ·cases c with
   | p t=>cases hB
   | arr dp t=>simp [CS.bl] at hB
   | eat dp t=>simp [CS.bl] at hB
   | box t =>
    simp only [CS.bl,List.mem_singleton,Prod.mk.injEq,Blk.box.injEq] at hB
    have h1:∀{t:Ty} {e:E t},∀a∈cellsE t e,a≠.ref q:=by
     intro t
     induction t with
     | pr x y ihx ihy=>intro e a ha;simp only [cellsE] at ha;rcases List.mem_append.1 ha with ha | ha;exact ihx a ha;exact ihy a ha
     | _=>intro e a ha;rw [List.mem_singleton.1 ha];simp
    exact (h1 _ (by rw [←hB.2];exact List.mem_singleton.2 rfl) rfl).elim
   | self f=>simp [CS.bl] at hB
   | rbx dp t =>
    simp only [CS.bl,List.mem_cons,Prod.mk.injEq,List.not_mem_nil,or_false,reduceCtorEq,and_false,Blk.box.injEq,List.cons.injEq,and_true,Atom.ref.injEq] at hB
    obtain ⟨rfl,rfl⟩:=hB
    exact ⟨_,List.mem_append_left _ (List.mem_cons_of_mem _ (List.mem_singleton.2 rfl))⟩
  ·obtain ⟨C,hC⟩:=csB_row hB
   exact ⟨C,List.mem_append_right _ hC⟩
theorem shB_row:∀{l:List Sh} {v p k q:Nat},(k,.box [.ref q])∈shB v p l→∃C,(q,C)∈shB v p l
 | [],_,_,_,_,hB=>by cases hB
 | c::l,v,p,k,q,hB=>by
  rcases List.mem_append.1 hB with hB | hB
  ·obtain ⟨C,hC⟩:=csB_row hB
   exact ⟨C,List.mem_append_left _ hC⟩
  ·obtain ⟨C,hC⟩:=shB_row hB
   exact ⟨C,List.mem_append_right _ hC⟩
theorem shSV_ok:∀{l:List Sh} {v p:Nat},(∀i,v≤i→i<v+shN l→N i)→(∀k B,(k,B)∈shB v p l→(h' k).isSome=true)→∀x∈shSV v p l,x.all (Atom.ok N h')
 | [],_,_,_,_,x,hx=>by cases hx
 | c::l,v,p,hN,hh,x,hx=>by
  simp only [shN] at hN
  rcases List.mem_cons.1 hx with rfl | hx
  ·have h1:∀a∈csA v p c.cs,a.ok N h':=csA_ok (fun i h1 h2=>hN i h1 (by omega)) (fun k B hB=>hh k B (List.mem_append_left _ hB))
   cases c with
   | p t=>exact h1 _ (List.mem_singleton.2 rfl)
   | agg m=>exact h1
   | arr dp t=>exact h1 _ (List.mem_singleton.2 rfl)
   | box t=>exact h1 _ (List.mem_singleton.2 rfl)
   | eat dp t=>exact h1 _ (List.mem_singleton.2 rfl)
   | self f=>exact h1 _ (List.mem_singleton.2 rfl)
   | rbx dp t=>exact h1 _ (List.mem_singleton.2 rfl)
  ·exact shSV_ok (fun i h1 h2=>hN i (by omega) (by omega)) (fun k B hB=>hh k B (List.mem_append_right _ hB)) x hx
theorem shB_of:∀{l:List Sh} {v p:Nat},∀k B,(k,B)∈shB v p l→BlOf v (shN l) (fun c=>∃h∈l,c∈h.cs) B
 | [],_,_,k,B,hB=>by cases hB
 | c::l,v,p,k,B,hB=>by
  simp only [shN]
  rcases List.mem_append.1 hB with hB | hB
  ·exact (csB_of (l:=c.cs) k B hB).mono (Nat.le_refl _) (by omega) fun c' hc=>⟨c,List.mem_cons_self ..,hc⟩
  ·exact (shB_of (l:=l) k B hB).mono (by omega) (by omega) fun c' ⟨h,h3,h4⟩=>⟨h,List.mem_cons_of_mem _ h3,h4⟩
theorem shB_ok {l:List Sh} {v p:Nat} (hN:∀i,v≤i→i<v+shN l→N i) (hh:∀k B,(k,B)∈shB v p l→(h' k).isSome=true) (k:Nat) (B:Blk) (hB:(k,B)∈shB v p l):B.ok N h':=by
 obtain ⟨i,h1,h2,h3⟩:=shB_of k B hB
 rcases h3 with ⟨dp,t,rfl,-⟩ | ⟨t,rfl,-⟩ | ⟨f,rfl,-⟩ | ⟨dp,t,rfl,-⟩
 ·exact hN i h1 h2
 ·exact cellsE_ok (e:=.var t i) (hN i h1 h2)
 ·exact fun a ha=>by rw [List.mem_singleton.1 ha];exact trivial
 ·obtain ⟨C,hC⟩:=shB_row hB
  exact fun a ha=>by rw [List.mem_singleton.1 ha];exact hh _ _ hC
theorem csB_names:∀{l:List CS} {v p:Nat} {k:Nat} {B:Blk},(k,B)∈csB v p l→(p≤k∧k<p+csArrs l)∨2000≤k
 | [],_,_,_,_,h=>by cases h
 | c::l,v,p,k,B,h=>by
  simp only [csArrs]
  rcases List.mem_append.1 h with h | h
  ·cases c with
   | p t=>cases h
   | rbx dp t =>
    simp only [CS.bl,List.mem_cons,Prod.mk.injEq,List.not_mem_nil,or_false] at h
    simp only [CS.pins];omega
   | _ =>
    simp only [CS.bl,List.mem_singleton,Prod.mk.injEq] at h
    simp only [CS.pins];omega
  ·have:=csB_names h;omega
theorem shB_names:∀{l:List Sh} {v p:Nat} {k:Nat} {B:Blk},(k,B)∈shB v p l→(p≤k∧k<p+shPins l)∨2000≤k
 | [],_,_,_,_,h=>by cases h
 | c::l,v,p,k,B,h=>by
  simp only [shPins]
  rcases List.mem_append.1 h with h | h
  ·have:=csB_names h;omega
  ·have:=shB_names h;omega
theorem csB_box_name:∀{l:List CS} {v p:Nat} {k:Nat} {m:List Atom},(k,.box m)∈csB v p l→p≤k∧k<p+csArrs l
 | [],_,_,_,_,h=>by cases h
 | c::l,v,p,k,B,h=>by
  simp only [csArrs]
  rcases List.mem_append.1 h with h | h
  ·cases c with
   | p t=>cases h
   | box t =>
    simp only [CS.bl,List.mem_singleton,Prod.mk.injEq] at h
    simp only [CS.pins];omega
   | self f =>
    simp only [CS.bl,List.mem_singleton,Prod.mk.injEq] at h
    simp only [CS.pins];omega
   | rbx dp t =>
    simp only [CS.bl,List.mem_cons,Prod.mk.injEq,List.not_mem_nil,or_false,reduceCtorEq,and_false] at h
    simp only [CS.pins];omega
   | _=>simp [CS.bl] at h
  ·have:=csB_box_name h;omega
theorem shB_box_name:∀{l:List Sh} {v p:Nat} {k:Nat} {m:List Atom},(k,.box m)∈shB v p l→p≤k∧k<p+shPins l
 | [],_,_,_,_,h=>by cases h
 | c::l,v,p,k,B,h=>by
  simp only [shPins]
  rcases List.mem_append.1 h with h | h
  ·have:=csB_box_name h;omega
  ·have:=shB_box_name h;omega
theorem csKp_box:∀{l:List CS} {v p:Nat} {c:Nat×Nat},c∈csKp p l→c.1<p+csArrs l∧∃m,(c.1,.box m)∈csB v p l
 | [],_,_,_,h=>by cases h
 | c::l,v,p,q,h=>by
  simp only [csArrs]
  rcases List.mem_append.1 h with h | h
  ·cases c with
   | box t =>
    simp only [CS.kp,List.mem_map] at h
    obtain ⟨j,-,rfl⟩:=h
    exact ⟨by simp only [CS.pins];omega,_,List.mem_append_left _ (List.mem_singleton.2 rfl)⟩
   | self f =>
    simp only [CS.kp,List.mem_singleton] at h
    subst h
    exact ⟨by simp only [CS.pins];omega,_,List.mem_append_left _ (List.mem_singleton.2 rfl)⟩
   | _=>cases h
  ·obtain ⟨h1,m,h2⟩:=csKp_box (v:=v+1) h
   exact ⟨by omega,m,List.mem_append_right _ h2⟩
theorem shKp_box:∀{l:List Sh} {v p:Nat} {c:Nat×Nat},c∈shKp p l→c.1<p+shPins l∧∃m,(c.1,.box m)∈shB v p l
 | [],_,_,_,h=>by cases h
 | c::l,v,p,q,h=>by
  simp only [shPins]
  rcases List.mem_append.1 h with h | h
  ·obtain ⟨h1,m,h2⟩:=csKp_box (v:=v) h
   exact ⟨by omega,m,List.mem_append_left _ h2⟩
  ·obtain ⟨h1,m,h2⟩:=shKp_box (v:=v+c.cs.length) h
   exact ⟨by omega,m,List.mem_append_right _ h2⟩
theorem shB_app:∀{l m:List Sh} {v p:Nat} {k:Nat} {B:Blk},(k,B)∈shB v p (l++m)→(k,B)∈shB v p l∨(k,B)∈shB (v+shN l) (p+shPins l) m
 | [],m,v,p,k,B,h=>.inr h
 | c::l,m,v,p,k,B,h=>by
  rcases List.mem_append.1 h with h | h
  ·exact .inl (List.mem_append_left _ h)
  ·rcases shB_app h with h | h
   ·exact .inl (List.mem_append_right _ h)
   ·right
    simp only [shN,shPins]
    rw [←Nat.add_assoc,←Nat.add_assoc]
    exact h
theorem shB_app':∀{l m:List Sh} {v p:Nat} {k:Nat} {B:Blk},((k,B)∈shB v p l∨(k,B)∈shB (v+shN l) (p+shPins l) m)→(k,B)∈shB v p (l++m)
 | [],m,v,p,k,B,h=>h.elim (fun h=>by cases h) id
 | c::l,m,v,p,k,B,h=>by
  rcases h with h | h
  ·rcases List.mem_append.1 h with h | h
   ·exact List.mem_append_left _ h
   ·exact List.mem_append_right _ (shB_app' (.inl h))
  ·simp only [shN,shPins] at h
   rw [←Nat.add_assoc,←Nat.add_assoc] at h
   exact List.mem_append_right _ (shB_app' (.inr h))
theorem shPins_app:∀{l m:List Sh},shPins (l++m)=shPins l+shPins m
 | [],m=>by simp [shPins]
 | c::l,m=>by simp only [List.cons_append,shPins,shPins_app];omega
theorem backCS_pins:∀{l:List CS},shPins (backCS l)=csArrs l
 | []=>rfl
 | .p t::l=>by simp only [backCS,csArrs,CS.pins,backCS_pins (l:=l)];omega
 | .eat dp t::l=>by simp only [backCS,csArrs,CS.pins,backCS_pins (l:=l)];omega
 | .arr dp t::l=>by simp only [backCS,shPins,csArrs,CS.pins,Sh.cs,backCS_pins (l:=l)]
 | .box t::l=>by simp only [backCS,shPins,csArrs,CS.pins,Sh.cs,backCS_pins (l:=l)]
 | .self f::l=>by simp only [backCS,shPins,csArrs,CS.pins,Sh.cs,backCS_pins (l:=l)]
 | .rbx dp t::l=>by simp only [backCS,shPins,csArrs,CS.pins,Sh.cs,backCS_pins (l:=l)]
theorem backShs_pins:∀{l:List Sh},shPins (backShs l)=shPins l
 | []=>rfl
 | c::l=>by simp only [backShs,shPins,shPins_app,backCS_pins,backShs_pins (l:=l)]
theorem backCS_box:∀{l:List CS} {v p:Nat} {k:Nat} {m:List Atom},(k,.box m)∈shB v p (backCS l)→(∃t i,m=cellsE t (.var t i)∧v≤i∧i<v+shN (backCS l)∧∀j∈slCells t,(k,j)∈csKp p l)∨(m=[.no]∧(k,0)∈csKp p l)∨∃q,m=[.ref q]
 | [],_,_,_,_,h=>by cases h
 | .p t::l,v,p,k,m,h=>by
  rcases backCS_box (l:=l) h with ⟨t,i,h1,h2,h3,h4⟩ | ⟨h1,h2⟩ | h1
  ·exact .inl ⟨t,i,h1,h2,h3,fun j hj=>List.mem_append_right _ (h4 j hj)⟩
  ·exact .inr (.inl ⟨h1,List.mem_append_right _ h2⟩)
  ·exact .inr (.inr h1)
 | .eat dp t::l,v,p,k,m,h=>by
  rcases backCS_box (l:=l) h with ⟨t,i,h1,h2,h3,h4⟩ | ⟨h1,h2⟩ | h1
  ·exact .inl ⟨t,i,h1,h2,h3,fun j hj=>List.mem_append_right _ (h4 j hj)⟩
  ·exact .inr (.inl ⟨h1,List.mem_append_right _ h2⟩)
  ·exact .inr (.inr h1)
 | .arr dp t::l,v,p,k,m,h=>by
  rcases List.mem_append.1 h with h | h
  ·simp [csB,Sh.cs,CS.bl] at h
  ·rcases backCS_box (l:=l) h with ⟨t,i,h1,h2,h3,h4⟩ | ⟨h1,h2⟩ | h1
   ·simp only [backCS,shN,Sh.cs,List.length_singleton] at h2 h3 ⊢
    exact .inl ⟨t,i,h1,by omega,by omega,fun j hj=>List.mem_append_right _ (h4 j hj)⟩
   ·exact .inr (.inl ⟨h1,List.mem_append_right _ h2⟩)
   ·exact .inr (.inr h1)
 | .box t::l,v,p,k,m,h=>by
  rcases List.mem_append.1 h with h | h
  ·simp only [csB,Sh.cs,CS.bl,List.append_nil,List.mem_singleton,Prod.mk.injEq,Blk.box.injEq] at h
   obtain ⟨rfl,rfl⟩:=h
   simp only [backCS,shN,Sh.cs,List.length_singleton]
   exact .inl ⟨t,v,rfl,Nat.le_refl _,by omega,fun j hj=>List.mem_append_left _ (List.mem_map.2 ⟨j,hj,rfl⟩)⟩
  ·rcases backCS_box (l:=l) h with ⟨t,i,h1,h2,h3,h4⟩ | ⟨h1,h2⟩ | h1
   ·simp only [backCS,shN,Sh.cs,List.length_singleton] at h2 h3 ⊢
    exact .inl ⟨t,i,h1,by omega,by omega,fun j hj=>List.mem_append_right _ (h4 j hj)⟩
   ·exact .inr (.inl ⟨h1,List.mem_append_right _ h2⟩)
   ·exact .inr (.inr h1)
 | .self f::l,v,p,k,m,h=>by
  rcases List.mem_append.1 h with h | h
  ·simp only [csB,Sh.cs,CS.bl,List.append_nil,List.mem_singleton,Prod.mk.injEq,Blk.box.injEq] at h
   obtain ⟨rfl,rfl⟩:=h
   exact .inr (.inl ⟨rfl,List.mem_append_left _ (List.mem_singleton.2 rfl)⟩)
  ·rcases backCS_box (l:=l) h with ⟨t,i,h1,h2,h3,h4⟩ | ⟨h1,h2⟩ | h1
   ·simp only [backCS,shN,Sh.cs,List.length_singleton] at h2 h3 ⊢
    exact .inl ⟨t,i,h1,by omega,by omega,fun j hj=>List.mem_append_right _ (h4 j hj)⟩
   ·exact .inr (.inl ⟨h1,List.mem_append_right _ h2⟩)
   ·exact .inr (.inr h1)
 | .rbx dp t::l,v,p,k,m,h=>by
  rcases List.mem_append.1 h with h | h
  ·simp only [csB,Sh.cs,CS.bl,List.append_nil,List.mem_cons,Prod.mk.injEq,Blk.box.injEq,List.not_mem_nil,or_false,reduceCtorEq,and_false] at h
   exact .inr (.inr ⟨_,h.2⟩)
  ·rcases backCS_box (l:=l) h with ⟨t,i,h1,h2,h3,h4⟩ | ⟨h1,h2⟩ | h1
   ·simp only [backCS,shN,Sh.cs,List.length_singleton] at h2 h3 ⊢
    exact .inl ⟨t,i,h1,by omega,by omega,fun j hj=>List.mem_append_right _ (h4 j hj)⟩
   ·exact .inr (.inl ⟨h1,List.mem_append_right _ h2⟩)
   ·exact .inr (.inr h1)
theorem shN_app:∀{l m:List Sh},shN (l++m)=shN l+shN m
 | [],m=>by simp [shN]
 | c::l,m=>by simp only [List.cons_append,shN,shN_app];omega
theorem backShs_box:∀{l:List Sh} {v p:Nat} {k:Nat} {m:List Atom},(k,.box m)∈shB v p (backShs l)→(∃t i,m=cellsE t (.var t i)∧v≤i∧i<v+shN (backShs l)∧∀j∈slCells t,(k,j)∈shKp p l)∨(m=[.no]∧(k,0)∈shKp p l)∨∃q,m=[.ref q]
 | [],_,_,_,_,h=>by cases h
 | c::l,v,p,k,m,h=>by
  simp only [backShs,shN_app]
  rcases shB_app h with h | h
  ·rcases backCS_box h with ⟨t,i,h1,h2,h3,h4⟩ | ⟨h1,h2⟩ | h1
   ·exact .inl ⟨t,i,h1,h2,by omega,fun j hj=>List.mem_append_left _ (h4 j hj)⟩
   ·exact .inr (.inl ⟨h1,List.mem_append_left _ h2⟩)
   ·exact .inr (.inr h1)
  ·rw [backCS_pins] at h
   rcases backShs_box h with ⟨t,i,h1,h2,h3,h4⟩ | ⟨h1,h2⟩ | h1
   ·exact .inl ⟨t,i,h1,by omega,by omega,fun j hj=>List.mem_append_right _ (h4 j hj)⟩
   ·exact .inr (.inl ⟨h1,List.mem_append_right _ h2⟩)
   ·exact .inr (.inr h1)
theorem csKp_back:∀{l:List CS} {v p:Nat} {c:Nat×Nat},c∈csKp p l→∃m,(c.1,.box m)∈shB v p (backCS l)
 | [],_,_,_,h=>by cases h
 | .p t::l,v,p,c,h=>csKp_back (l:=l) (by simpa [csKp,CS.kp,CS.pins] using h)
 | .eat dp t::l,v,p,c,h=>csKp_back (l:=l) (by simpa [csKp,CS.kp,CS.pins] using h)
 | .arr dp t::l,v,p,c,h=>by
  have h:c∈csKp (p+1) l:=by simpa [csKp,CS.kp,CS.pins] using h
  obtain ⟨m,hm⟩:=csKp_back (v:=v+1) h
  exact ⟨m,List.mem_append_right _ hm⟩
 | .box t::l,v,p,c,h=>by
  rcases List.mem_append.1 h with h | h
  ·simp only [CS.kp,List.mem_map] at h
   obtain ⟨j,-,rfl⟩:=h
   exact ⟨_,List.mem_append_left _ (List.mem_singleton.2 rfl)⟩
  ·obtain ⟨m,hm⟩:=csKp_back (v:=v+1) h
   exact ⟨m,List.mem_append_right _ hm⟩
 | .self f::l,v,p,c,h=>by
  rcases List.mem_append.1 h with h | h
  ·simp only [CS.kp,List.mem_singleton] at h
   subst h
   exact ⟨_,List.mem_append_left _ (List.mem_singleton.2 rfl)⟩
  ·obtain ⟨m,hm⟩:=csKp_back (v:=v+1) h
   exact ⟨m,List.mem_append_right _ hm⟩
 | .rbx dp t::l,v,p,c,h=>by
  have h:c∈csKp (p+1) l:=by simpa [csKp,CS.kp,CS.pins] using h
  obtain ⟨m,hm⟩:=csKp_back (v:=v+1) h
  exact ⟨m,List.mem_append_right _ hm⟩
theorem shKp_back:∀{l:List Sh} {v p:Nat} {c:Nat×Nat},c∈shKp p l→∃m,(c.1,.box m)∈shB v p (backShs l)
 | [],_,_,_,h=>by cases h
 | x::l,v,p,c,h=>by
  rcases List.mem_append.1 h with h | h
  ·obtain ⟨m,hm⟩:=csKp_back (v:=v) h
   exact ⟨m,shB_app' (.inl hm)⟩
  ·obtain ⟨m,hm⟩:=shKp_back (v:=v+shN (backCS x.cs)) h
   exact ⟨m,shB_app' (.inr (by rw [backCS_pins];exact hm))⟩
theorem look_mem:∀{l:List (Nat×Blk)} {k:Nat} {B:Blk},look l k=some B→(k,B)∈l
 | [],k,B,h=>by simp [look] at h
 | (i,b)::l,k,B,h=>by
  unfold look at h
  cases hi:(i==k)
  ·rw [hi] at h;exact List.mem_cons_of_mem _ (look_mem h)
  ·rw [hi] at h
   simp only [cond_true,Option.some.injEq] at h
   simp only [beq_iff_eq] at hi
   subst hi;subst h
   exact List.mem_cons_self ..
theorem look_some:∀{l:List (Nat×Blk)} {k:Nat} {B:Blk},(k,B)∈l→(look l k).isSome=true
 | (i,b)::l,k,B,h=>by
  unfold look
  cases hi:(i==k)
  ·rcases List.mem_cons.1 h with h | h
   ·cases h;simp at hi
   ·simpa using look_some h
  ·rfl
theorem tgOf_mem:∀{l:List (Nat×Option Nat)} {q:Nat} {t:Option Nat},nodupB (l.map (·.1))=true→(q,t)∈l→tgOf l q=t
 | (i,x)::l,q,t,hn,h=>by
  simp only [List.map_cons,nodupB,Bool.and_eq_true,Bool.not_eq_true',List.contains_eq_mem,decide_eq_false_iff_not] at hn
  unfold tgOf
  rcases List.mem_cons.1 h with h | h
  ·cases h;simp
  ·have:i≠q:=by
    rintro rfl
    exact hn.1 (List.mem_map.2 ⟨_,h,rfl⟩)
   rw [if_neg this]
   exact tgOf_mem hn.2 h
theorem tgOf_some:∀{l:List (Nat×Option Nat)} {q i:Nat},tgOf l q=some i→(q,some i)∈l
 | [],q,i,h=>by simp [tgOf] at h
 | (a,x)::l,q,i,h=>by
  unfold tgOf at h
  split at h
  ·rename_i ha;subst ha;subst h;exact List.mem_cons_self ..
  ·exact List.mem_cons_of_mem _ (tgOf_some h)
end
end Go.Sm
