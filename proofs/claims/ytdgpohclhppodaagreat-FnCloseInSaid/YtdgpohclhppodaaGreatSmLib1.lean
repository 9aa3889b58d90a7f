/- A machine over symbols for loaded functions, and that it tells the truth; no condition. -/
import Derived.Test.YtdgpohclhppodaaGreatSmLib0
import Derived.Great.BuildSlice
set_option linter.unusedSimpArgs false
set_option linter.unusedVariables false
namespace Go.Sm
section
variable {P:Program} {bd:Bd} {N:Nat→Prop} {s:St} {r:Env} {g:Nat→G} {st:List (Array Value)} {w:World} {a:Act}
theorem Z3T {s s':St} {v sv:SV} {gs:List (E .bool)} (h:one s v=some (gs,sv,s')):gs=[]∧sv=v∧s'=s:=by
 simp only [one,Y4,Y9] at h
 exact ⟨h.1.symm,h.2.1.symm,h.2.2.symm⟩
theorem Z3U (h:R bd N s r g a.tmps st w) {b:BinOp} {t ty:TypeId} {x y:Operand} (o:Oper) (ho:o.op=.binOp b t x y ty) {p q:Atom} (hx:s.get x=.a p) (hy:s.get y=.a q)
  (hok:Z1n P t p=true) {gs:List (E .bool)} {sv:SV} (hs:Z0H b p q=some (gs,sv)) (hg:∀c∈gs,den c r=true) :
  Zt P bd N r st false (execOp a.eval o) a.tmps w sv s:=by
 refine Z3S h o ho hx hy hs hg ?_ ?_
 ·rintro cc u e rfl
  simp only [Z1n] at hok
  split at hok
  ·rename_i e' he;exact ⟨e',he⟩
  ·cases hok
 ·rintro ⟨e,rfl⟩
  simp only [Z1n] at hok
  split at hok
  ·rename_i he;exact he
  ·cases hok
theorem Z3V (h:R bd N s r g a.tmps st w) {b:BinOp} {t ty:TypeId} {x y:Operand} (o:Oper) (ho:o.op=.binOp b t x y ty) {p q:Atom} (hx:s.get x=.a p) (hy:s.get y=.a q)
  {gs:List (E .bool)} {sv:SV} (hs:Z1o P s.heap b t p q=some (gs,sv)) (hg:∀c∈gs,den c r=true) :
  Zt P bd N r st false (execOp a.eval o) a.tmps w sv s:=by
 obtain ⟨hpv,hpn⟩:=Zu h hx
 obtain ⟨hqv,hqn⟩:=Zu h hy
 unfold Z1o at hs
 split at hs
 ·rename_i id
  split at hs
  case h_2=>cases hs
  rename_i e' dp u e ht hid
  have hq:a.eval y=.slice none 0 0:=hqv
  have hk:Kept w (Mt bd.Z s.heap g) w (fun _=>False):=⟨fun _ _ _=>rfl,fun _ _ hf=>hf.elim⟩
  simp only [Z7] at hpv
  have hr:=Zb.rep (h.heap id _ hid) hk (fun _ _ hf=>hf)
  rw [←hpv] at hr
  split at hs
  ·simp only [Y4,Y9] at hs
   obtain ⟨rfl,rfl⟩:=hs
   have hne:=hg _ (Y1.2 rfl)
   simp only [den,O1.d,Yr] at hne
   obtain ⟨x',n,c,hxv,hnil⟩:=Z3R hr hne
   have hd:decide (x'=none)=(den (.bool false) r:Bool):=decide_eq_false hnil
   exact Zt.look h (fun _ _=>Z3J o ho hxv hq (by simp) (by simp) (Z3O (Z3N ht x' n c) rfl)) (by rw [hd];exact Z3v _ _) trivial
  ·simp only [Y4,Y9] at hs
   obtain ⟨rfl,rfl⟩:=hs
   have hne:=hg _ (Y1.2 rfl)
   simp only [den,O1.d,Yr] at hne
   obtain ⟨x',n,c,hxv,hnil⟩:=Z3R hr hne
   have hd:(!decide (x'=none))=(den (.bool true) r:Bool):=by rw [decide_eq_false hnil];rfl
   exact Zt.look h (fun _ _=>Z3J o ho hxv hq (by simp) (by simp) (Z3P (Z3N ht x' n c) rfl)) (by rw [hd];exact Z3v _ _) trivial
  ·cases hs
 ·split at hs
  case h_2=>cases hs
  rename_i e' ht
  have hp:a.eval x=.slice none 0 0:=hpv
  have hq:a.eval y=.slice none 0 0:=hqv
  split at hs
  ·simp only [Y4,Y9] at hs
   obtain ⟨rfl,rfl⟩:=hs
   exact Zt.look h (fun _ _=>Z3J o ho hp hq (by simp) (by simp) (Z3O (Z3N ht none 0 0) rfl)) (Z3v (.bool true) _) trivial
  ·simp only [Y4,Y9] at hs
   obtain ⟨rfl,rfl⟩:=hs
   exact Zt.look h (fun _ _=>Z3J o ho hp hq (by simp) (by simp) (Z3P (Z3N ht none 0 0) rfl)) (Z3v (.bool false) _) trivial
  ·cases hs
 ·cases hs
theorem Z3W (h:R bd N s r g a.tmps st w) {u:UnOp} {t:TypeId} {x:Operand} (o:Oper) (ho:o.op=.unOp u t x) {gs:List (E .bool)} {sv:SV} {s':St}
  (hs:Z1p P false s 0 (.unOp u t x)=some (gs,sv,s')):Zt P bd N r st false (execOp a.eval o) a.tmps w sv s':=by
 simp only [Z1p] at hs
 split at hs
 ·rename_i e hx
  obtain ⟨-,rfl,rfl⟩:=Z3T hs
  obtain ⟨hv,hn⟩:=Zu h hx
  have hv:=Z3q hv
  refine Zt.look h ?_ (Z3v (.o1 .not e) _) hn
  intro w2 _
  simp only [execOp,ho,hv]
  exact Zv rfl
 ·rename_i k e hx
  obtain ⟨-,rfl,rfl⟩:=Z3T hs
  obtain ⟨hv,hn⟩:=Zu h hx
  have hv:=Z3p hv
  refine Zt.look h ?_ (Z3u (.o1 (.neg k) e) _) hn
  intro w2 _
  simp only [execOp,ho,hv]
  exact Zv rfl
 ·cases hs
theorem Z3X (h:R bd N s r g a.tmps st w) {t d:TypeId} {x:Operand} (o:Oper) (ho:o.op=.convert t d x) {gs:List (E .bool)} {sv:SV} {s':St}
  (hs:Z1p P false s 0 (.convert t d x)=some (gs,sv,s')):Zt P bd N r st false (execOp a.eval o) a.tmps w sv s':=by
 simp only [Z1p] at hs
 split at hs
 ·rename_i u k' k e hu hd hx
  obtain ⟨-,rfl,rfl⟩:=Z3T hs
  obtain ⟨hv,hn⟩:=Zu h hx
  have hv:=Z3p hv
  refine Zt.look h ?_ (Z3u (.o1 (.conv k k') e) _) hn
  intro w2 _
  simp only [execOp,ho,hv]
  refine Zv ?_
  unfold convert
  rw [run_bind_ok (Z3K hu),run_bind_ok (Z3K hd)]
  cases u<;>rfl
 ·cases hs
theorem Z3Y {M:Nat→Prop} {id j:Nat} {v:Value} (h:Z7 w M g r (.ptr id j) v):v=.pointer (some ⟨(g id).blk,j,none⟩):=h
theorem Z3Z {t:TypeId} {fs:Array Field} {f:Nat} {fd:Field} {i:TypeInfo} (ht:P.underlying t=some (.struct fs)) (hf:fs[f]?=some fd) (hi:P.info? fd.type=some i) (hz:i.size≠0)
  (p:Addr) (hp:p.spot=none):(Instr.fieldAt t (.pointer (some p)) f).run P w=.ok (.pointer (some ⟨p.block,p.off+fd.offset,none⟩)) w:=by
 unfold Instr.fieldAt
 rw [run_bind_ok (Z3K ht)]
 simp only [hf]
 rw [run_bind_ok (v:=p) (w':=w) rfl]
 have:(fieldPlace p fd).run P w=.ok (p.add fd.offset) w:=by
  unfold fieldPlace
  rw [run_bind_ok (Z3M hi),if_neg hz];rfl
 rw [run_bind_ok this,Z0e hp]
 rfl
theorem Z3_ {x:Int} {n:Nat} (h0:0≤x) (h1:x<n):Int.toNat x<n:=by omega
theorem Z40 (h:R bd N s r g a.tmps st w) {t:TypeId} {x:Operand} {f:Nat} (o:Oper) (ho:o.op=.fieldAddr t x f) {gs:List (E .bool)} {sv:SV} {s':St}
  (hs:Z1c P s t x f=some (gs,sv,s')):Zt P bd N r st false (execOp a.eval o) a.tmps w sv s':=by
 unfold Z1c at hs
 split at hs
 case h_2=>cases hs
 rename_i fs ht
 split at hs
 case h_2=>cases hs
 rename_i fd hf
 split at hs
 case h_2=>cases hs
 rename_i i hi
 split at hs
 ·cases hs
 rename_i hz
 have run:∀p:Addr,p.spot=none→a.eval x=.pointer (some p)→∀w2,(execOp a.eval o).run P w2=.ok (.value (.pointer (some ⟨p.block,p.off+fd.offset,none⟩))) w2:=by
  intro p hp hv w2
  simp only [execOp,ho,hv]
  exact Zv (Z3Z ht hf hi hz p hp)
 split at hs
 ·rename_i id j hx
  obtain ⟨-,rfl,rfl⟩:=Z3T hs
  obtain ⟨hv,hn⟩:=Zu h hx
  exact Zt.look h (fun w2 _=>run _ rfl hv w2) rfl hn
 ·rename_i id ty k ix j hx
  obtain ⟨-,rfl,rfl⟩:=Z3T hs
  obtain ⟨⟨p,n,c,h1,h2,h3,h4,h5⟩,hn⟩:=Zu h hx
  exact Zt.look h (fun w2 _=>run _ rfl h5 w2) ⟨p,n,c,h1,h2,h3,h4,by rw [Nat.add_assoc,Nat.add_assoc]⟩ hn
 ·rename_i c ty l k ix j hx
  obtain ⟨-,rfl,rfl⟩:=Z3T hs
  obtain ⟨⟨p,n,cp,h1,h2,h3,h4,h5⟩,hn⟩:=Zu h hx
  exact Zt.look h (fun w2 _=>run _ rfl h5 w2) ⟨p,n,cp,h1,h2,h3,h4,by rw [Nat.add_assoc,Nat.add_assoc]⟩ hn
 ·rename_i id ty k ix j u k' ix' j' hx
  obtain ⟨-,rfl,rfl⟩:=Z3T hs
  obtain ⟨⟨p,n,c,q,n',c',h1,h2,h3,h4,h5,h6,h7,h8,h9⟩,hn⟩:=Zu h hx
  exact Zt.look h (fun w2 _=>run _ rfl h9 w2) ⟨p,n,c,q,n',c',h1,h2,h3,h4,h5,h6,h7,h8,by rw [Nat.add_assoc,Nat.add_assoc]⟩ hn
 ·cases hs
theorem run_indexAt {t e:TypeId} {i:TypeInfo} (ht:P.underlying t=some (.slice e)) (hi:P.info? e=some i) (p:Addr) (hp:p.spot=none) (n c:Nat) (k:IntKind) (m:Int) (h0:0≤m) (h1:m<n) :
  (Instr.indexAt t (.slice (some p) n c) (.int k m)).run P w=.ok (.pointer (some ⟨p.block,p.off+m.toNat * i.size,none⟩)) w:=by
 unfold Instr.indexAt
 rw [run_bind_ok (v:=(k,m)) (w':=w) rfl]
 simp only []
 rw [run_bind_ok (Z3K ht)]
 simp only []
 rw [run_bind_ok (v:=(some p,n,e)) (w':=w) rfl]
 simp only []
 rw [run_bind_ok (Z3K ht)]
 simp only []
 rw [if_pos ⟨h0,h1⟩,run_bind_ok (Z3M hi),Z0e hp]
 rfl
theorem Z41 {M:Nat→Prop} {c:Bool} {t:Ty} {d:List t.D} {v:Value} (h:Rep w M (.sl c t) d [v]) (hd:0<d.length):∃p cp,v=.slice (some p) d.length cp∧p.spot=none∧¬M p.block:=by
 obtain ⟨x,cp,h1,h2,h3,h4,h5⟩:=h
 simp only [List.cons.injEq,and_true] at h1
 cases x with
 | none=>have:=h4 rfl;omega
 | some p =>
  obtain ⟨a1,a2,_⟩:=h5 p rfl (YJ.1 hd)
  exact ⟨p,cp,h1,a1,a2⟩
theorem Z42 (h:R bd N s r g a.tmps st w) {t:Ty} {id:Nat} {u:Ty} {lo hi:E (.int .i64)} {l:E (.sl false t)} (hl:vwE s.heap t (.vw id u lo hi)=some l) (hn:(Atom.vw id u lo hi).ok N s.heap):l.vs N:=by
 simp only [vwE] at hl
 split at hl
 case h_2=>cases hl
 rename_i dp u' e0 hid
 split at hl
 case isFalse=>cases hl
 rename_i hh
 obtain ⟨rfl,rfl⟩:=hh
 cases hl
 exact ⟨⟨h.nheap id _ hid,hn.1.2⟩,hn.1.1⟩
theorem Z43 (h:R bd N s r g a.tmps st w) {t:TypeId} {x ix:Operand} (o:Oper) (ho:o.op=.indexAddr t x ix) {gs:List (E .bool)} {sv:SV} {s':St}
  (hs:Z1d P s t x ix=some (gs,sv,s')) (hg:∀c∈gs,den c r=true):Zt P bd N r st false (execOp a.eval o) a.tmps w sv s':=by
 unfold Z1d at hs
 split at hs
 case h_2=>cases hs
 rename_i e ht
 split at hs
 case h_2=>cases hs
 rename_i i k m hi hix
 obtain ⟨hmv,hmn⟩:=Zu h hix
 have hmv:=Z3p hmv
 have run:∀(p:Addr) (n c:Nat),p.spot=none→a.eval x=.slice (some p) n c→(0:Int)≤den m r→(den m r:Int)<n →
   ∀w2,(execOp a.eval o).run P w2=.ok (.value (.pointer (some ⟨p.block,p.off+(Int.toNat (den m r)) * i.size,none⟩))) w2:=by
  intro p n c hp hv h0 h1 w2
  simp only [execOp,ho,hv,hmv]
  exact Zv (run_indexAt ht hi p hp n c k _ h0 h1)
 split at hs
 ·-- a row of the call's own
  rename_i id hx
  obtain ⟨hv,hrn⟩:=Zu h hx
  have main:∀(ty:Ty) (l:E (.sl false ty)),(∃oo xs,Z5 w (g id).val oo ty.size (den l r:List ty.D).length xs)→i.size=ty.size →
    some ([gLe (eI k 0) m,gLt m (Zh l)],SV.a (.eptr id ty k m 0),s)=some (gs,sv,s')→Zt P bd N r st false (execOp a.eval o) a.tmps w sv s':=by
   intro ty l hB hsz heq
   simp only [Y4,Y9] at heq
   obtain ⟨rfl,rfl,rfl⟩:=heq
   have h0:(0:Int)≤den m r:=Zw.1 (hg (gLe (eI k 0) m) (by simp))
   have h1:(den m r:Int)<((den l r:List ty.D).length:Int):=Z3G.1 (hg (gLt m (Zh l)) (by simp))
   obtain ⟨oo,xs,b1⟩:=hB
   have hlt:Int.toNat (den m r)<(den l r:List ty.D).length:=Z3_ h0 h1
   obtain ⟨p,c,e1,e2,e3,e4⟩:=b1.some_of_pos (Nat.lt_of_le_of_lt (Yf _) hlt)
   refine Zt.look h (fun w2 _=>run p _ c e3 (hv.trans e1) h0 h1 w2) ⟨p,_,c,e1,e3,h0,hlt,by rw [hsz,Nat.add_zero]⟩ ⟨hmn,hrn⟩
  split at hs
  ·rename_i dp ty l hid
   split at hs
   ·rename_i hsz
    obtain ⟨oo,xs,Fs,b1,_⟩:=h.heap id _ hid
    exact main ty l ⟨oo,xs,b1⟩ hsz hs
   ·cases hs
  ·rename_i ty l hk hi' hj hb hid
   split at hs
   ·rename_i hsz
    obtain ⟨oo,xs,Fs,b1,_⟩:=(h.heap id _ hid).1
    exact main ty l ⟨oo,xs,b1⟩ hsz hs
   ·cases hs
  ·rename_i ty l hk hi' hb hid
   split at hs
   ·rename_i hsz
    obtain ⟨v,⟨_,oo,xs,b1,_⟩,_⟩:=h.heap id _ hid
    exact main ty l ⟨oo,xs,b1⟩ hsz hs
   ·cases hs
  ·cases hs
 ·-- a slice that lies in an element
  rename_i id t0 k' n' j hx
  obtain ⟨⟨p,n,c,h1,h2,h3,h4,h5⟩,hn⟩:=Zu h hx
  split at hs
  case h_2=>cases hs
  rename_i cc u l hne
  split at hs
  case isFalse=>cases hs
  rename_i hsz
  simp only [Y4,Y9] at hs
  obtain ⟨rfl,rfl,rfl⟩:=hs
  have g0:(0:Int)≤den m r:=Zw.1 (hg (gLe (eI k 0) m) (by simp))
  have g1:(den m r:Int)<((den l r:List u.D).length:Int):=Z3G.1 (hg (gLt m (.o1 (.len cc u) l)) (by simp))
  unfold Z0k at hne
  split at hne
  case h_2=>cases hne
  rename_i t' e' hid
  split at hne
  case isFalse=>cases hne
  rename_i ht'
  subst ht'
  have hrep:=Z3e (M':=fun _=>False) (h.heap id _ hid) ⟨fun _ _ _=>rfl,fun _ _ hf=>hf.elim⟩ (fun _ _ hf=>hf) hne ⟨p,n,c,h1,h2,h3,h4,h5⟩
  have hlt:Int.toNat (den m r)<(den l r:List u.D).length:=Z3_ g0 g1
  obtain ⟨q,cp,hq,hqs,-⟩:=Z41 hrep (Nat.lt_of_le_of_lt (Yf _) hlt)
  refine Zt.look h (fun w2 _=>run q _ cp hqs hq g0 g1 w2) ⟨p,n,c,q,_,cp,h1,h2,h3,h4,by rw [h5,hq],hqs,g0,hlt,by rw [hsz,Nat.add_zero]⟩ ⟨⟨hn.1,hmn⟩,hn.2⟩
 ·rename_i cc ty l hx
  obtain ⟨hv,hn⟩:=Zu h hx
  split at hs
  case isFalse=>cases hs
  rename_i hsz
  simp only [Y4,Y9] at hs
  obtain ⟨rfl,rfl,rfl⟩:=hs
  have g0:(0:Int)≤den m r:=Zw.1 (hg (gLe (eI k 0) m) (by simp))
  have g1:(den m r:Int)<((den l r:List ty.D).length:Int):=Z3G.1 (hg (gLt m (.o1 (.len cc ty) l)) (by simp))
  have hlt:Int.toNat (den m r)<(den l r:List ty.D).length:=Z3_ g0 g1
  obtain ⟨q,cp,hq,hqs,-⟩:=Z41 hv (Nat.lt_of_le_of_lt (Yf _) hlt)
  have hv':=hv
  simp only [Z7] at hv'
  rw [hq] at hv'
  refine Zt.look h (fun w2 _=>run q _ cp hqs hq g0 g1 w2) ⟨q,_,cp,hv',hqs,g0,hlt,by rw [hsz,Nat.add_zero]⟩ ⟨hn,hmn⟩
 ·rename_i ty l hx
  obtain ⟨⟨hv,-⟩,hn⟩:=Zu h hx
  split at hs
  case isFalse=>cases hs
  rename_i hsz
  simp only [Y4,Y9] at hs
  obtain ⟨rfl,rfl,rfl⟩:=hs
  have g0:(0:Int)≤den m r:=Zw.1 (hg (gLe (eI k 0) m) (by simp))
  have g1:(den m r:Int)<((den l r:List ty.D).length:Int):=Z3G.1 (hg (gLt m (Zh l)) (by simp))
  have hlt:Int.toNat (den m r)<(den l r:List ty.D).length:=Z3_ g0 g1
  obtain ⟨q,cp,hq,hqs,-⟩:=Z41 hv (Nat.lt_of_le_of_lt (Yf _) hlt)
  have hv':=hv
  rw [hq] at hv'
  refine Zt.look h (fun w2 _=>run q _ cp hqs hq g0 g1 w2) ⟨q,_,cp,hv',hqs,g0,hlt,by rw [hsz,Nat.add_zero]⟩ ⟨hn,hmn⟩
 ·rename_i id ty lo hi hx
  obtain ⟨hv,hn⟩:=Zu h hx
  split at hs
  case h_2=>cases hs
  rename_i l hl
  split at hs
  case isFalse=>cases hs
  rename_i hk
  subst hk
  split at hs
  case isFalse=>cases hs
  rename_i hsz
  simp only [Y4,Y9] at hs
  obtain ⟨rfl,rfl,rfl⟩:=hs
  have g0:(0:Int)≤den m r:=Zw.1 (hg (gLe (eI .i64 0) m) (by simp))
  have g1:(den m r:Int)<((den l r:List ty.D).length:Int):=Z3G.1 (hg (gLt m (Zh l)) (by simp))
  have g2:(den hi r:Int)≤lim:=Zw.1 (hg (gLe hi (eI .i64 lim)) (by simp))
  have hlt:Int.toNat (den m r)<(den l r:List ty.D).length:=Z3_ g0 g1
  obtain ⟨hrep,hall⟩:=Z3j (M':=fun _=>False) h (fun _ hf=>hf.elim) hl hv (fun _ _ _ _ _ _ hf=>hf)
  obtain ⟨p,n,c,l0,k0,z1,z2,z3,z4,z5,z6,z7,e0,hr0⟩:=hall _ _ _ _ rfl
  obtain ⟨q,cp,hq,hqs,-⟩:=Z41 hrep (Nat.lt_of_le_of_lt (Yf _) hlt)
  have hnc:n=(den e0 r:List ty.D).length∧n≤c:=by
   obtain ⟨x',c',q1,q2,_⟩:=hr0
   simp only [List.cons.injEq,Value.slice.injEq,and_true] at q1
   exact ⟨q1.2.1,by rw [q1.2.1,q1.2.2];exact q2⟩
  rw [z6] at hlt
  rw [hnc.1] at hr0
  obtain ⟨p',cp',hp,hps,-⟩:=Z41 hr0 (by rw [←hnc.1];omega)
  simp only [Value.slice.injEq] at hp
  obtain ⟨rfl,-,-⟩:=hp
  rw [if_neg (show ¬c=l0 by omega),Option.map_some,Z0e hps] at z7
  rw [hq] at z7
  simp only [Value.slice.injEq,Y4] at z7
  obtain ⟨rfl,-,-⟩:=z7
  obtain ⟨q0,hq0⟩:∃q:Nat,(den m r:Int)=q:=⟨_,(Int.toNat_of_nonneg g0).symm⟩
  have hlt':q0<k0 - l0:=by rw [hq0] at hlt;simpa using hlt
  have g2':k0≤549755813888:=by rw [z5] at g2;exact Int.ofNat_le.1 g2
  have hw:(den (.o2 (.ar .add .i64) lo m) r:Int)=((l0+q0:Nat):Int):=by
   show IntKind.i64.wrap ((den lo r:Int)+(den m r:Int))=_
   rw [z4,hq0,IntKind.wrap_i64]
   clear hrep hall hr0 hg
   omega
  have hi0:Int.toNat (den (.o2 (.ar .add .i64) lo m) r)=l0+q0:=by rw [hw];rfl
  have hi1:Int.toNat (den m r)=q0:=by rw [hq0];rfl
  refine Zt.look h (fun w2 _=>run _ _ cp hqs hq g0 g1 w2) ⟨p',_,c,z1,hps,?_,?_,?_⟩ ⟨⟨hn.1.1,hmn⟩,hn.2⟩
  ·rw [hw];exact Int.natCast_nonneg _
  ·rw [hi0];omega
  ·rw [hi0,hi1,hsz,Nat.add_mul,Nat.add_zero,Nat.add_assoc]
 ·cases hs
theorem Z0h.get {M:Nat→Prop}:∀{l:List (Bool×List Atom)} {vs:List Value} {i:Nat} {c:Bool×List Atom},Z0h w M g r l vs→l[i]?=some c→∃v,vs[i]?=some v∧Z0g w M g r c v
 | [],[],_,_,_,h=>by simp at h
 | _::_,v::_,0,c,h,hs=>⟨v,rfl,by simp at hs;exact hs▸h.1⟩
 | a::l,b::bs,i+1,c,h,hs=>let ⟨u,hu,hr⟩:=Z0h.get (l:=l) (vs:=bs) (i:=i) h.2 (by simpa using hs);⟨u,by simpa using hu,hr⟩
 | [],_::_,_,_,h,_=>h.elim
 | _::_,[],_,_,h,_=>h.elim
theorem Z44 (h:R bd N s r g a.tmps st w) {t:Operand} {i:Nat} (o:Oper) (ho:o.op=.extract t i) {gs:List (E .bool)} {sv:SV} {s':St}
  (hs:Z1p P false s 0 (.extract t i)=some (gs,sv,s')):Zt P bd N r st false (execOp a.eval o) a.tmps w sv s':=by
 simp only [Z1p] at hs
 split at hs
 case h_2=>cases hs
 rename_i l hx
 have hget:=Z3m h t
 rw [hx] at hget
 obtain ⟨⟨cs,hcs,hr⟩,hn⟩:=hget
 have run:∀v,cs.toList[i]?=some v→∀w2,(execOp a.eval o).run P w2=.ok (.value v) w2:=by
  intro v hv w2
  simp only [execOp,ho,hcs]
  refine Zv ?_
  have:cs[i]?=some v:=by simpa using hv
  simp only [Instr.extract,this]
  rfl
 split at hs
 ·rename_i m hm
  obtain ⟨-,rfl,rfl⟩:=Z3T hs
  obtain ⟨v,hv,hc⟩:=Z0h.get hr hm
  simp only [Z0g,if_true] at hc
  exact Zt.look h (fun w2 _=>run v hv w2) hc (hn _ (YD hm))
 ·rename_i b hm
  obtain ⟨-,rfl,rfl⟩:=Z3T hs
  obtain ⟨v,hv,hc⟩:=Z0h.get hr hm
  simp only [Z0g,Yg,if_false] at hc
  exact Zt.look h (fun w2 _=>run v hv w2) hc.1 (hn _ (YD hm) _ (Y1.2 rfl))
 ·cases hs
theorem Z45 {M:Nat→Prop} {s t:Ty} {e:E s} {e':E t} (h:coe s t e=some e') {vs:List Value} (hv:Rep w M s (den e r) vs):Rep w M t (den e' r) vs:=by
 unfold coe at h
 split at h
 ·rename_i hst;subst hst;cases h;exact hv
 ·split at h
  ·split at h
   ·rename_i hab
    subst hab
    cases h
    obtain ⟨x,cp,h1,h2,h3,h4⟩:=hv
    exact ⟨x,cp,h1,h2,by simp,h4⟩
   ·cases h
  ·cases h
theorem Z46 {s t:Ty} {e:E s} {e':E t} (h:coe s t e=some e') (hv:e.vs N):e'.vs N:=by
 unfold coe at h
 split at h
 ·rename_i hst;subst hst;cases h;exact hv
 ·split at h
  ·split at h
   ·rename_i hab;subst hab;cases h;exact hv
   ·cases h
  ·cases h
theorem Z47 (h:R bd N s r g a.tmps st w) {id:Nat} {t:Ty} {k:IntKind} {i:E (.int k)} {j:Nat} {b:AE} {v:Value} (hb:Z0k s.heap id t k i j=some b) (hv:Z7 w (Mt bd.Z s.heap g) g r (.nref id t k i j) v) (hi:i.vs N) :
  Rep w (fun _=>False) b.1 (den b.2 r) [v]∧b.2.vs N:=by
 unfold Z0k at hb
 split at hb
 case h_2=>cases hb
 rename_i t' e' hid
 split at hb
 case isFalse=>cases hb
 rename_i ht'
 subst ht'
 exact ⟨Z3e (M':=fun _=>False) (h.heap id _ hid) ⟨fun _ _ _=>rfl,fun _ _ hf=>hf.elim⟩ (fun _ _ hf=>hf) hb hv,Z37 hb ⟨h.nheap id _ hid,hi⟩⟩
theorem Z48 (h:R bd N s r g a.tmps st w) {b:Atom} {v:Value} (hv:Z7 w (Mt bd.Z s.heap g) g r b v) (hn:b.vs N) {t:Ty} {e:E t} (he:b.toE s.heap t=some e) :
  Rep w (fun _=>False) t (den e r) [v]∧e.vs N:=by
 have hk:Kept w (Mt bd.Z s.heap g) w (fun _=>False):=⟨fun _ _ _=>rfl,fun _ _ hf=>hf.elim⟩
 cases b with
 | x u e'=>exact ⟨Z45 he (Rep.keep hk hv),Z46 he hn⟩
 | xc u e'=>exact ⟨Z45 he (Rep.keep hk hv.1),Z46 he hn⟩
 | nil =>
  simp only [Atom.toE] at he
  split at he
  ·cases he
   simp only [Z7] at hv
   subst hv
   exact ⟨⟨none,0,rfl,Yh _,fun _=>by simp [den],fun _=>rfl,fun p hp=>by cases hp⟩,trivial⟩
  ·cases he
 | ref id =>
  simp only [Atom.toE] at he
  split at he
  case h_2=>cases he
  rename_i dp u e' hid
  simp only [Z7] at hv
  subst hv
  exact ⟨Z45 he (Zb.rep (h.heap id _ hid) hk (fun _ _ hf=>hf)),Z46 he (h.nheap id _ hid)⟩
 | nref id u k i j =>
  simp only [Atom.toE,Option.bind_eq_some_iff] at he
  obtain ⟨b,hb,he⟩:=he
  obtain ⟨h1,h2⟩:=Z47 h hb hv hn
  exact ⟨Z45 he h1,Z46 he h2⟩
 | _=>cases he
theorem Z49 (h:R bd N s r g a.tmps st w) {b:Atom} {v:Value} (hv:Z7 w (Mt bd.Z s.heap g) g r b v) {t:Ty} {e:E t} (he:b.toE s.heap t=some e) (hr:refsOf [b]=[]) :
  Rep w (Mt bd.Z s.heap g) t (den e r) [v]:=by
 cases b with
 | x u e'=>exact Z45 he hv
 | xc u e'=>exact Z45 he hv.1
 | nil =>
  simp only [Atom.toE] at he
  split at he
  ·cases he
   simp only [Z7] at hv
   subst hv
   exact ⟨none,0,rfl,Yh _,fun _=>by simp [den],fun _=>rfl,fun p hp=>by cases hp⟩
  ·cases he
 | ref id=>simp [refsOf] at hr
 | nref id u k i j=>simp [refsOf] at hr
 | _=>cases he
theorem Z4a {α:Type} (x:α):(#[x]:Array α)[0]?=some x:=rfl
def Z4b (l:Array Operand):Array Bool:=l.map fun | .const _=>true | _=>false
theorem Z4c (o:Oper) {b:Builtin} {args:Array Operand} {ts:Array TypeId} (ho:o.op=.call { callee:=.builtin b,args:=args,argTypes:=ts }) :
  (execOp a.eval o).run P w=(builtin b ts o.type (Z4b args) (args.map a.eval)).run P w:=by
 simp only [execOp,ho]
 rfl
theorem Z4d (h:R bd N s r g a.tmps st w) {t ty:TypeId} {ts:Array TypeId} {x:Operand} (o:Oper) (ho:o.op=.call { callee:=.builtin .len,args:=#[x],argTypes:=ts }) (ht:ts[0]?=some t)
  {e:E (.int .i64)} (he:Z0J s.heap (s.get x).atom=some e) (hok:Z0K P t (s.get x).atom=true):Zt P bd N r st false (execOp a.eval o) a.tmps w (ax (.int .i64) e) s:=by
 obtain ⟨hv,hn⟩:=Z3o h x
 have hk:Kept w (Mt bd.Z s.heap g) w (fun _=>False):=⟨fun _ _ _=>rfl,fun _ _ hf=>hf.elim⟩
 generalize hb:(s.get x).atom=b at he hok hv hn
 have fin:∀n:Int,(∀w2,(Builtin.len_ ts o.type #[a.eval x]).run P w2=.ok (.int .i64 n) w2)→(den e r:Int)=n→e.vs N→Zt P bd N r st false (execOp a.eval o) a.tmps w (ax (.int .i64) e) s:=by
  intro n hr hd hvs
  refine Zt.look h (v:=.int .i64 n) ?_ (by rw [←hd];exact Z3u e _) hvs
  intro w2 _
  rw [Z4c o ho,show (#[x]:Array Operand).map a.eval=#[a.eval x] by simp]
  exact Zv (hr w2)
 have hsl:∀(c:Bool) (u:Ty) (l:E (.sl c u)),Rep w (fun _=>False) (.sl c u) (den l r) [a.eval x]→(∃e',P.underlying t=some (.slice e'))→∀w2,(Builtin.len_ ts o.type #[a.eval x]).run P w2=.ok (.int .i64 ((den l r:List u.D).length:Int)) w2:=by
  rintro c u l ⟨p,cp,h1,_⟩ ⟨e',ht'⟩ w2
  simp only [List.cons.injEq,and_true] at h1
  rw [h1]
  unfold Builtin.len_
  simp only [ht,Z4a]
  rw [run_bind_ok (Z3K ht')]
  rfl
 have hty:(∀e',b≠.x .str e')→∃e',P.underlying t=some (.slice e'):=by
  intro hne
  unfold Z0K at hok
  split at hok
  ·exact (hne _ rfl).elim
  ·split at hok
   ·rename_i e' he';exact ⟨e',he'⟩
   ·cases hok
 unfold Z0J at he
 split at he
 ·rename_i c u l
  cases he
  exact fin _ (hsl c u l (Rep.keep hk hv) (hty (by simp))) rfl hn
 ·rename_i l
  cases he
  have hv:=Z3r hv
  refine fin ((den l r:ByteArray).size:Int) ?_ rfl hn
  simp only [Z0K] at hok
  split at hok
  ·rename_i ht'
   intro w2
   rw [hv]
   unfold Builtin.len_
   simp only [ht,Z4a]
   rw [run_bind_ok (Z3K ht')]
   rfl
  ·cases hok
 ·rename_i u l
  cases he
  exact fin _ (hsl false u l (Rep.keep hk hv.1) (hty (by simp))) rfl hn
 ·cases he
  simp only [Z7] at hv
  refine fin 0 ?_ rfl trivial
  obtain ⟨e',ht'⟩:=hty (by simp)
  intro w2
  rw [hv]
  unfold Builtin.len_
  simp only [ht,Z4a]
  rw [run_bind_ok (Z3K ht')]
  rfl
 ·rename_i id
  split at he
  case h_2=>cases he
  rename_i dp u l hid
  cases he
  simp only [Z7] at hv
  have hr:=Zb.rep (h.heap id _ hid) hk (fun _ _ hf=>hf)
  rw [←hv] at hr
  exact fin _ (hsl false u l hr (hty (by simp))) rfl (h.nheap id _ hid)
 ·rename_i id u k i j
  split at he
  case h_2=>cases he
  rename_i c u' l hne
  cases he
  obtain ⟨h1,h2⟩:=Z47 h hne hv hn.1
  exact fin _ (hsl c u' l h1 (hty (by simp))) rfl h2
 ·rename_i id u lo hi
  obtain ⟨l,hl,rfl⟩:=Ya.1 he
  have h1:=(Z3j (M':=fun _=>False) h (fun _ hf=>hf.elim) hl hv (fun _ _ _ _ _ _ hf=>hf)).1
  exact fin _ (hsl false u l h1 (hty (by simp))) rfl (Z42 h hl hn)
 ·cases he
end
end Go.Sm
namespace Go.Sm
section
variable {P:Program} {bd:Bd} {N:Nat→Prop} {s:St} {r:Env} {g:Nat→G} {st:List (Array Value)} {w:World} {a:Act}
theorem Z4e {t:TypeId} {b:Bool} (h:Z0q P t=some b):(isAgg t).run P w=.ok b w:=by
 unfold Z0q at h
 cases hu:P.underlying t with
 | none=>simp [hu] at h
 | some d =>
  unfold isAgg
  rw [run_bind_ok (Z3K hu)]
  rw [hu] at h
  cases d<;>simp at h<;>subst h<;>rfl
theorem Z4f {b o:Nat} {v:Value} (h:cell w b o=some v):(load ⟨b,o,none⟩).run P w=.ok v w:=by
 simp only [load,Sem.run]
 rw [show w.cell? ⟨b,o,none⟩=some v from h]
theorem run_loadCellsFrom {b o:Nat}:∀(n i:Nat) (acc:Array Value) (vs:List Value),vs.length=n→(∀k u,vs[k]?=some u→cell w b (o+(i+k))=some u) →
  (loadCellsFrom ⟨b,o,none⟩ i n acc).run P w=.ok (acc++vs.toArray) w:=by
 intro n
 induction n with
 | zero=>intro i acc vs hl _;cases vs with
  | nil=>simp only [loadCellsFrom];simp [run_pure]
  | cons _ _=>simp at hl
 | succ n ih =>
  intro i acc vs hl hc
  cases vs with
  | nil=>simp at hl
  | cons v vs =>
   have h0:cell w b (o+i)=some v:=by simpa using hc 0 v rfl
   simp only [loadCellsFrom]
   rw [show (⟨b,o,none⟩:Addr).add i=⟨b,o+i,none⟩ from Z0e rfl i,run_bind_ok (Z4f h0),ih (i+1) (acc.push v) vs (by simpa using hl) (fun k u hk=>by
    have:=hc (k+1) u (by simpa using hk)
    rwa [show i+1+k=i+(k+1) by omega])]
   simp
theorem Z4g {b o n:Nat} {vs:List Value} (hl:vs.length=n) (hc:∀k u,vs[k]?=some u→cell w b (o+k)=some u):(loadCells ⟨b,o,none⟩ n).run P w=.ok vs.toArray w:=by
 unfold loadCells
 rw [run_loadCellsFrom n 0 #[] vs hl (fun k u hk=>by simpa using hc k u hk)]
 simp
theorem Z4h {M:Nat→Prop} {l:List Atom} {vs:List Value} {b o j:Nat} {ag:Bool} {t:TypeId} {i:TypeInfo} {sv:SV} (hl:Z8 w M g r l vs) (hc:∀k u,vs[k]?=some u→cell w b (o+k)=some u)
  (hag:Z0q P t=some ag) (hi:P.info? t=some i) (hp:part l ag j i.size=some sv) :
  ∃v,(∀w2,(∀k u,vs[k]?=some u→cell w2 b (o+k)=some u)→(loadVar t ⟨b,o+j,none⟩).run P w2=.ok v w2)∧Z9 w M g r sv v:=by
 unfold part at hp
 cases ag with
 | false =>
  simp only [Yg,if_false,Ya] at hp
  obtain ⟨x,hx,rfl⟩:=hp
  obtain ⟨v,hv,hr⟩:=hl.get hx
  refine ⟨v,fun w2 hc=>?_,hr⟩
  unfold loadVar
  rw [run_bind_ok (Z4e hag)]
  simp only [Yg,if_false]
  exact Z4f (hc j v hv)
 | true =>
  simp only [if_true] at hp
  split at hp
  case isFalse=>cases hp
  rename_i hh
  cases hp
  have hlen:=hl.length
  have h2:=(hl.drop j).take i.size
  refine ⟨.agg ((vs.drop j).take i.size).toArray,fun w2 hc=>?_,_,rfl,by simpa using h2⟩
  unfold loadVar
  rw [run_bind_ok (Z4e hag)]
  simp only [if_true]
  rw [run_bind_ok (Z3M hi),run_bind_ok (Z4g (vs:=(vs.drop j).take i.size) (by simp;omega) ?_)]
  ·rfl
  ·intro k u hk
   have hk1:k<i.size:=by
    have:=(Yn.1 hk).1
    simp at this
    omega
   rw [List.getElem?_take_of_lt hk1,YB] at hk
   rw [Nat.add_assoc]
   exact hc (j+k) u hk
theorem Z4i {M:Nat→Prop} {l:List Atom} {vs:List Value} {b o j:Nat} {ag:Bool} {t:TypeId} {i:TypeInfo} {sv:SV} (hl:Z8 w M g r l vs) (hc:∀k u,vs[k]?=some u→cell w b (o+k)=some u)
  (hag:Z0q P t=some ag) (hi:P.info? t=some i) (hp:part l ag j i.size=some sv) :
  ∃v,(∀w2,(∀k u,vs[k]?=some u→cell w2 b (o+k)=some u)→(Instr.loadAt t (.pointer (some ⟨b,o+j,none⟩))).run P w2=.ok v w2)∧Z9 w M g r sv v:=by
 obtain ⟨v,h1,h2⟩:=Z4h hl hc hag hi hp
 refine ⟨v,fun w2 hc=>?_,h2⟩
 unfold Instr.loadAt
 rw [run_bind_ok (v:=⟨b,o+j,none⟩) (w':=w2) rfl]
 exact h1 w2 hc
theorem Z4j {M:Nat→Prop}:∀{t:Ty} {e:E t} {us:List Value},Rep w M t (den e r) us→Z8 w M g r (Zf t e) us:=by
 intro t
 induction t with
 | pr s u ihs ihu =>
  intro e us h
  obtain ⟨l,m,rfl,hl,hm⟩:=h
  exact (ihs (e:=.o1 (.fst s u) e) hl).append (ihu (e:=.o1 (.snd s u) e) hm)
 | int k=>intro e us h;have h0:=h;simp only [Rep] at h0;subst h0;exact ⟨h,trivial⟩
 | bool=>intro e us h;have h0:=h;simp only [Rep] at h0;subst h0;exact ⟨h,trivial⟩
 | str=>intro e us h;have h0:=h;simp only [Rep] at h0;subst h0;exact ⟨h,trivial⟩
 | sl c u ih=>intro e us h;have h0:=h;obtain ⟨x,cp,rfl,_⟩:=h0;exact ⟨h,trivial⟩
theorem Z4k {h0:Nat→Option Blk}:∀{t:Ty} {e:E t},e.vs N→∀b∈Zf t e,b.ok N h0:=by
 intro t
 induction t with
 | pr s u ihs ihu =>
  intro e h b hb
  rcases Y6.1 hb with hb | hb
  ·exact ihs (e:=.o1 (.fst s u) e) h b hb
  ·exact ihu (e:=.o1 (.snd s u) e) h b hb
 | _=>intro e h b hb;simp only [Zf,Y1] at hb;subst hb;exact h
theorem Z6.len {t:Ty} {ho:Option Nat} {F:List Nat} {d:t.D} {us:List Value} (h:Z6 w t ho F d us):us.length=t.size:=by
 induction t generalizing ho F us with
 | int k=>simp only [Z6] at h;obtain ⟨_,h⟩:=h;split at h<;>simp_all [Ty.size]
 | bool=>simp only [Z6] at h;obtain ⟨_,h⟩:=h;split at h<;>simp_all [Ty.size]
 | str=>simp only [Z6] at h;obtain ⟨_,h⟩:=h;split at h<;>simp_all [Ty.size]
 | sl c e ih => simp only [Z6] at h; split at h
                ·simp_all [Ty.size]
                ·obtain ⟨v,_,_,_,rfl,_⟩:=h;simp [Ty.size]
 | pr s t ihs iht=>simp only [Z6] at h;obtain ⟨F1,F2,l,m,_,rfl,hl,hm⟩:=h;simp [Ty.size,ihs hl,iht hm]
theorem Z4l {M:Nat→Prop} {id:Nat} {t0:Ty} {k:IntKind} {i:E (.int k)} {p:Addr} {n c:Nat} (h1:(g id).val=.slice (some p) n c) (h2:p.block∈(g id).foot) (h3:(0:Int)≤den i r) (h4:Int.toNat (den i r)<n) :
  ∀{t:Ty} {o:Nat} {e:E t} {F:List Nat} {us:List Value},Z6 w t none F (den e r) us→(∀j u,us[j]?=some u→cell w p.block (p.off+(Int.toNat (den i r) * t0.size+(o+j)))=some u) →
   Z8 w M g r (Z0v id t0 k i t o e) us:=by
 intro t
 induction t with
 | pr s u ihs ihu =>
  intro o e F us h hc
  simp only [Z6] at h
  obtain ⟨F1,F2,l,m,_,rfl,hl,hm⟩:=h
  have hlen:=hl.len
  refine (ihs (e:=.o1 (.fst s u) e) hl fun j v hj=>hc j v ?_).append (ihu (e:=.o1 (.snd s u) e) hm fun j v hj=>?_)
  ·rw [Yw];exact hj
   have:=(Yn.1 hj).1;exact this
  ·have:=hc (s.size+j) v (by rw [Yt (by omega)];simpa [hlen] using hj)
   rwa [show o+s.size+j=o+(s.size+j) by omega]
 | int k'=>intro o e F us h hc;simp only [Z6] at h;obtain ⟨_,h⟩:=h;simp at h;subst h;exact ⟨Z3s rfl,trivial⟩
 | bool=>intro o e F us h hc;simp only [Z6] at h;obtain ⟨_,h⟩:=h;simp at h;subst h;exact ⟨Z3t rfl,trivial⟩
 | str=>intro o e F us h hc;simp only [Z6] at h;obtain ⟨_,h⟩:=h;simp at h;subst h;exact ⟨by simp only [Z7,Rep],trivial⟩
 | sl cc u ih =>
  intro o e F us h hc
  have hl:=h.len
  simp only [Ty.size] at hl
  obtain ⟨v,rfl⟩:=List.length_eq_one_iff.1 hl
  exact ⟨⟨p,n,c,h1,h2,h3,h4,by simpa using hc 0 v rfl⟩,trivial⟩
theorem Z4m {h0:Nat→Option Blk} {id:Nat} {t0:Ty} {k:IntKind} {i:E (.int k)} (hi:i.vs N) (hl:(h0 id).isSome=true):∀{t:Ty} {o:Nat} {e:E t},e.vs N→∀b∈Z0v id t0 k i t o e,b.ok N h0:=by
 intro t
 induction t with
 | pr s u ihs ihu =>
  intro o e h b hb
  rcases Y6.1 hb with hb | hb
  ·exact ihs (e:=.o1 (.fst s u) e) h b hb
  ·exact ihu (e:=.o1 (.snd s u) e) h b hb
 | sl c u ih=>intro o e h b hb;simp only [Z0v,Y1] at hb;subst hb;exact ⟨hi,hl⟩
 | _=>intro o e h b hb;simp only [Z0v,Y1] at hb;subst hb;exact h
theorem Z4n {p:Atom→Prop} {l:List Atom} {ag:Bool} {j n:Nat} {sv:SV} (hp:part l ag j n=some sv) (hl:∀b∈l,p b):sv.all p:=by
 unfold part at hp
 split at hp
 ·split at hp
  ·cases hp
   intro b hb
   exact hl b (List.mem_of_mem_drop (List.mem_of_mem_take hb))
  ·cases hp
 ·obtain ⟨x,hx,rfl⟩:=Ya.1 hp
  exact hl x (YD hx)
theorem Rep.flat {M M':Nat→Prop} {w':World}:∀{t:Ty} {d:t.D} {vs:List Value},t.hasSl=false→Rep w M t d vs→Rep w' M' t d vs:=by
 intro t
 induction t with
 | sl c e ih=>intro d vs h;simp [Ty.hasSl] at h
 | pr s t ihs iht =>
  intro d vs h hr
  simp only [Ty.hasSl,Bool.or_eq_false_iff] at h
  obtain ⟨l,m,h1,h2,h3⟩:=hr
  exact ⟨l,m,h1,ihs h.1 h2,iht h.2 h3⟩
 | _=>intro d vs _ h;exact h
theorem Z4o {k k':IntKind} {ix:E (.int k)} {ix':E (.int k')} (hg:∀c∈(if eqE ix ix'=true then [] else [.o2 (.cm .eql k k') ix ix']:List (E .bool)),den c r=true):Int.toNat (den ix r)=Int.toNat (den ix' r):=by
 have h3:∀{k k':IntKind} (x:Int) (y:Int),((⟨.int k,x⟩:AV)=⟨.int k',y⟩)→x=y:=by
  intro k k' x y hxy;cases hxy;rfl
 by_cases he:eqE ix ix'=true
 ·exact congrArg Int.toNat (h3 _ _ (Z3A r ix ix' he))
 ·have:=hg (.o2 (.cm .eql k k') ix ix') (by simp [he])
  simp only [den,O2.d,cmI,beq_iff_eq] at this
  exact congrArg Int.toNat this
theorem Z4p (h:R bd N s r g a.tmps st w) {t:TypeId} {x:Operand} (o:Oper) (ho:o.op=.load t x) {gs:List (E .bool)} {sv:SV} {s':St} (hs:Z0w P s t x=some (gs,sv,s')) (hg:∀c∈gs,den c r=true) :
  Zt P bd N r st true (execOp a.eval o) a.tmps w sv s':=by
 unfold Z0w at hs
 split at hs
 case h_2=>cases hs
 rename_i ag i hag hi
 have fin:∀{l:List Atom} {vs:List Value} {b o' j:Nat} {gs:List (E .bool)},Z8 w (Mt bd.Z s.heap g) g r l vs→(∀k u,vs[k]?=some u→cell w b (o'+k)=some u)→(∀b∈l,b.ok N s.heap) →
   a.eval x=.pointer (some ⟨b,o'+j,none⟩)→(part l ag j i.size).bind (one s)=some (gs,sv,s')→Zt P bd N r st true (execOp a.eval o) a.tmps w sv s':=by
  intro l vs b o' j gs hl hc hn hv hp
  obtain ⟨sv',hp',h1⟩:=Option.bind_eq_some_iff.1 hp
  obtain ⟨-,rfl,rfl⟩:=Z3T h1
  obtain ⟨v,hr,hs⟩:=Z4i hl hc hag hi hp'
  refine Zt.look h ?_ hs (Z4n hp' hn)
  intro w2 hext
  simp only [execOp,ho,hv]
  exact Zv (hr w2 fun k u hk=>by
   have h1:=hc k u hk
   rw [Z0c (hext rfl b (Z0d h1))]
   exact h1)
 split at hs
 ·rename_i id j hx
  obtain ⟨hv,-⟩:=Zu h hx
  split at hs
  case h_2=>cases hs
  rename_i l hid
  obtain ⟨-,c,ty,hc,hl⟩:=h.heap id _ hid
  refine fin (o':=0) hl (fun k u hk=>?_) (h.nheap id _ hid) (by rw [Nat.zero_add];exact hv) hs
  rw [Nat.zero_add,Z0b,hc]
  simpa using hk
 ·rename_i id ty k ix j hx
  obtain ⟨⟨p,n,c,h1,h2,h3,h4,h5⟩,hn⟩:=Zu h hx
  split at hs
  ·rename_i ty' e hid
   split at hs
   case isFalse=>cases hs
   rename_i ht
   subst ht
   obtain ⟨oo,xs,Fs,b1,b2,b3,b4⟩:=h.heap id _ hid
   obtain ⟨ho',hs',hn',_,hcell⟩:=b1.cells h1 (Nat.lt_of_le_of_lt (Yf _) h4)
   subst hn'
   obtain ⟨us,a1,a2,a3⟩:=b4 _ h4
   simp only [Row,Yg,if_false] at a3
   have hd:den (.o2 (.idx false ty' k) e ix) r=(den e r:List ty'.D)[Int.toNat (den ix r)]:=by rw [Z3b];exact Z3c h4
   have hrep:=a3.2
   rw [←hd] at hrep
   exact fin (o':=p.off+Int.toNat (den ix r) * ty'.size) (Z4j hrep) (fun m u hm=>by rw [Nat.add_assoc];exact hcell _ _ (a2 m u hm)) (Z4k ⟨h.nheap id _ hid,hn.1⟩) (by rw [h5,Nat.add_assoc]) hs
  ·rename_i ty' e hid
   split at hs
   case isFalse=>cases hs
   rename_i ht
   subst ht
   obtain ⟨oo,xs,Fs,b1,b2,b3,b4⟩:=h.heap id _ hid
   obtain ⟨ho',hs',hn',_,hcell⟩:=b1.cells h1 (Nat.lt_of_le_of_lt (Yf _) h4)
   subst hn'
   obtain ⟨us,a1,a2,a3⟩:=b4 _ h4
   simp only [Row,if_true] at a3
   have hd:den (.o2 (.idx false ty' k) e ix) r=(den e r:List ty'.D)[Int.toNat (den ix r)]:=by rw [Z3b];exact Z3c h4
   rw [←hd] at a3
   exact fin (o':=p.off+Int.toNat (den ix r) * ty'.size)
    (Z4l (M:=Mt bd.Z s.heap g) (o:=0) h1 (by rw [b2,ho'];simp) h3 h4 a3 (fun m u hm=>by rw [Nat.zero_add];exact hcell _ _ (a2 m u hm)))
    (fun m u hm=>by rw [Nat.add_assoc];exact hcell _ _ (a2 m u hm)) (Z4m hn.1 hn.2 ⟨h.nheap id _ hid,hn.1⟩) (by rw [h5,Nat.add_assoc]) hs
  ·rename_i ty' e k' ix' j' b hid
   split at hs
   case isFalse=>cases hs
   rename_i hc
   obtain ⟨rfl,rfl,hsz,rfl⟩:=hc
   simp only [Y4,Y9] at hs
   obtain ⟨rfl,rfl,rfl⟩:=hs
   have heq:=Z4o hg
   obtain ⟨-,v,⟨p',n',c',q1,q2,q3,q4,q5⟩,hav⟩:=h.heap id _ hid
   rw [h1] at q1
   simp only [Value.slice.injEq,Y4] at q1
   obtain ⟨rfl,rfl,rfl⟩:=q1
   rw [←heq] at q5
   refine fin (l:=[b]) (vs:=[v]) (j:=0) (gs:=[]) (b:=p.block) (o':=p.off+(Int.toNat (den ix r) * ty'.size+j')) ⟨hav,trivial⟩ (fun m u hm=>?_) (fun b' hb'=>?_) (by rw [h5];rfl) (by rw [hsz];rfl)
   ·cases m with
    | zero=>simp only [List.getElem?_cons_zero,Y4] at hm;subst hm;exact q5
    | succ m=>simp at hm
   ·simp only [Y1] at hb';subst hb';exact (h.nheap id _ hid).2.2
  ·rename_i ty' e k' ix' b hid
   split at hs
   case isFalse=>cases hs
   rename_i hc
   obtain ⟨rfl,rfl,hsz,rfl⟩:=hc
   simp only [Y4,Y9] at hs
   obtain ⟨rfl,rfl,rfl⟩:=hs
   have heq:=Z4o hg
   obtain ⟨v,⟨hs1,oo,xs,b1,b2,b3,b4,-⟩,hav⟩:=h.heap id _ hid
   obtain ⟨-,-,rfl,-,hcell⟩:=b1.cells h1 (Nat.lt_of_le_of_lt (Yf _) h4)
   rw [←heq] at b4
   refine fin (l:=[b]) (vs:=[v]) (j:=0) (gs:=[]) (b:=p.block) (o':=p.off+Int.toNat (den ix r)) ⟨hav,trivial⟩ (fun m u hm=>?_) (fun b' hb'=>?_) (by rw [h5,hs1];simp) (by rw [hsz];rfl)
   ·cases m with
    | zero=>simp only [List.getElem?_cons_zero,Y4] at hm;subst hm;exact hcell _ _ b4
    | succ m=>simp at hm
   ·simp only [Y1] at hb';subst hb';exact (h.nheap id _ hid).2.2
  ·cases hs
 ·rename_i c ty l k ix j hx
  obtain ⟨⟨p,n,cp,h1,h2,h3,h4,h5⟩,hn⟩:=Zu h hx
  obtain ⟨q,cq,e1,e2,e3,e4,e5⟩:=h1
  simp only [List.cons.injEq,Value.slice.injEq,and_true] at e1
  obtain ⟨rfl,rfl,rfl⟩:=e1
  have hne:(den l r:List ty.D)≠[]:=by intro h0;rw [h0] at h4;simp at h4
  obtain ⟨f1,f2,f3⟩:=e5 p rfl hne
  obtain ⟨us,a1,a2,a3⟩:=f3 _ h4
  have hd:den (.o2 (.idx c ty k) l ix) r=(den l r:List ty.D)[Int.toNat (den ix r)]:=by rw [Z3b];exact Z3c h4
  rw [←hd] at a3
  exact fin (o':=p.off+Int.toNat (den ix r) * ty.size) (Z4j a3) (fun m u hm=>by rw [Nat.add_assoc];exact a2 m u hm) (Z4k hn) (by rw [h5,Nat.add_assoc]) hs
 ·rename_i id ty k ix j u k' ix' j' hx
  obtain ⟨⟨p,n,c,q,n',c',h1,h2,h3,h4,h5,h6,h7,h8,h9⟩,hn⟩:=Zu h hx
  split at hs
  case h_2=>cases hs
  rename_i cc u' l hne
  split at hs
  case isFalse=>cases hs
  rename_i hu
  subst hu
  split at hs
  ·cases hs
  rename_i hsl
  obtain ⟨hrep,hln⟩:=Z47 h hne ⟨p,n,c,h1,h2,h3,h4,h5⟩ hn.1.1
  obtain ⟨qa,cq,e1,e2,e3,e4,e5⟩:=hrep
  simp only [List.cons.injEq,Value.slice.injEq,and_true] at e1
  obtain ⟨rfl,rfl,rfl⟩:=e1
  have hnl:(den l r:List u'.D)≠[]:=by intro h0;rw [h0] at h8;simp at h8
  obtain ⟨f1,f2,f3⟩:=e5 q rfl hnl
  obtain ⟨us,a1,a2,a3⟩:=f3 _ h8
  have hd:den (.o2 (.idx cc u' k') l ix') r=(den l r:List u'.D)[Int.toNat (den ix' r)]:=by rw [Z3b];exact Z3c h8
  rw [←hd] at a3
  exact fin (o':=q.off+Int.toNat (den ix' r) * u'.size) (Z4j (Rep.flat (by simpa using hsl) a3)) (fun m u hm=>by rw [Nat.add_assoc];exact a2 m u hm) (Z4k ⟨hln,hn.1.2⟩) (by rw [h9,Nat.add_assoc]) hs
 ·cases hs
end
end Go.Sm
namespace Go.Sm
section
variable {P:Program} {bd:Bd} {N:Nat→Prop} {s:St} {r:Env} {g:Nat→G} {tm:Array Value} {st:List (Array Value)} {w:World}
theorem SV.map_congr {f f':Atom→Atom} (hf:∀a,f a=f' a) (v:SV):v.map f=v.map f':=by
 rw [show f=f' from funext hf]
theorem Atom.no_uses (i:Nat):Atom.no.uses i=false:=rfl
theorem R.replace (h:R bd N s r g tm st w) (f:Atom→Atom) (h':Nat→Option Blk) (b':Nat) {g':Nat→G} {w':World} (T:Nat→Prop)
  (hf:∀a,a.ok N s.heap→f a=.no∨(f a=a∧∀i,a.uses i=true→T i→(h' i).isSome=true∧(g' i).blk=(g i).blk∧(g' i).val=(g i).val ∧
   (a.nst=true→g' i=g i∧∀p n c,(g i).val=.slice (some p) n c→p.block∈(g i).foot→w'.heap[p.block]?=w.heap[p.block]?)))
  (hrest:∀i,¬T i→h' i=(s.heap i).map (Blk.map f)∧g' i=g i)
  (hkept:∀b,b<w.heap.size→(∀i B,T i→s.heap i=some B→b∉(g i).foot)→w'.heap[b]?=w.heap[b]?)
  (hnew:∀i B,T i→h' i=some B→(Kept w (Mt bd.Z s.heap g) w' (Mt bd.Z h' g')→Zc w' (Mt bd.Z h' g') g' r i B)∧B.ok N h'∧(g' i).foot.Nodup ∧
   ∀b∈(g' i).foot,(w.heap.size≤b∧b<w'.heap.size)∨∃j C,T j∧s.heap j=some C∧b∈(g j).foot)
  (hinj:∀i j B C b,T i→T j→h' i=some B→h' j=some C→b∈(g' i).foot→b∈(g' j).foot→i=j)
  (hsz:w.heap.size≤w'.heap.size) (hos:w'.os=w.os) (htp:w'.tape=w.tape) (hout:w'.output=w.output)
  (hkp:∀c∈bd.kp,T c.1→(∃l,h' c.1=some (.box l))∧cell w' (g' c.1).blk c.2=cell w (g c.1).blk c.2)
  (hpin:∀k,k<s.np→T k→(g' k).blk=(g k).blk∧(g' k).val=(g k).val) :
  R bd N ⟨s.cur.map (SV.map f),s.stk.map (List.map (SV.map f)),h',b',s.np,s.kp⟩ r g' tm st w'∧Kept w (Mt bd.Z s.heap g) w' (Mt bd.Z h' g'):=by
 have hdec:∀i,T i∨¬T i:=fun i=>Classical.em _
 have hlive:∀i B,¬T i→h' i=some B→∃C,s.heap i=some C∧B=C.map f:=by
  intro i B hi hB
  rw [(hrest i hi).1] at hB
  obtain ⟨C,hC,rfl⟩:=Ya.1 hB
  exact ⟨C,hC,rfl⟩
 have hk:Kept w (Mt bd.Z s.heap g) w' (Mt bd.Z h' g'):=by
  refine ⟨fun b hb hM=>hkept b hb fun i B hi hB hbf=>hM (.inl ⟨i,B,hB,hbf⟩),?_⟩
  rintro b hb (⟨i,B,hB,hbf⟩ | hz)
  ·rcases hdec i with hi | hi
   ·obtain ⟨_,_,_,h4⟩:=hnew i B hi hB
    rcases h4 b hbf with h5 | ⟨j,C,_,hC,hbj⟩
    ·omega
    ·exact .inl ⟨j,C,hC,hbj⟩
   ·obtain ⟨C,hC,rfl⟩:=hlive i B hi hB
    rw [(hrest i hi).2] at hbf
    exact .inl ⟨i,C,hC,hbf⟩
  ·exact .inr hz
 have hstay:∀i B,¬T i→s.heap i=some B→∀b∈(g i).foot,w'.heap[b]?=w.heap[b]?:=by
  intro i B hi hB b hb
  refine hkept b (h.lt i B hB b hb) fun j C hj hC hbj=>?_
  have:=h.inj i j B C b hB hC hb hbj
  subst this
  exact hi hj
 have hrep:∀a v,a.ok N s.heap→Z7 w (Mt bd.Z s.heap g) g r a v→Z7 w' (Mt bd.Z h' g') g' r (f a) v:=by
  intro a v ha hv
  rcases hf a ha with he | ⟨he,hu⟩
  ·rw [he];trivial
  ·rw [he]
   refine Z7.keep hk (fun _ _=>rfl) ha.vs ?_ ?_ hv
   ·intro i hi
    rcases hdec i with ht | ht
    ·obtain ⟨_,h2,h3,_⟩:=hu i hi ht
     exact ⟨h2,h3⟩
    ·rw [(hrest i ht).2];exact ⟨rfl,rfl⟩
   ·intro i hn hi
    rcases hdec i with ht | ht
    ·exact (hu i hi ht).2.2.2 hn
    ·refine ⟨(hrest i ht).2,fun p n c _ hp=>?_⟩
     have hl:=ha.live hi
     obtain ⟨B,hB⟩:=YE.1 hl
     exact hstay i B ht hB _ hp
 have hok:∀a,a.ok N s.heap→(f a).ok N h':=by
  intro a ha
  rcases hf a ha with he | ⟨he,hu⟩
  ·rw [he];trivial
  ·rw [he]
   refine Atom.ok_mk ha.vs fun i hi=>?_
   rcases hdec i with ht | ht
   ·exact (hu i hi ht).1
   ·rw [(hrest i ht).1,Option.isSome_map];exact ha.live hi
 refine ⟨h.step f h' b' hrep hok ?_ ?_ ?_ ?_ ?_ ?_ ?_ ?_ ?_ ?_,hk⟩
 ·intro i B hB
  rcases hdec i with ht | ht
  ·exact (hnew i B ht hB).1 hk
  ·obtain ⟨C,hC,rfl⟩:=hlive i B ht hB
   exact Zc.keep (N:=N) hk (fun _ _=>rfl) hrep (h.nheap i C hC) (hrest i ht).2 (hstay i C ht hC) (h.heap i C hC)
 ·intro i j B C b hB hC hbi hbj
  rcases hdec i with hi | hi<;>rcases hdec j with hj | hj
  ·exact hinj i j B C b hi hj hB hC hbi hbj
  ·exfalso
   obtain ⟨C',hC',rfl⟩:=hlive j C hj hC
   rw [(hrest j hj).2] at hbj
   obtain ⟨_,_,_,h4⟩:=hnew i B hi hB
   rcases h4 b hbi with h5 | ⟨k,D,hk',hD,hbk⟩
   ·have:=h.lt j C' hC' b hbj;omega
   ·have:=h.inj j k C' D b hC' hD hbj hbk
    subst this
    exact hj hk'
  ·exfalso
   obtain ⟨C',hC',rfl⟩:=hlive i B hi hB
   rw [(hrest i hi).2] at hbi
   obtain ⟨_,_,_,h4⟩:=hnew j C hj hC
   rcases h4 b hbj with h5 | ⟨k,D,hk',hD,hbk⟩
   ·have:=h.lt i C' hC' b hbi;omega
   ·have:=h.inj i k C' D b hC' hD hbi hbk
    subst this
    exact hi hk'
  ·obtain ⟨B',hB',rfl⟩:=hlive i B hi hB
   obtain ⟨C',hC',rfl⟩:=hlive j C hj hC
   rw [(hrest i hi).2] at hbi
   rw [(hrest j hj).2] at hbj
   exact h.inj i j B' C' b hB' hC' hbi hbj
 ·intro i B hB
  rcases hdec i with hi | hi
  ·exact (hnew i B hi hB).2.2.1
  ·obtain ⟨C,hC,rfl⟩:=hlive i B hi hB
   rw [(hrest i hi).2];exact h.nodup i C hC
 ·intro i B hB b hb
  rcases hdec i with hi | hi
  ·rcases (hnew i B hi hB).2.2.2 b hb with h5 | ⟨k,D,_,hD,hbk⟩
   ·have:=h.world.size;exact .inr (by omega)
   ·exact h.own k D hD b hbk
  ·obtain ⟨C,hC,rfl⟩:=hlive i B hi hB
   rw [(hrest i hi).2] at hb
   exact h.own i C hC b hb
 ·intro i B hB b hb
  rcases hdec i with hi | hi
  ·rcases (hnew i B hi hB).2.2.2 b hb with h5 | ⟨k,D,_,hD,hbk⟩
   ·exact h5.2
   ·have:=h.lt k D hD b hbk;omega
  ·obtain ⟨C,hC,rfl⟩:=hlive i B hi hB
   rw [(hrest i hi).2] at hb
   have:=h.lt i C hC b hb;omega
 ·refine ⟨hos.trans h.world.os,htp.trans h.world.tape,hout.trans h.world.output,Nat.le_trans h.world.size hsz,fun k hk hM=>?_,h.world.zone⟩
  refine (hkept k (YP hk h.world.size) fun i B _ hB hb=>?_).trans (h.world.heap k hk hM)
  rcases h.own i B hB k hb with h1 | h1
  ·exact hM h1
  ·omega
 ·intro c hc
  rcases hdec c.1 with ht | ht
  ·rw [(hkp c hc ht).2];exact h.kept c hc
  ·obtain ⟨_,l,hl⟩:=h.kpl c hc
   rw [(hrest c.1 ht).2]
   have hb:=h.heap c.1 _ hl
   rw [Z0c (hstay c.1 _ ht hl _ (by rw [hb.1];simp))]
   exact h.kept c hc
 ·intro k hk
  rcases hdec k with ht | ht
  ·exact hpin k hk ht
  ·rw [(hrest k ht).2];exact ⟨rfl,rfl⟩
 ·intro c hc
  rcases hdec c.1 with ht | ht
  ·exact (hkp c hc ht).1
  ·obtain ⟨_,l,hl⟩:=h.kpl c hc
   exact ⟨l.map f,by rw [(hrest c.1 ht).1,hl];rfl⟩
 ·intro i B hB
  rcases hdec i with hi | hi
  ·exact (hnew i B hi hB).2.1
  ·obtain ⟨C,hC,rfl⟩:=hlive i B hi hB
   have:=h.nheap i C hC
   cases C with
   | box l=>intro a ha;obtain ⟨b,hb,rfl⟩:=Yo.1 ha;exact hok b (this b hb)
   | arr dp t e=>exact this
   | hole t e k i j b=>exact ⟨this.1,this.2.1,hok b this.2.2⟩
   | lent t e k i b=>exact ⟨this.1,this.2.1,hok b this.2.2⟩
def Zx (K:List Nat) (a:Atom):Atom:=bif K.any a.uses then .no else a
theorem Z4q (k:Nat) (K:List Nat) (a:Atom):Zx K (Z0m k a)=Zx (k::K) a:=by
 unfold Zx Z0m
 cases h:a.uses k
 ·simp [h]
 ·simp only [cond_true,List.any_cons,h,Bool.true_or]
  cases K.any Atom.no.uses<;>rfl
theorem Blk.map_map (f f':Atom→Atom) (B:Blk):(B.map f).map f'=B.map (fun a=>f' (f a)):=by
 cases B<;>simp [Blk.map]
theorem SV.map_map (f f':Atom→Atom) (v:SV):(v.map f).map f'=v.map (fun a=>f' (f a)):=by
 cases v<;>simp [SV.map]
theorem SV.map_id (f:Atom→Atom) (hf:∀a,f a=a) (v:SV):v.map f=v:=by
 have:f=id:=funext hf
 subst this
 cases v with
 | a x=>rfl
 | agg l=>simp [SV.map]
 | tup l=>simp [SV.map]
theorem Blk.map_id (f:Atom→Atom) (hf:∀a,f a=a) (B:Blk):B.map f=B:=by
 have:f=id:=funext hf
 subst this
 cases B<;>simp [Blk.map]
theorem Z4r:∀(K:List Nat) (s:St),s.kills K=⟨s.cur.map (SV.map (Zx K)),s.stk.map (List.map (SV.map (Zx K))),fun i=>bif K.contains i then none else (s.heap i).map (Blk.map (Zx K)),s.base,s.np,s.kp⟩
 | [],s=>by
  have hid:∀a,Zx [] a=a:=fun a=>rfl
  cases s with
  | mk cur stk heap base np kp =>
   simp only [St.kills,List.foldl_nil,St.mk.injEq,and_true,true_and]
   refine ⟨?_,?_,?_⟩
   ·rw [Ys (g:=id) fun v _=>SV.map_id _ hid v];simp
   ·rw [Ys (g:=id) fun l _=>by rw [Ys (g:=id) fun v _=>SV.map_id _ hid v];simp];simp
   ·funext i
    cases heap i<;>simp [Blk.map_id _ hid]
 | k::K,s=>by
  show (s.kill k).kills K=_
  rw [Z4r K]
  have hc:=Z4q k K
  simp only [St.kill,St.mk.injEq,and_true,true_and]
  refine ⟨?_,?_,?_⟩
  ·rw [List.map_map];refine Ys fun v _=>?_
   simp only [Function.comp,SV.map_map];exact SV.map_congr hc v
  ·rw [List.map_map];refine Ys fun l _=>?_
   simp only [Function.comp,List.map_map];refine Ys fun v _=>?_
   simp only [Function.comp,SV.map_map];exact SV.map_congr hc v
  ·funext i
   simp only [Z0n,List.contains_cons]
   cases hik:(i==k)
   ·simp only [cond_false,Bool.false_or]
    cases K.contains i<;>simp only [cond_false,cond_true,Option.map_map]
    congr 1
    funext B
    simp only [Function.comp,Blk.map_map]
    rw [show (fun a=>Zx K (Z0m k a))=Zx (k::K) from funext hc]
   ·simp only [Bool.true_or,cond_true]
    cases K.contains i<;>rfl
theorem Z4s (K:List Nat) (a:Atom):Zx K a=.no∨(Zx K a=a∧∀i∈K,a.uses i=false):=by
 unfold Zx
 cases h:K.any a.uses
 ·refine .inr ⟨rfl,fun i hi=>?_⟩
  rw [List.any_eq_false] at h
  simpa using h i hi
 ·exact .inl rfl
theorem R.made (h:R bd N s r g tm st w) (K:List Nat) (id:Nat) (B:Blk) (G0:G) {w':World} (hid:s.heap id=none) (hnp:s.np≤id) (hK:∀k∈K,∀l,s.heap k≠some (.box l))
  (hkept:∀b,b<w.heap.size→(∀i B,i∈K→s.heap i=some B→b∉(g i).foot)→w'.heap[b]?=w.heap[b]?)
  (hB:∀M',Kept w (Mt bd.Z s.heap g) w' M'→(∀b∈G0.foot,M' b)→(∀i B,i∉K→s.heap i=some B→∀b∈(g i).foot,M' b)→(∀a v,a.ok N s.heap→Zx K a=a→Z7 w (Mt bd.Z s.heap g) g r a v→Z7 w' M' (fun k=>if k=id then G0 else g k) r a v) →
   Zc w' M' (fun k=>if k=id then G0 else g k) r id B)
  (hBok:B.ok N (upd (s.kills K).heap id (some B))) (hnd:G0.foot.Nodup)
  (hfoot:∀b∈G0.foot,(w.heap.size≤b∧b<w'.heap.size)∨∃j C,j∈K∧s.heap j=some C∧b∈(g j).foot)
  (hsz:w.heap.size≤w'.heap.size) (hos:w'.os=w.os) (htp:w'.tape=w.tape) (hout:w'.output=w.output) :
  R bd N ((s.kills K).new id B) r (fun k=>if k=id then G0 else g k) tm st w':=by
 have hidK:∀i B,s.heap i=some B→i≠id:=by rintro i B hi rfl;rw [hid] at hi;cases hi
 have huse:∀a:Atom,a.ok N s.heap→a.uses id=false:=by
  intro a ha
  cases hu:a.uses id with
  | false=>rfl
  | true=>have:=ha.live hu;rw [hid] at this;cases this
 rw [Z4r] at *
 have main:=h.replace (w':=w') (g':=fun k=>if k=id then G0 else g k) (Zx K) (upd (fun i=>bif K.contains i then none else (s.heap i).map (Blk.map (Zx K))) id (some B)) s.base (fun i=>i=id∨i∈K) ?_ ?_ ?_ ?_ ?_ hsz hos htp hout ?_ ?_
 ·exact main.1
 ·intro a ha
  rcases Z4s K a with h1 | ⟨h1,h2⟩
  ·exact .inl h1
  ·refine .inr ⟨h1,fun i hi ht=>?_⟩
   exfalso
   rcases ht with rfl | ht
   ·rw [huse a ha] at hi;cases hi
   ·rw [h2 i ht] at hi;cases hi
 ·intro i hi
  simp only [not_or] at hi
  refine ⟨?_,by rw [if_neg hi.1]⟩
  have h1:(i==id)=false:=by simpa using hi.1
  have h2:K.contains i=false:=by simpa using hi.2
  simp only [upd,h1,h2,cond_false]
 ·intro b hb hT
  exact hkept b hb fun i C hi hC=>hT i C (.inr hi) hC
 ·intro i C hi hC
  have hii:i=id:=by
   rcases hi with rfl | hi
   ·rfl
   ·cases hx:(i==id)
    ·have h2:K.contains i=true:=by simpa using hi
     simp only [upd,hx,h2,cond_false,cond_true] at hC
     cases hC
    ·simpa using hx
  subst hii
  simp only [upd,beq_self_eq_true,cond_true,Y4] at hC
  subst hC
  refine ⟨fun hk=>hB _ hk ?_ ?_ ?_,hBok,by simpa using hnd,?_⟩
  ·intro b hb
   exact .inl ⟨i,B,by simp [upd],by simpa using hb⟩
  ·intro j C hj hC b hb
   have h1:(j==i)=false:=by simpa using hidK j C hC
   have h2:K.contains j=false:=by simpa using hj
   exact .inl ⟨j,C.map (Zx K),by simp only [upd,h1,h2,cond_false,hC];rfl,by simpa [hidK j C hC] using hb⟩
  ·intro a v ha hka hv
   rcases Z4s K a with h1 | ⟨h1,h2⟩
   ·rw [hka] at h1;subst h1;trivial
   ·refine Z7.keep hk (fun _ _=>rfl) ha.vs ?_ ?_ hv
    ·intro j hj
     have:j≠i:=by rintro rfl;rw [huse a ha] at hj;cases hj
     rw [if_neg this];exact ⟨rfl,rfl⟩
    ·intro j hn hj
     have hji:j≠i:=by rintro rfl;rw [huse a ha] at hj;cases hj
     refine ⟨if_neg hji,fun p n c _ hp=>?_⟩
     obtain ⟨C,hC⟩:=YE.1 (ha.live hj)
     refine hkept _ (h.lt j C hC _ hp) fun k D hkK hD hb=>?_
     have:=h.inj j k C D _ hC hD hp hb
     subst this
     rw [h2 j hkK] at hj
     cases hj
  ·intro b hb
   simp only [if_true] at hb
   rcases hfoot b hb with h1 | ⟨j,C,h1,h2,h3⟩
   ·exact .inl h1
   ·exact .inr ⟨j,C,.inr h1,h2,h3⟩
 ·intro i j C D b hi hj hC hD _ _
  have:∀i C,(i=id∨i∈K)→upd (fun i=>bif K.contains i then none else (s.heap i).map (Blk.map (Zx K))) id (some B) i=some C→i=id:=by
   intro i C hi hC
   rcases hi with rfl | hi
   ·rfl
   ·cases hx:(i==id)
    ·have h2:K.contains i=true:=by simpa using hi
     simp only [upd,hx,h2,cond_false,cond_true] at hC
     cases hC
    ·simpa using hx
  rw [this i C hi hC,this j D hj hD]
 ·intro c hc ht
  exfalso
  obtain ⟨_,l,hl⟩:=h.kpl c hc
  rcases ht with ht | ht
  ·rw [ht,hid] at hl;cases hl
  ·exact hK c.1 ht l hl
 ·intro k hk ht
  have:k≠id:=by omega
  rw [if_neg this];exact ⟨rfl,rfl⟩
theorem Z4t (id:Nat) (a:Atom):Ze id a=.no∨(Ze id a=a∧(a.nst&&a.uses id)=false):=by
 unfold Ze
 cases h:a.nst&&a.uses id
 ·exact .inr ⟨rfl,rfl⟩
 ·exact .inl rfl
theorem R.poked (h:R bd N s r g tm st w) (K:List Nat) (id:Nat) (B0 B:Blk) (G0:G) {w':World} (hid:s.heap id=some B0) (hidK:id∉K) (hblk:G0.blk=(g id).blk) (hval:G0.val=(g id).val)
  (hK:∀k∈K,∀l,s.heap k≠some (.box l))
  (hkept:∀b,b<w.heap.size→b∉(g id).foot→(∀i B,i∈K→s.heap i=some B→b∉(g i).foot)→w'.heap[b]?=w.heap[b]?)
  (hB:∀M',Kept w (Mt bd.Z s.heap g) w' M'→(∀a v,a.ok N s.heap→Ze id (Zx K a)=a→Z7 w (Mt bd.Z s.heap g) g r a v→Z7 w' M' (fun k=>if k=id then G0 else g k) r a v) →
   Zc w' M' (fun k=>if k=id then G0 else g k) r id B)
  (hBok:B.ok N (upd ((s.kills K).unnest id).heap id (some B))) (hnd:G0.foot.Nodup)
  (hfoot:∀b∈G0.foot,(w.heap.size≤b∧b<w'.heap.size)∨b∈(g id).foot∨∃j C,j∈K∧s.heap j=some C∧b∈(g j).foot)
  (hkp:∀c∈bd.kp,c.1=id→(∃l,B=.box l)∧cell w' (g id).blk c.2=cell w (g id).blk c.2)
  (hsz:w.heap.size≤w'.heap.size) (hos:w'.os=w.os) (htp:w'.tape=w.tape) (hout:w'.output=w.output) :
  R bd N (((s.kills K).unnest id).new id B) r (fun k=>if k=id then G0 else g k) tm st w':=by
 have horg:∀a,Ze id (Zx K a)=.no∨(Ze id (Zx K a)=a∧(∀i∈K,a.uses i=false)∧(a.nst&&a.uses id)=false):=by
  intro a
  rcases Z4s K a with h1 | ⟨h1,h2⟩
  ·left;rw [h1];rfl
  ·rw [h1]
   rcases Z4t id a with h3 | ⟨h3,h4⟩
   ·exact .inl h3
   ·exact .inr ⟨h3,h2,h4⟩
 have hst:((s.kills K).unnest id).new id B=⟨s.cur.map (SV.map fun a=>Ze id (Zx K a)),s.stk.map (List.map (SV.map fun a=>Ze id (Zx K a))),
   upd (fun i=>bif K.contains i then none else (s.heap i).map (Blk.map fun a=>Ze id (Zx K a))) id (some B),s.base,s.np,s.kp⟩:=by
  rw [Z4r]
  simp only [St.unnest,St.new,St.mk.injEq,and_true,true_and,List.map_map]
  refine ⟨Ys fun v _=>by simp only [Function.comp,SV.map_map],Ys fun l _=>by simp only [Function.comp,List.map_map];exact Ys fun v _=>by simp only [Function.comp,SV.map_map],?_⟩
  congr 1
  funext i
  cases K.contains i
  ·simp only [cond_false,Option.map_map]
   congr 1
   funext C
   simp only [Function.comp,Blk.map_map]
  ·rfl
 have hh:upd ((s.kills K).unnest id).heap id (some B)=upd (fun i=>bif K.contains i then none else (s.heap i).map (Blk.map fun a=>Ze id (Zx K a))) id (some B):=congrArg St.heap hst
 rw [hh] at hBok
 rw [hst]
 have hidc:K.contains id=false:=by simpa using hidK
 have main:=h.replace (w':=w') (g':=fun k=>if k=id then G0 else g k) (fun a=>Ze id (Zx K a)) (upd (fun i=>bif K.contains i then none else (s.heap i).map (Blk.map fun a=>Ze id (Zx K a))) id (some B)) s.base (fun i=>i=id∨i∈K) ?_ ?_ ?_ ?_ ?_ hsz hos htp hout ?_ ?_
 ·exact main.1
 ·intro a ha
  rcases horg a with h1 | ⟨h1,h2,h3⟩
  ·exact .inl h1
  ·refine .inr ⟨h1,fun i hi ht=>?_⟩
   rcases ht with rfl | ht
   ·refine ⟨by simp [upd],by simp [hblk],by simp [hval],fun hn=>?_⟩
    rw [hn,hi] at h3
    cases h3
   ·rw [h2 i ht] at hi;cases hi
 ·intro i hi
  simp only [not_or] at hi
  refine ⟨?_,by rw [if_neg hi.1]⟩
  have h1:(i==id)=false:=by simpa using hi.1
  have h2:K.contains i=false:=by simpa using hi.2
  simp only [upd,h1,h2,cond_false]
 ·intro b hb hT
  exact hkept b hb (hT id B0 (.inl rfl) hid) fun i C hi hC=>hT i C (.inr hi) hC
 ·intro i C hi hC
  have hii:i=id:=by
   rcases hi with rfl | hi
   ·rfl
   ·cases hx:(i==id)
    ·have h2:K.contains i=true:=by simpa using hi
     simp only [upd,hx,h2,cond_false,cond_true] at hC
     cases hC
    ·simpa using hx
  subst hii
  simp only [upd,beq_self_eq_true,cond_true,Y4] at hC
  subst hC
  refine ⟨fun hk=>hB _ hk ?_,hBok,by simpa using hnd,?_⟩
  ·intro a v ha hka hv
   rcases horg a with h1 | ⟨h1,h2,h3⟩
   ·rw [hka] at h1;subst h1;trivial
   ·refine Z7.keep hk (fun _ _=>rfl) ha.vs ?_ ?_ hv
    ·intro j hj
     by_cases hji:j=i
     ·subst hji;simp [hblk,hval]
     ·simp [hji]
    ·intro j hn hj
     have hji:j≠i:=by rintro rfl;rw [hn,hj] at h3;cases h3
     refine ⟨if_neg hji,fun p n c _ hp=>?_⟩
     obtain ⟨C,hC⟩:=YE.1 (ha.live hj)
     refine hkept _ (h.lt j C hC _ hp) (fun hb=>hji (h.inj j i C B0 _ hC hid hp hb)) fun k D hkK hD hb=>?_
     have:=h.inj j k C D _ hC hD hp hb
     subst this
     rw [h2 j hkK] at hj
     cases hj
  ·intro b hb
   simp only [if_true] at hb
   rcases hfoot b hb with h1 | h1 | ⟨j,C,h1,h2,h3⟩
   ·exact .inl h1
   ·exact .inr ⟨i,B0,.inl rfl,hid,h1⟩
   ·exact .inr ⟨j,C,.inr h1,h2,h3⟩
 ·intro i j C D b hi hj hC hD _ _
  have:∀i C,(i=id∨i∈K)→upd (fun i=>bif K.contains i then none else (s.heap i).map (Blk.map fun a=>Ze id (Zx K a))) id (some B) i=some C→i=id:=by
   intro i C hi hC
   rcases hi with rfl | hi
   ·rfl
   ·cases hx:(i==id)
    ·have h2:K.contains i=true:=by simpa using hi
     simp only [upd,hx,h2,cond_false,cond_true] at hC
     cases hC
    ·simpa using hx
  rw [this i C hi hC,this j D hj hD]
 ·intro c hc ht
  obtain ⟨_,l,hl⟩:=h.kpl c hc
  rcases ht with ht | ht
  ·obtain ⟨⟨l',hl'⟩,h2⟩:=hkp c hc ht
   rw [ht]
   exact ⟨⟨l',by simp [upd,hl']⟩,by simpa [hblk] using h2⟩
  ·exact (hK c.1 ht l hl).elim
 ·intro k hk ht
  by_cases hki:k=id
  ·subst hki;simp [hblk,hval]
  ·simp [hki]
theorem Z4u {a:Act} (h:R bd N s r g a.tmps st w) {b:Atom} {v:Value} (hv:Z7 w (Mt bd.Z s.heap g) g r b v) (hn:b.ok N s.heap) (ho:b.one s.heap=true):v.oneCell'=true:=by
 have hrep:∀{M:Nat→Prop} {t:Ty} {d:t.D},Rep w M t d [v]→v.oneCell'=true:=by
  intro M t d hr
  cases t with
  | int k=>simp only [Rep] at hr;simp at hr;subst hr;rfl
  | bool=>simp only [Rep] at hr;simp at hr;subst hr;rfl
  | str=>simp only [Rep] at hr;simp at hr;subst hr;rfl
  | sl c e=>obtain ⟨x,cp,hx,_⟩:=hr;simp at hx;subst hx;rfl
  | pr s t =>
   have:=hr.len
   have h1:=s.size_pos
   have h2:=t.size_pos
   simp [Ty.size] at this
   omega
 cases b with
 | no=>cases ho
 | un=>cases ho
 | nil=>simp only [Z7] at hv;subst hv;rfl
 | x t e=>exact hrep hv
 | xc t e=>exact hrep hv.1
 | ref id =>
  simp only [Z7] at hv
  simp only [Atom.one] at ho
  split at ho
  ·rename_i dp t e hid
   obtain ⟨o,xs,Fs,h1,_⟩:=h.heap id _ hid
   obtain ⟨x,cp,hx,_,_,_⟩:=h1.shape
   rw [hv,hx];rfl
  ·cases ho
 | ptr id j=>simp only [Z7] at hv;subst hv;rfl
 | eptr id t k i j=>obtain ⟨p,n,c,_,_,_,_,hx⟩:=hv;subst hx;rfl
 | xptr c t l k i j=>obtain ⟨p,n,cp,_,_,_,_,hx⟩:=hv;subst hx;rfl
 | clo f caps=>simp only [Z7] at hv;subst hv;rfl
 | nref id t k i j =>
  obtain ⟨b,hb⟩:=YE.1 (show (Z0k s.heap id t k i j).isSome=true from ho)
  exact hrep (Z47 h hb hv hn.1).1
 | nptr id t k i j u k' i' j'=>obtain ⟨p,n,c,q,n',c',_,_,_,_,_,_,_,_,hx⟩:=hv;subst hx;rfl
 | vw id t lo hi=>cases ho
theorem Z4v {a:Act} (h:R bd N s r g a.tmps st w):∀{l:List Atom} {vs:List Value},Z8 w (Mt bd.Z s.heap g) g r l vs→(∀b∈l,b.ok N s.heap)→l.all (Atom.one s.heap)=true→∀v∈vs,v.oneCell'=true
 | [],[],_,_,_=>by simp
 | b::l,v::vs,hr,hn,ho=>by
  simp only [List.all_cons,Y5] at ho
  intro u hu
  rcases Yl.1 hu with rfl | hu
  ·exact Z4u h hr.1 (hn b (Yd ..)) ho.1
  ·exact Z4v h hr.2 (fun c hc=>hn c (Yc _ hc)) ho.2 u hu
 | [],_::_,hr,_,_=>hr.elim
 | _::_,[],hr,_,_=>hr.elim
theorem Z4w {v:Value} (h:v.oneCell'=true):v.cells=#[v]:=by
 cases v<;>first | rfl | simp [Value.oneCell'] at h
theorem SV.cells_all {p:Atom→Prop} {sv:SV} (h:sv.all p):∀b∈sv.cells,p b:=by
 cases sv with
 | a x=>intro b hb;simp only [SV.cells,Y1] at hb;subst hb;exact h
 | agg l=>exact h
 | tup l=>intro b hb;simp [SV.cells] at hb
theorem Z4x {a:Act} (h:R bd N s r g a.tmps st w) {sv:SV} {v:Value} (hv:Z9 w (Mt bd.Z s.heap g) g r sv v) (hn:sv.all (Atom.ok N s.heap)) (ho:sv.one s.heap=true):Z8 w (Mt bd.Z s.heap g) g r sv.cells v.cells.toList:=by
 cases sv with
 | a x =>
  rw [Z4w (Z4u h hv hn ho)]
  exact ⟨hv,trivial⟩
 | agg l=>obtain ⟨cs,rfl,h2⟩:=hv;exact h2
 | tup l=>cases ho
theorem Z4y {sv:SV} (h:sv.cells.all (Atom.one s.heap)=true) (hn:sv.cells≠[]):sv.one s.heap=true:=by
 cases sv with
 | a x=>simpa [SV.cells,SV.one] using h
 | agg l=>rfl
 | tup l=>simp [SV.cells] at hn
end
end Go.Sm
namespace Go.Sm
section
variable {P:Program} {bd:Bd} {N:Nat→Prop} {s:St} {r:Env} {g:Nat→G} {st:List (Array Value)} {w:World} {a:Act}
theorem free_eq {id:Nat} (h:free s id=true):s.heap id=none∧s.np≤id:=by
 simpa [free] using h
theorem Z4z {M:Nat→Prop}:∀(l:List Value),Z8 w M g r (l.map Z0l) l
 | []=>trivial
 | v::l=>⟨Z3k v,Z4z l⟩
theorem Z4A {o:Obj} (K:Nat→Prop):∀b,b<w.heap.size→K b→(w.alloc o).heap[b]?=w.heap[b]?:=fun b hb _=>heap_alloc_old w o b hb
theorem Z4B (h:R bd N s r g a.tmps st w) {id:Nat} {l:List Atom} {cs:Array Value} {t:TypeId} (hf:free s id=true) (hl:Z8 w (Mt bd.Z s.heap g) g r l cs.toList) (hn:∀b∈l,b.ok N s.heap) {sem:Sem Next}
  (hr:sem.run P w=.ok (.value (.pointer (some ⟨w.heap.size,0,none⟩))) (w.alloc (.cells cs t))):Good P bd N r st sem a.tmps w (.a (.ptr id 0)) (s.new id (.box l)):=by
 obtain ⟨hid,hnp⟩:=free_eq hf
 have hmono:∀i,(s.heap i).isSome=true→(upd s.heap id (some (.box l)) i).isSome=true:=by
  intro i hi
  unfold upd
  cases i==id
  ·exact hi
  ·rfl
 refine ⟨_,_,fun k=>if k=id then ⟨w.heap.size,.bool false,[w.heap.size]⟩ else g k,.inl hr,h.made [] id (.box l) ⟨w.heap.size,.bool false,[w.heap.size]⟩ hid hnp (by simp) ?_ ?_ ?_ (by simp) ?_ (by simp) rfl rfl rfl,?_,?_⟩
 ·intro b hb _;exact heap_alloc_old w _ b hb
 ·intro M' hk _ _ hat
  refine ⟨by simp,cs,t,by simpa using heap_alloc_new w (.cells cs t),?_⟩
  exact hl.imp rfl (fun i b b' v h1 h2 h3 h4=>by
   rw [h1] at h2;cases h2
   exact hat b v (hn b (YD h1)) rfl h4)
 ·intro b hb
  exact Atom.ok_mono (fun _ h=>h) hmono (hn b hb)
 ·intro b hb;simp at hb;subst hb;exact .inl ⟨Yh _,by simp⟩
 ·simp [Z9,Z7]
 ·simp [SV.all,Atom.ok,St.new,upd]
theorem Z4C (h:R bd N s r g a.tmps st w) {id:Nat} {t:TypeId} (o:Oper) (ho:o.op=.alloc t) {gs:List (E .bool)} {sv:SV} {s':St} (hs:Z18 P s id t=some (gs,sv,s')) :
  Good P bd N r st (execOp a.eval o) a.tmps w sv s':=by
 unfold Z18 at hs
 split at hs
 case h_2=>cases hs
 rename_i l hl
 split at hs
 case isFalse=>cases hs
 rename_i hf
 simp only [Y4,Y9] at hs
 obtain ⟨-,rfl,rfl⟩:=hs
 unfold Z17 at hl
 split at hl
 case h_2=>cases hl
 rename_i i hi
 obtain ⟨z,hz,rfl⟩:=Ya.1 hl
 refine Z4B h hf (Z4z _) (fun b hb=>by obtain ⟨v,_,rfl⟩:=Yo.1 hb;exact Z3l v) (t:=t) ?_
 simp [execOp,ho,Instr.alloc,zeroValue,typeInfo,hi,hz,newVar,newRow]
theorem Z4D (h:R bd N s r g a.tmps st w) {id:Nat} {t:TypeId} {v:Operand} (o:Oper) (ho:o.op=.box t v) {gs:List (E .bool)} {sv:SV} {s':St} (hs:Z19 s id v=some (gs,sv,s')) :
  Good P bd N r st (execOp a.eval o) a.tmps w sv s':=by
 unfold Z19 at hs
 split at hs
 ·cases hs
 rename_i x hx
 split at hs
 case isFalse=>cases hs
 rename_i hf
 simp only [Y5] at hf
 simp only [Y4,Y9] at hs
 obtain ⟨-,rfl,rfl⟩:=hs
 obtain ⟨hv,hn⟩:=Z3m h v
 refine Z4B h hf.2 (Z4x h hv hn hf.1) (SV.cells_all hn) (t:=t) ?_
 simp [execOp,ho,Instr.box,newVar,newRow]
theorem Z4E {M:Nat→Prop} {l cs:List Atom} {old new:List Value} {j:Nat} (hl:Z8 w M g r l old) (hc:Z8 w M g r cs new) :
  Z8 w M g r (l.take j++cs++l.drop (j+cs.length)) (old.take j++new++old.drop (j+new.length)):=by
 have:=hc.length
 rw [this]
 exact ((hl.take j).append hc).append (hl.drop _)
theorem Z4F (id:Nat) (b:Atom):Ze id (Ze id b)=Ze id b:=by
 rcases Z4t id b with h | ⟨h,_⟩
 ·rw [h];rfl
 ·rw [h,h]
theorem Z4G (x:Operand) (id:Nat):(s.unnest id).get x=(s.get x).map (Ze id):=by
 cases x with
 | tmp t=>simp only [St.get,St.unnest,Y8,List.getElem?_map];cases s.cur[t]?<;>rfl
 | const v=>simp only [St.get,SV.map];unfold Z0l;split<;>rfl
 | func f=>rfl
 | global gg=>rfl
theorem Z4H (s:St) (id:Nat):(s.unnest id).unnest id=s.unnest id:=by
 simp only [St.unnest,St.mk.injEq,and_true,true_and,List.map_map]
 refine ⟨Ys fun v _=>?_,Ys fun l _=>?_,?_⟩
 ·simp only [Function.comp,SV.map_map];exact SV.map_congr (Z4F id) v
 ·simp only [Function.comp,List.map_map];refine Ys fun v _=>?_
  simp only [Function.comp,SV.map_map];exact SV.map_congr (Z4F id) v
 ·funext i
  simp only [Option.map_map]
  congr 1
  funext B
  simp only [Function.comp,Blk.map_map]
  rw [show (fun a=>Ze id (Ze id a))=Ze id from funext (Z4F id)]
theorem Z4I (x:Operand) (id:Nat):∀b∈((s.unnest id).get x).cells,Ze id b=b:=by
 rw [Z4G]
 intro b hb
 cases hx:s.get x with
 | a y=>rw [hx] at hb;simp only [SV.map,SV.cells,Y1] at hb;subst hb;exact Z4F id y
 | agg l=>rw [hx] at hb;simp only [SV.map,SV.cells] at hb;obtain ⟨c,_,rfl⟩:=Yo.1 hb;exact Z4F id c
 | tup l=>rw [hx] at hb;simp [SV.map,SV.cells] at hb
theorem Z4J {id i:Nat} {l:List Atom} (h:(s.unnest id).heap i=some (.box l)):∀b∈l,Ze id b=b:=by
 simp only [St.unnest] at h
 obtain ⟨B,hB,h2⟩:=Ya.1 h
 cases B with
 | box m=>simp only [Blk.map,Blk.box.injEq] at h2;subst h2;intro b hb;obtain ⟨c,_,rfl⟩:=Yo.1 hb;exact Z4F id c
 | arr dp t e=>cases h2
 | hole t e k i j a=>cases h2
 | lent t e k i a=>cases h2
theorem Z4K {t:TypeId} {i:TypeInfo} (hi:P.info? t=some i) {b j:Nat} {v:Value} {cur:Array Value} {ety:TypeId} (hb:w.heap[b]?=some (.cells cur ety (0,0))) (hn:v.cells.size=i.size) (hfit:j+v.cells.size≤cur.size)
  (h1:∀u∈v.cells.toList,u.oneCell'=true):(Instr.storeAt t (.pointer (some ⟨b,j,none⟩)) v).run P w=.ok () (w.setRow b (cur.toList.take j++v.cells.toList++cur.toList.drop (j+v.cells.size)).toArray):=by
 unfold Instr.storeAt
 rw [run_bind_ok (v:=⟨b,j,none⟩) (w':=w) rfl]
 unfold storeVar
 rw [run_bind_ok (Z3M hi)]
 have:=run_storeCells_at P b j ety v.cells.toList 0 cur w hb (by simpa using hfit) h1
 simp only [Nat.add_zero,Yi] at this
 simp only [hn,ne_eq,not_true_eq_false,if_false]
 rw [←hn]
 exact this
theorem Z4L (h0:R bd N s r g a.tmps st w) {id j:Nat} {t:TypeId} {x v:Operand} (o:Oper) (ho:o.op=.store t x v) {i:TypeInfo} (hi:P.info? t=some i)
  (hx:s.get x=.a (.ptr id j)) {gs:List (E .bool)} {sv:SV} {s':St} (hs:Z0D (s.unnest id) i.size id j v=some (gs,sv,s')) :
  Good P bd N r st (execOp a.eval o) a.tmps w sv s':=by
 have hxv:a.eval x=.pointer (some ⟨(g id).blk,j,none⟩):=(Zu h0 hx).1
 have h:=h0.unnest id
 unfold Z0D at hs
 split at hs
 case h_2=>cases hs
 rename_i l hid
 simp only [] at hs
 split at hs
 case isFalse=>cases hs
 rename_i hc
 obtain ⟨c1,c2,c3,c4,c5⟩:=hc
 obtain ⟨-,rfl,rfl⟩:=Z3T hs
 obtain ⟨hv,hn⟩:=Z3m h v
 have hcells:=Z4x h hv hn (Z4y c3 (by intro h0;rw [h0] at c1;simp at c1;omega))
 have hones:=Z4v h hcells (SV.cells_all hn) c3
 have hlen:=hcells.length
 obtain ⟨hfoot,c,ety,hblk,hl⟩:=h.heap id _ hid
 have hll:=hl.length
 have hrun:=Z4K (P:=P) (v:=a.eval v) hi hblk (by rw [←c1,hlen];simp) (by rw [←Yi,←hlen];rw [hll] at c4;simpa using c4) hones
 have hother:∀b,b≠(g id).blk→(w.setRow (g id).blk (c.toList.take j++(a.eval v).cells.toList++c.toList.drop (j+(a.eval v).cells.size)).toArray).heap[b]?=w.heap[b]?:=fun b hb=>setRow_other w _ b _ hb
 have hpoke:=h.poked (w':=w.setRow (g id).blk (c.toList.take j++(a.eval v).cells.toList++c.toList.drop (j+(a.eval v).cells.size)).toArray) [] id _ (.box (l.take j++((s.unnest id).get v).cells++l.drop (j+((s.unnest id).get v).cells.length))) (g id) hid (by simp) rfl rfl (by simp)
  (fun b hb hbf _=>hother b (by rw [hfoot] at hbf;simpa using hbf)) ?_ ?_ (h.nodup id _ hid) (fun b hb=>.inr (.inl hb)) ?_ (by simp) rfl rfl rfl
 ·refine ⟨undef,w.setRow (g id).blk (c.toList.take j++(a.eval v).cells.toList++c.toList.drop (j+(a.eval v).cells.size)).toArray,fun k=>if k=id then g id else g k,.inr ⟨?_,rfl⟩,?_,trivial,trivial⟩
  ·simp only [execOp,ho,hxv]
   exact Z3w hrun
  ·have hst:((((s.unnest id).kills []).unnest id))=s.unnest id:=Z4H s id
   rw [hst] at hpoke
   exact hpoke
 ·intro M' hk hat
  refine ⟨by simpa using hfoot,_,ety,by simp only [if_true];exact setRow_heap w _ c _ ety _ hblk,?_⟩
  have hall:∀b∈l.take j++((s.unnest id).get v).cells++l.drop (j+((s.unnest id).get v).cells.length),b.ok N (s.unnest id).heap∧Ze id b=b:=by
   intro b hb
   simp only [Y6] at hb
   rcases hb with (hb | hb) | hb
   ·exact ⟨h.nheap id _ hid b (List.mem_of_mem_take hb),Z4J hid b (List.mem_of_mem_take hb)⟩
   ·exact ⟨SV.cells_all hn b hb,Z4I v id b hb⟩
   ·exact ⟨h.nheap id _ hid b (List.mem_of_mem_drop hb),Z4J hid b (List.mem_of_mem_drop hb)⟩
  have:=Z4E (j:=j) hl hcells
  simp only [Yi] at this
  exact this.imp rfl (fun i b b' u h1 h2 h3 h4=>by
   rw [h1] at h2;cases h2
   obtain ⟨q1,q2⟩:=hall b (YD h1)
   exact hat b u q1 q2 h4)
 ·have hst:((((s.unnest id).kills []).unnest id))=s.unnest id:=Z4H s id
  rw [hst]
  intro b hb
  have hmono:∀i,((s.unnest id).heap i).isSome=true→(upd (s.unnest id).heap id (some (.box (l.take j++((s.unnest id).get v).cells++l.drop (j+((s.unnest id).get v).cells.length)))) i).isSome=true:=by
   intro i hi
   unfold upd
   cases i==id
   ·exact hi
   ·rfl
  refine Atom.ok_mono (fun _ h=>h) hmono ?_
  simp only [Y6] at hb
  rcases hb with (hb | hb) | hb
  ·exact h.nheap id _ hid b (List.mem_of_mem_take hb)
  ·exact SV.cells_all hn b hb
  ·exact h.nheap id _ hid b (List.mem_of_mem_drop hb)
 ·intro k hk hki
  refine ⟨⟨_,rfl⟩,?_⟩
  have hkeep:¬(j≤k.2∧k.2<j+((s.unnest id).get v).cells.length):=by
   intro ⟨q1,q2⟩
   simp only [Yr,List.any_eq_false,Y5,Ye,not_and,beq_iff_eq] at c5
   exact c5 k (h.kp▸hk) ⟨hki,q1⟩ q2
  rw [Z0b,Z0b,setRow_heap w _ c _ ety _ hblk,hblk]
  simp only [List.getElem?_toArray]
  rw [←Yi,←hlen]
  rw [←Array.getElem?_toList]
  have hcs:c.toList.length=c.size:=Yi ..
  have hvs:(a.eval v).cells.toList.length=(a.eval v).cells.size:=Yi ..
  have hcl:j≤c.toList.length:=by rw [←hll];omega
  by_cases hq:k.2<j
  ·rw [Ym,Yw (by simp;omega),List.getElem?_take_of_lt hq]
  ·have hq2:j+((s.unnest id).get v).cells.length≤k.2:=by omega
   rw [Yt (by simp [←hlen];omega),YB]
   congr 1
   simp [←hlen]
   omega
end
end Go.Sm
namespace Go.Sm
section
variable {w w':World} {M M':Nat→Prop} {dp:Bool} {t:Ty}
structure Rws (w:World) (M:Nat→Prop) (dp:Bool) (t:Ty) (ho:Nat→Option Nat) (Fs:List (List Nat)) (ds:List t.D) (xs:List Value):Prop where
 lf:Fs.length=ds.length
 lx:xs.length=ds.length * t.size
 row:∀i (h:i<ds.length),∃us,us.length=t.size∧(∀j u,us[j]?=some u→xs[i * t.size+j]?=some u)∧Row w M dp t (ho i) (Fs.getD i []) ds[i] us
theorem Zy {g:G} {ho:Nat→Option Nat} {ds:List t.D}:Zb w M g dp t ho ds↔∃o xs Fs,Z5 w g.val o t.size ds.length xs∧g.foot=o.toList++Fs.flatten∧Rws w M dp t ho Fs ds xs:=by
 constructor
 ·rintro ⟨o,xs,Fs,h1,h2,h3,h4⟩
  exact ⟨o,xs,Fs,h1,h2,h3,h1.1,h4⟩
 ·rintro ⟨o,xs,Fs,h1,h2,h3⟩
  exact ⟨o,xs,Fs,h1,h2,h3.lf,h3.row⟩
def Zz:Nat→Option Nat:=fun _=>none
theorem Rws.nil:Rws w M dp t Zz [] [] []:=⟨rfl,by simp,fun i h=>by simp at h⟩
theorem Rws.keep (hk:Kept w M w' M') {ho:Nat→Option Nat} {Fs:List (List Nat)} {ds:List t.D} {xs:List Value} (hb:∀b∈Fs.flatten,w'.heap[b]?=w.heap[b]?) (h:Rws w M dp t ho Fs ds xs):Rws w' M' dp t ho Fs ds xs :=
 ⟨h.lf,h.lx,fun i hi=>by
  obtain ⟨us,a1,a2,a3⟩:=h.row i hi
  exact ⟨us,a1,a2,a3.keep hk fun b hb'=>hb b (Z0f hb')⟩⟩
theorem Rws.append {Fs Gs:List (List Nat)} {ds es:List t.D} {xs ys:List Value} (h:Rws w M dp t Zz Fs ds xs) (h':Rws w M dp t Zz Gs es ys):Rws w M dp t Zz (Fs++Gs) (ds++es) (xs++ys):=by
 refine ⟨by simp [h.lf,h'.lf],by simp [h.lx,h'.lx,Nat.add_mul],fun i hi=>?_⟩
 by_cases hlt:i<ds.length
 ·obtain ⟨us,a1,a2,a3⟩:=h.row i hlt
  refine ⟨us,a1,fun j u hu=>?_,?_⟩
  ·have:=a2 j u hu
   have hl:=(Yn.1 this).1
   rw [Yw hl];exact this
  ·rw [List.getElem_append_left hlt]
   have:(Fs++Gs).getD i []=Fs.getD i []:=by
    simp only [Y8]
    rw [Yw (by rw [h.lf];exact hlt)]
   rw [this];exact a3
 ·have hge:ds.length≤i:=Nat.le_of_not_lt hlt
  have hi':i - ds.length<es.length:=by simp at hi;omega
  obtain ⟨us,a1,a2,a3⟩:=h'.row (i - ds.length) hi'
  refine ⟨us,a1,fun j u hu=>?_,?_⟩
  ·have:=a2 j u hu
   have hmul:(i - ds.length) * t.size+ds.length * t.size=i * t.size:=by rw [←Nat.add_mul,Nat.sub_add_cancel hge]
   rw [Yt (by rw [h.lx];omega),h.lx]
   rw [show i * t.size+j - ds.length * t.size=(i - ds.length) * t.size+j by omega]
   exact this
  ·rw [List.getElem_append_right hge]
   have:(Fs++Gs).getD i []=Gs.getD (i - ds.length) []:=by
    simp only [Y8]
    rw [Yt (by rw [h.lf];exact hge),h.lf]
   rw [this];exact a3
theorem getD_drop {α:Type} (l:List α) (n i:Nat) (d:α):(l.drop n).getD i d=l.getD (n+i) d:=by
 simp [Y8]
theorem Rws.drop {Fs:List (List Nat)} {ds:List t.D} {xs:List Value} (n:Nat) (h:Rws w M dp t Zz Fs ds xs):Rws w M dp t Zz (Fs.drop n) (ds.drop n) (xs.drop (n * t.size)):=by
 refine ⟨by simp [h.lf],by rw [Yq,Yq,h.lx,Nat.sub_mul],fun i hi=>?_⟩
 have hi':n+i<ds.length:=by simp at hi;omega
 obtain ⟨us,a1,a2,a3⟩:=h.row (n+i) hi'
 refine ⟨us,a1,fun j u hu=>?_,?_⟩
 ·rw [YB,←Nat.add_assoc,←Nat.add_mul];exact a2 j u hu
 ·rw [getD_drop,List.getElem_drop];exact a3
theorem Rws.take {Fs:List (List Nat)} {ds:List t.D} {xs:List Value} (n:Nat) (h:Rws w M dp t Zz Fs ds xs):Rws w M dp t Zz (Fs.take n) (ds.take n) (xs.take (n * t.size)):=by
 have hmin:min n ds.length * t.size=min (n * t.size) (ds.length * t.size):=by
  rcases Nat.le_total n ds.length with hh | hh
  ·rw [Nat.min_eq_left hh,Nat.min_eq_left (Yk _ hh)]
  ·rw [Nat.min_eq_right hh,Nat.min_eq_right (Yk _ hh)]
 refine ⟨by simp [h.lf],by rw [Yb,Yb,h.lx,hmin],fun i hi=>?_⟩
 have hi':i<ds.length:=by simp at hi;omega
 have hin:i<n:=by simp at hi;omega
 obtain ⟨us,a1,a2,a3⟩:=h.row i hi'
 refine ⟨us,a1,fun j u hu=>?_,?_⟩
 ·have hj:j<t.size:=by rw [←a1];exact (Yn.1 hu).1
  have:i * t.size+j<n * t.size:=by
   have h1:(i+1) * t.size≤n * t.size:=Yk _ hin
   rw [Nat.add_mul] at h1
   omega
  rw [List.getElem?_take_of_lt this];exact a2 j u hu
 ·rw [List.getElem_take]
  have:(Fs.take n).getD i []=Fs.getD i []:=by
   simp only [Y8];rw [List.getElem?_take_of_lt hin]
  rw [this];exact a3
theorem Rws.of_rows {f:Nat→Option Value}:∀(ds:List t.D),Rows f t.size (Rep w M t) ds→∃xs,(∀k u,xs[k]?=some u→f k=some u)∧Rws w M false t Zz (List.replicate ds.length []) ds xs:=by
 intro ds h
 induction ds generalizing f with
 | nil=>exact ⟨[],by simp,⟨by simp,by simp,fun i h=>by simp at h⟩⟩
 | cons d ds ih =>
  obtain ⟨us,a1,a2,a3⟩:=h 0 (by simp)
  obtain ⟨xs,b1,b2⟩:=ih (f:=fun k=>f (t.size+k)) fun i hi=>by
   obtain ⟨us,c1,c2,c3⟩:=h (i+1) (by simp;omega)
   refine ⟨us,c1,fun j u hu=>?_,by simpa using c3⟩
   have:=c2 j u hu
   rw [Nat.add_mul,Nat.one_mul] at this
   show f (t.size+(i * t.size+j))=some u
   rw [show t.size+(i * t.size+j)=i * t.size+t.size+j by omega];exact this
  have one:Rws w M false t Zz [[]] [d] us:=by
   refine ⟨rfl,by simp [a1],fun i hi=>?_⟩
   have:i=0:=by simp at hi;omega
   subst this
   exact ⟨us,a1,fun j u hu=>by simpa using hu,by simp only [Row,Zz,Yg,if_false];exact ⟨rfl,a3⟩⟩
  refine ⟨us++xs,fun k u hu=>?_,by simpa [List.replicate_succ] using one.append b2⟩
  by_cases hk:k<us.length
  ·rw [Yw hk] at hu
   have:=a2 k u hu
   simpa using this
  ·rw [Yt (by omega)] at hu
   have:=b1 _ u hu
   rwa [←a1,show us.length+(k - us.length)=k by omega] at this
theorem Rep.ones:∀{t:Ty} {d:t.D} {vs:List Value},Rep w M t d vs→∀v∈vs,v.oneCell'=true:=by
 intro t
 induction t with
 | int k=>intro d vs h;simp only [Rep] at h;subst h;simp [Value.oneCell']
 | bool=>intro d vs h;simp only [Rep] at h;subst h;simp [Value.oneCell']
 | str=>intro d vs h;simp only [Rep] at h;subst h;simp [Value.oneCell']
 | sl c e ih=>intro d vs h;obtain ⟨x,cp,rfl,_⟩:=h;simp [Value.oneCell']
 | pr s t ihs iht =>
  intro d vs h v hv
  obtain ⟨l,m,rfl,hl,hm⟩:=h
  rcases Y6.1 hv with hv | hv
  ·exact ihs hl v hv
  ·exact iht hm v hv
theorem Z6.ones:∀{t:Ty} {F:List Nat} {d:t.D} {vs:List Value},Z6 w t none F d vs→∀v∈vs,v.oneCell'=true:=by
 intro t
 induction t with
 | int k=>intro F d vs h;simp only [Z6] at h;obtain ⟨_,h⟩:=h;simp at h;subst h;simp [Value.oneCell']
 | bool=>intro F d vs h;simp only [Z6] at h;obtain ⟨_,h⟩:=h;simp at h;subst h;simp [Value.oneCell']
 | str=>intro F d vs h;simp only [Z6] at h;obtain ⟨_,h⟩:=h;simp at h;subst h;simp [Value.oneCell']
 | sl c e ih =>
  intro F d vs h
  simp only [Z6] at h
  rw [if_neg (by simp)] at h
  obtain ⟨v,o,us,Fs,rfl,h2,_⟩:=h
  obtain ⟨x,cp,hx,_⟩:=h2.shape
  subst hx
  simp [Value.oneCell']
 | pr s t ihs iht =>
  intro F d vs h v hv
  simp only [Z6] at h
  obtain ⟨F1,F2,l,m,_,rfl,hl,hm⟩:=h
  rcases Y6.1 hv with hv | hv
  ·exact ihs hl v hv
  ·exact iht hm v hv
theorem Row.ones {F:List Nat} {d:t.D} {us:List Value} (h:Row w M dp t none F d us):∀v∈us,v.oneCell'=true:=by
 unfold Row at h
 split at h
 ·exact h.ones
 ·exact h.2.ones
theorem Rws.ones {Fs:List (List Nat)} {ds:List t.D} {xs:List Value} (h:Rws w M dp t Zz Fs ds xs):∀v∈xs,v.oneCell'=true:=by
 intro v hv
 obtain ⟨k,hk,rfl⟩:=List.getElem_of_mem hv
 have hpos:=t.size_pos
 have hkl:k<ds.length * t.size:=by rw [←h.lx];exact hk
 have hi:k / t.size<ds.length:=Nat.div_lt_of_lt_mul (by rw [Nat.mul_comm];exact hkl)
 obtain ⟨us,a1,a2,a3⟩:=h.row _ hi
 have hj:k % t.size<us.length:=by rw [a1];exact Nat.mod_lt _ hpos
 have h1:=a2 (k % t.size) us[k % t.size] (List.getElem?_eq_getElem hj)
 rw [show k / t.size * t.size+k % t.size=k by rw [Nat.mul_comm];exact Nat.div_add_mod k t.size,List.getElem?_eq_getElem hk] at h1
 have h2:=Option.some.inj h1
 rw [h2]
 exact a3.ones _ (List.getElem_mem hj)
theorem Rws.set {ho ho':Nat→Option Nat} {Fs:List (List Nat)} {ds:List t.D} {xs:List Value} {n:Nat} {d:t.D} {us:List Value} {F:List Nat} (h:Rws w M dp t ho Fs ds xs) (hn:n<ds.length) (hu:us.length=t.size) (hr:Row w M dp t (ho' n) F d us)
  (hho:∀i,i≠n→ho' i=ho i) :
  Rws w M dp t ho' (Fs.set n F) (ds.set n d) (xs.take (n * t.size)++us++xs.drop (n * t.size+us.length)):=by
 have hle:(n+1) * t.size≤ds.length * t.size:=Yk _ hn
 rw [Nat.add_mul,Nat.one_mul] at hle
 refine ⟨by simp [h.lf],?_,fun i hi=>?_⟩
 ·simp only [Y7,Yb,Yq,h.lx,hu,YC]
  omega
 ·simp only [YC] at hi
  by_cases hin:i=n
  ·subst hin
   refine ⟨us,hu,fun j u hj=>?_,?_⟩
   ·have hjl:=(Yn.1 hj).1
    rw [Ym,Yt (by rw [Yb,h.lx];omega),Yw]
    ·simp only [Yb,h.lx]
     rw [show i * t.size+j - min (i * t.size) (ds.length * t.size)=j by omega]
     exact hj
    ·simp only [Yb,h.lx];omega
   ·have:(Fs.set i F).getD i []=F:=by
     simp [Y8,YM,h.lf,hn]
    rw [this,List.getElem_set_self];exact hr
  ·obtain ⟨vs,a1,a2,a3⟩:=h.row i hi
   refine ⟨vs,a1,fun j u hj=>?_,?_⟩
   ·have hjl:j<t.size:=by rw [←a1];exact (Yn.1 hj).1
    have hold:=a2 j u hj
    rcases Nat.lt_or_gt_of_ne hin with hlt | hgt
    ·have h1:(i+1) * t.size≤n * t.size:=Yk _ hlt
     rw [Nat.add_mul,Nat.one_mul] at h1
     rw [Ym,Yw (by rw [Yb,h.lx];omega),List.getElem?_take_of_lt (by omega)]
     exact hold
    ·have h1:(n+1) * t.size≤i * t.size:=Yk _ hgt
     rw [Nat.add_mul,Nat.one_mul] at h1
     have hil:(i+1) * t.size≤ds.length * t.size:=Yk _ hi
     rw [Nat.add_mul,Nat.one_mul] at hil
     rw [Yt (by rw [Y7,Yb,h.lx];omega),YB]
     simp only [Y7,Yb,h.lx]
     rw [show n * t.size+us.length+(i * t.size+j - (min (n * t.size) (ds.length * t.size)+us.length))=i * t.size+j by omega]
     exact hold
   ·rw [hho i hin,List.getElem_set_ne (Ne.symm hin)]
    have:(Fs.set n F).getD i []=Fs.getD i []:=by
     simp [Y8,YM,Ne.symm hin]
    rw [this];exact a3
theorem Rws.flat {M':Nat→Prop} {Fs:List (List Nat)} {ds:List t.D} {xs:List Value} (ht:t.hasSl=false) (h:Rws w M false t Zz Fs ds xs):Rws w M' false t Zz Fs ds xs :=
 ⟨h.lf,h.lx,fun i hi=>by
  obtain ⟨us,a1,a2,a3⟩:=h.row i hi
  refine ⟨us,a1,a2,?_⟩
  simp only [Row,Yg,if_false] at a3 ⊢
  exact ⟨a3.1,a3.2.flat ht⟩⟩
end
end Go.Sm
namespace Go.Sm
section
variable {P:Program} {w:World}
theorem Z4M {size n:Nat} {a:Option Addr} {len cap:Nat} {cs:List Value} (hl:cs.length=n * size) (h:∀p,a=some p→cs≠[]→p.spot=none∧∀j v,cs[j]?=some v→cell w p.block (p.off+j)=some v) (h0:a=none→n=0) :
  (Builtin.firstCells size n (.slice a len cap)).run P w=.ok cs.toArray w:=by
 cases a with
 | none =>
  have:=h0 rfl
  subst this
  simp at hl
  subst hl
  rfl
 | some p =>
  simp only [Builtin.firstCells]
  by_cases hcs:cs=[]
  ·subst hcs
   rw [←hl]
   rfl
  ·obtain ⟨hs,hc⟩:=h p rfl hcs
   have:=Z4g (P:=P) (w:=w) (b:=p.block) (o:=p.off) hl hc
   rw [show (⟨p.block,p.off,none⟩:Addr)=p by cases p;simp only at hs;subst hs;rfl] at this
   exact this
theorem Z4N {t t2 ty e e2:TypeId} {i:TypeInfo} (ht:P.underlying t=some (.slice e)) (ht2:P.underlying t2=some (.slice e2)) (hi:P.info? e=some i)
  {base a:Option Addr} {n cap m c:Nat} {news:List Value} {w':World} (hfit:n+m≤cap) (hf:(Builtin.firstCells i.size m (.slice a m c)).run P w=.ok news.toArray w)
  (hst:∀p,base=some p→(storeCells (p.add (n * i.size)) news).run P w=.ok () w') (hb:base=none→w'=w) :
  (Builtin.append_ #[t,t2] ty #[.slice base n cap,.slice a m c]).run P w=.ok (.slice base (n+m) cap) w':=by
 cases base with
 | none =>
  rw [hb rfl]
  simp [Builtin.append_,run_underlying ht,run_underlying ht2,sizeOf,typeInfo,hi,Builtin.lenOf,hfit,hf]
 | some p =>
  have:=hst p rfl
  simp [Builtin.append_,run_underlying ht,run_underlying ht2,sizeOf,typeInfo,hi,Builtin.lenOf,hfit,hf,this]
theorem Z4O {t t2 ty e e2:TypeId} {i:TypeInfo} {z:Value} (ht:P.underlying t=some (.slice e)) (ht2:P.underlying t2=some (.slice e2)) (hi:P.info? e=some i) (hz:i.zero=some z)
  {base a:Option Addr} {n cap m c:Nat} {olds news:List Value} (hfit:cap<n+m) (hfo:(Builtin.firstCells i.size n (.slice base n cap)).run P w.drew=.ok olds.toArray w.drew) (hf:(Builtin.firstCells i.size m (.slice a m c)).run P w.drew=.ok news.toArray w.drew)
  (h63:((n+m:Nat):Int)≤9223372036854775807) (h48:Builtin.nextslicecap (n+m) cap * i.bytes≤281474976710656) :
  (Builtin.append_ #[t,t2] ty #[.slice base n cap,.slice a m c]).run P w =
   .ok (.slice (some ⟨w.heap.size,0,none⟩) (n+m) (grownCap w (n+m) cap e)) (w.drew.alloc (.cells (olds.toArray++news.toArray++Builtin.zeroCells z.cells (grownCap w (n+m) cap e - (n+m))) e)):=by
 have hn:¬(n+m≤cap):=by omega
 have h63':¬(9223372036854775807<((n:Int)+(m:Int))):=by omega
 have h48':¬(281474976710656<Builtin.nextslicecap (n+m) cap * i.bytes):=by omega
 simp [Builtin.append_,run_underlying ht,run_underlying ht2,sizeOf,typeInfo,zeroValue,hi,hz,Builtin.lenOf,hn,h63',h48',Question.forced,hf,hfo,newRow,grownCap]
 congr 2
 apply Array.ext'
 simp [Ym]
theorem Z4P {t t2 ty e e2:TypeId} {i:TypeInfo} {z:Value} (ht:P.underlying t=some (.slice e)) (ht2:P.underlying t2=some (.slice e2)) (hi:P.info? e=some i) (hz:i.zero=some z) (hzs:z.cells.size=i.size) (hby:i.bytes≤128)
  {v:Value} {o:Option Nat} {n:Nat} {xs:List Value} (hown:Z5 w v o i.size n xs) {a:Option Addr} {m c:Nat} {news:List Value} (hl:news.length=m * i.size)
  (hnews:∀p,a=some p→news≠[]→p.spot=none∧∀j u,news[j]?=some u→cell w p.block (p.off+j)=some u) (ha:a=none→m=0) (h1:∀u∈news,u.oneCell'=true) (hn:(n:Int)≤lim) (hm:(m:Int)≤lim) :
  ∃v' w' o',(Builtin.append_ #[t,t2] ty #[v,.slice a m c]).run P w=.ok v' w'∧Z5 w' v' o' i.size (n+m) (xs++news)∧(o'=o∨o'=some w.heap.size)∧(o'=some w.heap.size→w.heap.size<w'.heap.size) ∧
   (∀b,b<w.heap.size→some b≠o→w'.heap[b]?=w.heap[b]?)∧w.heap.size≤w'.heap.size∧w'.os=w.os∧w'.tape=w.tape∧w'.output=w.output:=by
 have hlim:lim=549755813888:=rfl
 rw [hlim] at hn hm
 have hmax:n+m≤maxLen:=by simp only [maxLen];omega
 have hlen:(xs++news).length=(n+m) * i.size:=by rw [Y7,hown.1,hl,Nat.add_mul]
 have hbytes:(n+m) * i.bytes≤140737488355328:=by
  have:=Nat.mul_le_mul (show n+m≤1099511627776 by omega) hby
  omega
 have grown:∀(base:Option Addr) (cap:Nat),v=.slice base n cap→cap<n+m→(∀p,base=some p→xs≠[]→p.spot=none∧∀j u,xs[j]?=some u→cell w p.block (p.off+j)=some u)→(base=none→n=0) →
   ∃v' w' o',(Builtin.append_ #[t,t2] ty #[v,.slice a m c]).run P w=.ok v' w'∧Z5 w' v' o' i.size (n+m) (xs++news)∧(o'=o∨o'=some w.heap.size)∧(o'=some w.heap.size→w.heap.size<w'.heap.size) ∧
   (∀b,b<w.heap.size→some b≠o→w'.heap[b]?=w.heap[b]?)∧w.heap.size≤w'.heap.size∧w'.os=w.os∧w'.tape=w.tape∧w'.output=w.output:=by
  intro base cap hv hcap hold hb
  have hf:=Z4M (P:=P) (w:=w.drew) (len:=m) (cap:=c) hl hnews ha
  have hfo:=Z4M (P:=P) (w:=w.drew) (len:=n) (cap:=cap) hown.1 hold hb
  have hr:=Z4O (ty:=ty) ht ht2 hi hz hcap hfo hf (by omega) (growslice_fits hcap hbytes)
  have hge:=grownCap_ge w (n+m) cap e
  have hcm:=grownCap_le_maxLen w (n+m) cap e hmax
  refine ⟨_,_,some w.heap.size,by rw [hv];exact hr,⟨hlen,.inr ⟨w.heap.size,0,_,_,e,rfl,rfl,heap_alloc_new w.drew _,hge,hcm,?_,?_⟩⟩,.inr rfl,fun _=>by simp,fun b hb _=>heap_alloc_old w.drew _ b hb,by simp,rfl,rfl,rfl⟩
  ·simp only [Array.size_append,List.size_toArray,size_zeroCells,hzs,hown.1,hl,←Nat.add_mul,Nat.zero_add]
   rw [Nat.add_sub_cancel' hge]
   exact Yh _
  ·simp only [Array.toList_append,Ym,List.drop_zero]
   rw [←Ym,←hlen]
   exact List.take_left
 have stay:∀(base:Option Addr) (cap:Nat),v=.slice base n cap→n≤cap→m=0→∃v' w' o',(Builtin.append_ #[t,t2] ty #[v,.slice a m c]).run P w=.ok v' w'∧Z5 w' v' o' i.size (n+m) (xs++news)∧(o'=o∨o'=some w.heap.size)∧(o'=some w.heap.size→w.heap.size<w'.heap.size) ∧
   (∀b,b<w.heap.size→some b≠o→w'.heap[b]?=w.heap[b]?)∧w.heap.size≤w'.heap.size∧w'.os=w.os∧w'.tape=w.tape∧w'.output=w.output:=by
  intro base cap hv hcap hm0
  subst hm0
  have hnil:news=[]:=List.eq_nil_of_length_eq_zero (by simpa using hl)
  subst hnil
  have hf:=Z4M (P:=P) (w:=w) (size:=i.size) (len:=0) (cap:=c) (cs:=[]) (by simp) hnews ha
  have hr:=Z4N (ty:=ty) (w':=w) ht ht2 hi (base:=base) (n:=n) (cap:=cap) (by omega) hf (fun p _=>by simp [storeCells]) (fun _=>rfl)
  have hlt:∀b,o=some b→b<w.heap.size:=by
   intro b hb
   rcases hown.2 with ⟨_,_,_,ho⟩ | ⟨b',_,_,_,_,ho,_,hh,_⟩
   ·rw [ho] at hb;cases hb
   ·rw [ho] at hb;cases hb;exact (Array.getElem?_eq_some_iff.1 hh).1
  refine ⟨_,w,o,by rw [hv];exact hr,by simpa [hv] using hown,.inl rfl,fun ho=>?_,fun _ _ _=>rfl,Yh _,rfl,rfl,rfl⟩
  exact absurd (hlt _ ho) (by omega)
 rcases hown.2 with ⟨x,rfl,rfl,rfl⟩ | ⟨b,off,cap,cur,ety,rfl,rfl,hb,hnc,hcm,hcs,htake⟩
 ·have hx0:xs=[]:=List.eq_nil_of_length_eq_zero (by simpa using hown.1)
  subst hx0
  by_cases hm0:m=0
  ·exact stay x 0 rfl (Yh _) hm0
  ·exact grown x 0 rfl (by omega) (fun p hp hne=>(hne rfl).elim) (fun _=>rfl)
 ·by_cases hroom:n+m≤cap
  ·by_cases hm0:m=0
   ·exact stay _ cap rfl hnc hm0
   ·have hfit:off+n * i.size+news.length≤cur.size:=by
     have h2:=Yk i.size hroom
     rw [Nat.add_mul] at h2
     rw [hl]
     omega
    have hf:=Z4M (P:=P) (w:=w) (len:=m) (cap:=c) hl hnews ha
    have hst:=run_storeCells_at P b (off+n * i.size) ety news 0 cur w hb (by simpa using hfit) h1
    simp only [Nat.add_zero] at hst
    have hr:=Z4N (ty:=ty) ht ht2 hi (base:=some ⟨b,off,none⟩) (n:=n) (cap:=cap) hroom hf (fun p hp=>by cases hp;rw [Addr.add_lit];exact hst) (fun hh=>by cases hh)
    refine ⟨_,_,some b,hr,⟨hlen,.inr ⟨b,off,cap,_,ety,rfl,rfl,setRow_heap w b cur _ ety _ hb,hroom,hcm,?_,?_⟩⟩,.inl rfl,fun ho=>?_,fun k _ hk=>setRow_other w b k _ (fun e=>hk (by rw [e])),by simp,rfl,rfl,rfl⟩
    ·simp only [List.size_toArray,Y7,Yb,Yq,Yi]
     omega
    ·have hlt:off+n * i.size≤cur.toList.length:=by rw [Yi];omega
     have e1:(cur.toList.take (off+n * i.size)).drop off=xs:=by
      rw [List.drop_take,show off+n * i.size - off=n * i.size by omega];exact htake
     show List.take ((n+m) * i.size) (List.drop off ((cur.toList.take (off+n * i.size)++news)++cur.toList.drop (off+n * i.size+news.length)))=_
     rw [Ym,List.drop_append_of_le_length (by rw [Yb];omega),e1,←Ym,←hlen]
     exact List.take_left
    ·have:=(Array.getElem?_eq_some_iff.1 hb).1
     cases ho
     omega
  ·refine grown (some ⟨b,off,none⟩) cap rfl (by omega) (fun p hp _=>?_) (fun hh=>by cases hh)
   cases hp
   refine ⟨rfl,fun j u hj=>?_⟩
   have hjl:j<n * i.size:=by rw [←hown.1];exact (Yn.1 hj).1
   rw [←htake,List.getElem?_take_of_lt hjl,YB] at hj
   rw [Z0b,hb]
   simpa using hj
theorem Z4Q {t t2 ty e e2:TypeId} {i:TypeInfo} {z:Value} (ht:P.underlying t=some (.slice e)) (ht2:P.underlying t2=some (.slice e2)) (hi:P.info? e=some i) (hz:i.zero=some z) (hzs:z.cells.size=i.size) (hby:i.bytes≤128)
  {v:Value} {o:Option Nat} {n:Nat} {xs:List Value} (hown:Z5 w v o i.size n xs) {a:Option Addr} {m c:Nat} {news:List Value} (hl:news.length=m * i.size)
  (hnews:∀p,a=some p→news≠[]→p.spot=none∧∀j u,news[j]?=some u→cell w p.block (p.off+j)=some u) (ha:a=none→m=0) (h1:∀u∈news,u.oneCell'=true) (hn:(n:Int)≤lim) (hm:(m:Int)≤lim) :
  ∃v' w' o',(Builtin.append_ #[t,t2] ty #[v,.slice a m c]).run P w=.ok v' w'∧Z5 w' v' o' i.size (n+m) (xs++news)∧(o'=o∨o'=some w.heap.size)∧(o'=some w.heap.size→w.heap.size<w'.heap.size) ∧
   (∀b,b<w.heap.size→some b≠o→w'.heap[b]?=w.heap[b]?)∧w.heap.size≤w'.heap.size∧w'.os=w.os∧w'.tape=w.tape∧w'.output=w.output ∧
   (∀b off cap cur ety,v=.slice (some ⟨b,off,none⟩) n cap→w.heap[b]?=some (.cells cur ety (0,0))→∃cur',w'.heap[b]?=some (.cells cur' ety (0,0))∧cur'.size=cur.size∧cur'.toList.take (off+n * i.size)=cur.toList.take (off+n * i.size)∧(cap=n→cur'=cur)):=by
 have hlim:lim=549755813888:=rfl
 rw [hlim] at hn hm
 have hmax:n+m≤maxLen:=by simp only [maxLen];omega
 have hlen:(xs++news).length=(n+m) * i.size:=by rw [Y7,hown.1,hl,Nat.add_mul]
 have hbytes:(n+m) * i.bytes≤140737488355328:=by
  have:=Nat.mul_le_mul (show n+m≤1099511627776 by omega) hby
  omega
 have grown:∀(base:Option Addr) (cap:Nat),v=.slice base n cap→cap<n+m→(∀p,base=some p→xs≠[]→p.spot=none∧∀j u,xs[j]?=some u→cell w p.block (p.off+j)=some u)→(base=none→n=0) →
   ∃v' w' o',(Builtin.append_ #[t,t2] ty #[v,.slice a m c]).run P w=.ok v' w'∧Z5 w' v' o' i.size (n+m) (xs++news)∧(o'=o∨o'=some w.heap.size)∧(o'=some w.heap.size→w.heap.size<w'.heap.size) ∧
   (∀b,b<w.heap.size→some b≠o→w'.heap[b]?=w.heap[b]?)∧w.heap.size≤w'.heap.size∧w'.os=w.os∧w'.tape=w.tape∧w'.output=w.output ∧
   (∀b off cap cur ety,v=.slice (some ⟨b,off,none⟩) n cap→w.heap[b]?=some (.cells cur ety (0,0))→∃cur',w'.heap[b]?=some (.cells cur' ety (0,0))∧cur'.size=cur.size∧cur'.toList.take (off+n * i.size)=cur.toList.take (off+n * i.size)∧(cap=n→cur'=cur)):=by
  intro base cap hv hcap hold hb
  have hf:=Z4M (P:=P) (w:=w.drew) (len:=m) (cap:=c) hl hnews ha
  have hfo:=Z4M (P:=P) (w:=w.drew) (len:=n) (cap:=cap) hown.1 hold hb
  have hr:=Z4O (ty:=ty) ht ht2 hi hz hcap hfo hf (by omega) (growslice_fits hcap hbytes)
  have hge:=grownCap_ge w (n+m) cap e
  have hcm:=grownCap_le_maxLen w (n+m) cap e hmax
  refine ⟨_,_,some w.heap.size,by rw [hv];exact hr,⟨hlen,.inr ⟨w.heap.size,0,_,_,e,rfl,rfl,heap_alloc_new w.drew _,hge,hcm,?_,?_⟩⟩,.inr rfl,fun _=>by simp,fun b hb _=>heap_alloc_old w.drew _ b hb,by simp,rfl,rfl,rfl,fun b off cap cur ety _ hb=>⟨cur,by rw [heap_alloc_old w.drew _ b (show b<w.drew.heap.size from (Array.getElem?_eq_some_iff.1 hb).1)];exact hb,rfl,rfl,fun _=>rfl⟩⟩
  ·simp only [Array.size_append,List.size_toArray,size_zeroCells,hzs,hown.1,hl,←Nat.add_mul,Nat.zero_add]
   rw [Nat.add_sub_cancel' hge]
   exact Yh _
  ·simp only [Array.toList_append,Ym,List.drop_zero]
   rw [←Ym,←hlen]
   exact List.take_left
 have stay:∀(base:Option Addr) (cap:Nat),v=.slice base n cap→n≤cap→m=0→∃v' w' o',(Builtin.append_ #[t,t2] ty #[v,.slice a m c]).run P w=.ok v' w'∧Z5 w' v' o' i.size (n+m) (xs++news)∧(o'=o∨o'=some w.heap.size)∧(o'=some w.heap.size→w.heap.size<w'.heap.size) ∧
   (∀b,b<w.heap.size→some b≠o→w'.heap[b]?=w.heap[b]?)∧w.heap.size≤w'.heap.size∧w'.os=w.os∧w'.tape=w.tape∧w'.output=w.output ∧
   (∀b off cap cur ety,v=.slice (some ⟨b,off,none⟩) n cap→w.heap[b]?=some (.cells cur ety (0,0))→∃cur',w'.heap[b]?=some (.cells cur' ety (0,0))∧cur'.size=cur.size∧cur'.toList.take (off+n * i.size)=cur.toList.take (off+n * i.size)∧(cap=n→cur'=cur)):=by
  intro base cap hv hcap hm0
  subst hm0
  have hnil:news=[]:=List.eq_nil_of_length_eq_zero (by simpa using hl)
  subst hnil
  have hf:=Z4M (P:=P) (w:=w) (size:=i.size) (len:=0) (cap:=c) (cs:=[]) (by simp) hnews ha
  have hr:=Z4N (ty:=ty) (w':=w) ht ht2 hi (base:=base) (n:=n) (cap:=cap) (by omega) hf (fun p _=>by simp [storeCells]) (fun _=>rfl)
  have hlt:∀b,o=some b→b<w.heap.size:=by
   intro b hb
   rcases hown.2 with ⟨_,_,_,ho⟩ | ⟨b',_,_,_,_,ho,_,hh,_⟩
   ·rw [ho] at hb;cases hb
   ·rw [ho] at hb;cases hb;exact (Array.getElem?_eq_some_iff.1 hh).1
  refine ⟨_,w,o,by rw [hv];exact hr,by simpa [hv] using hown,.inl rfl,fun ho=>?_,fun _ _ _=>rfl,Yh _,rfl,rfl,rfl,fun b off cap cur ety _ hb=>⟨cur,hb,rfl,rfl,fun _=>rfl⟩⟩
  exact absurd (hlt _ ho) (by omega)
 rcases hown.2 with ⟨x,rfl,rfl,rfl⟩ | ⟨b,off,cap,cur,ety,rfl,rfl,hb,hnc,hcm,hcs,htake⟩
 ·have hx0:xs=[]:=List.eq_nil_of_length_eq_zero (by simpa using hown.1)
  subst hx0
  by_cases hm0:m=0
  ·exact stay x 0 rfl (Yh _) hm0
  ·exact grown x 0 rfl (by omega) (fun p hp hne=>(hne rfl).elim) (fun _=>rfl)
 ·by_cases hroom:n+m≤cap
  ·by_cases hm0:m=0
   ·exact stay _ cap rfl hnc hm0
   ·have hfit:off+n * i.size+news.length≤cur.size:=by
     have h2:=Yk i.size hroom
     rw [Nat.add_mul] at h2
     rw [hl]
     omega
    have hf:=Z4M (P:=P) (w:=w) (len:=m) (cap:=c) hl hnews ha
    have hst:=run_storeCells_at P b (off+n * i.size) ety news 0 cur w hb (by simpa using hfit) h1
    simp only [Nat.add_zero] at hst
    have hr:=Z4N (ty:=ty) ht ht2 hi (base:=some ⟨b,off,none⟩) (n:=n) (cap:=cap) hroom hf (fun p hp=>by cases hp;rw [Addr.add_lit];exact hst) (fun hh=>by cases hh)
    refine ⟨_,_,some b,hr,⟨hlen,.inr ⟨b,off,cap,_,ety,rfl,rfl,setRow_heap w b cur _ ety _ hb,hroom,hcm,?_,?_⟩⟩,.inl rfl,fun ho=>?_,fun k _ hk=>setRow_other w b k _ (fun e=>hk (by rw [e])),by simp,rfl,rfl,rfl,?_⟩
    ·simp only [List.size_toArray,Y7,Yb,Yq,Yi]
     omega
    ·have hlt:off+n * i.size≤cur.toList.length:=by rw [Yi];omega
     have e1:(cur.toList.take (off+n * i.size)).drop off=xs:=by
      rw [List.drop_take,show off+n * i.size - off=n * i.size by omega];exact htake
     show List.take ((n+m) * i.size) (List.drop off ((cur.toList.take (off+n * i.size)++news)++cur.toList.drop (off+n * i.size+news.length)))=_
     rw [Ym,List.drop_append_of_le_length (by rw [Yb];omega),e1,←Ym,←hlen]
     exact List.take_left
    ·have:=(Array.getElem?_eq_some_iff.1 hb).1
     cases ho
     omega
    ·intro b' off' cap' cur' ety' hv' hb'
     cases hv'
     rw [hb] at hb'
     cases hb'
     refine ⟨_,setRow_heap w b cur _ ety _ hb,?_,?_,fun hh=>absurd hh (by omega)⟩
     ·simp only [List.size_toArray,Y7,Yb,Yq,Yi]
      omega
     ·show List.take (off+n * i.size) ((cur.toList.take (off+n * i.size)++news)++cur.toList.drop (off+n * i.size+news.length))=_
      rw [Ym,List.take_append_of_le_length (by rw [Yb,Yi];omega),List.take_take,Nat.min_self]
  ·refine grown (some ⟨b,off,none⟩) cap rfl (by omega) (fun p hp _=>?_) (fun hh=>by cases hh)
   cases hp
   refine ⟨rfl,fun j u hj=>?_⟩
   have hjl:j<n * i.size:=by rw [←hown.1];exact (Yn.1 hj).1
   rw [←htake,List.getElem?_take_of_lt hjl,YB] at hj
   rw [Z0b,hb]
   simpa using hj
end
end Go.Sm
namespace Go.Sm
section
variable {P:Program} {bd:Bd} {N:Nat→Prop} {s:St} {r:Env} {g:Nat→G} {st:List (Array Value)} {w:World} {a:Act}
def Src (w:World) (M:Nat→Prop) (dp:Bool) (t:Ty) (v:Value) (ds:List t.D) (Fs:List (List Nat)) (xs:List Value):Prop :=
 ∃x c,v=.slice x ds.length c∧(∀p,x=some p→xs≠[]→p.spot=none∧∀j u,xs[j]?=some u→cell w p.block (p.off+j)=some u)∧(x=none→ds.length=0)∧Rws w M dp t Zz Fs ds xs
theorem Z4R {α:Type} (n:Nat):(List.replicate n ([]:List α)).flatten=[]:=by
 induction n with
 | zero=>rfl
 | succ n ih=>simp [List.replicate_succ]
theorem Rep.src {M:Nat→Prop} {c:Bool} {t:Ty} {ds:List t.D} {v:Value} (h:Rep w M (.sl c t) ds [v]):∃xs,Src w M false t v ds (List.replicate ds.length []) xs:=by
 obtain ⟨x,cp,hv,hle,_,hz,hp⟩:=h
 simp only [List.cons.injEq,and_true] at hv
 by_cases hne:ds=[]
 ·subst hne
  exact ⟨[],x,cp,hv,fun p _ hh=>(hh rfl).elim,fun _=>rfl,Rws.nil⟩
 ·cases x with
  | none =>
   have:=hz rfl
   have:=YJ.2 hne
   omega
  | some p =>
   obtain ⟨h1,h2,h3⟩:=hp p rfl hne
   obtain ⟨xs,b1,b2⟩:=Rws.of_rows ds h3
   exact ⟨xs,some p,cp,hv,fun q hq _=>(by cases hq;exact ⟨h1,b1⟩),fun hh=>(by cases hh),b2⟩
theorem Z5.src {M:Nat→Prop} {dp:Bool} {t:Ty} {ds:List t.D} {v:Value} {o:Option Nat} {xs:List Value} {Fs:List (List Nat)} (h:Z5 w v o t.size ds.length xs) (hr:Rws w M dp t Zz Fs ds xs):Src w M dp t v ds Fs xs:=by
 obtain ⟨x,c,hv,hle,hx,ho⟩:=h.shape
 refine ⟨x,c,hv,fun p hp hne=>?_,fun hn=>(hx hn).2,hr⟩
 subst hp
 have hpos:0<ds.length:=by
  rcases Nat.eq_zero_or_pos ds.length with h0 | h0
  ·exfalso;apply hne;apply List.eq_nil_of_length_eq_zero;rw [hr.lx,h0,Nat.zero_mul]
  ·exact h0
 obtain ⟨_,h2,_,_,h5⟩:=h.cells hv hpos
 exact ⟨h2,h5⟩
theorem Z4S {M:Nat→Prop} {t:Ty} {Fs:List (List Nat)} {ds:List t.D} {xs:List Value} (h:Rws w M false t Zz Fs ds xs):Fs.flatten=[]:=by
 apply List.flatten_eq_nil_iff.2
 intro F hF
 obtain ⟨i,hi,rfl⟩:=List.getElem_of_mem hF
 obtain ⟨us,_,_,h3⟩:=h.row i (by rw [←h.lf];exact hi)
 simp only [Row,Yg,if_false] at h3
 have:=h3.1
 rwa [Z3c hi] at this
theorem Z4T {t:Ty} {e:E t} {e':E t} (h:coe t t e=some e'):e'=e:=by
 unfold coe at h
 simp at h
 exact h.symm
theorem Z4U (h:R bd N s r g a.tmps st w) {dp:Bool} {ty:Ty} {b:Atom} {v:Value} {e:E (.sl false ty)} {mv:List Nat} (hs:Z0M s.heap dp ty b=some (e,mv)) (hv:Z7 w (Mt bd.Z s.heap g) g r b v) (hn:b.ok N s.heap) :
  e.vs N∧∃Fs xs,Src w (Mt bd.Z s.heap g) dp ty v (den e r) Fs xs∧((mv=[]∧Fs.flatten=[])∨∃k B o,mv=[k]∧b=.ref k∧s.heap k=some B∧(∀l,B≠.box l)∧(g k).foot=o++Fs.flatten):=by
 unfold Z0M at hs
 split at hs
 case h_2=>cases hs
 rename_i e0 he
 obtain ⟨hre,hvs⟩:=Z48 h hv hn.vs he
 split at hs
 ·rename_i hd
  subst hd
  split at hs
  ·rename_i id
   split at hs
   case h_2=>cases hs
   rename_i t' e' hid
   cases hs
   refine ⟨hvs,?_⟩
   simp only [Atom.toE,hid] at he
   have ht:t'=ty:=by
    unfold coe at he
    split at he
    ·rename_i hh;cases hh;rfl
    ·simp at he
   subst ht
   have:=Z4T he
   subst this
   obtain ⟨o,xs,Fs,h1,h2,h3⟩:=Zy.1 (h.heap id _ hid)
   simp only [Z7] at hv
   subst hv
   exact ⟨Fs,xs,h1.src h3,.inr ⟨id,_,o.toList,rfl,rfl,hid,by simp,h2⟩⟩
  ·cases hs
   refine ⟨hvs,[],[],?_,.inl ⟨rfl,rfl⟩⟩
   simp only [Atom.toE] at he
   cases he
   simp only [Z7] at hv
   subst hv
   exact ⟨none,0,rfl,fun p hp=>by (cases hp),fun _=>rfl,Rws.nil⟩
  ·cases hs
 ·rename_i hd
  have hd:dp=false:=by simpa using hd
  subst hd
  have pure:refsOf [b]=[]→∃Fs xs,Src w (Mt bd.Z s.heap g) false ty v (den e0 r) Fs xs∧Fs.flatten=[]:=by
   intro hp
   obtain ⟨xs,hx⟩:=Rep.src (Z49 h hv he hp)
   exact ⟨_,xs,hx,Z4R _⟩
  split at hs
  ·split at hs
   ·cases hs
    obtain ⟨Fs,xs,q1,q2⟩:=pure rfl
    exact ⟨hvs,Fs,xs,q1,.inl ⟨rfl,q2⟩⟩
   ·cases hs
    obtain ⟨Fs,xs,q1,q2⟩:=pure rfl
    exact ⟨hvs,Fs,xs,q1,.inl ⟨rfl,q2⟩⟩
   ·cases hs
    obtain ⟨Fs,xs,q1,q2⟩:=pure rfl
    exact ⟨hvs,Fs,xs,q1,.inl ⟨rfl,q2⟩⟩
   ·rename_i id
    split at hs
    case h_2=>cases hs
    rename_i t' e' hid
    cases hs
    refine ⟨hvs,?_⟩
    simp only [Atom.toE,hid] at he
    have ht:t'=ty:=by
     unfold coe at he
     split at he
     ·rename_i hh;cases hh;rfl
     ·simp at he
    subst ht
    have:=Z4T he
    subst this
    obtain ⟨o,xs,Fs,h1,h2,h3⟩:=Zy.1 (h.heap id _ hid)
    simp only [Z7] at hv
    subst hv
    exact ⟨Fs,xs,h1.src h3,.inl ⟨rfl,Z4S h3⟩⟩
   ·cases hs
  ·rename_i hsl
   cases hs
   obtain ⟨xs,x,c,q1,q2,q3,q4⟩:=Rep.src hre
   exact ⟨hvs,_,xs,⟨x,c,q1,q2,q3,q4.flat (by simpa using hsl)⟩,.inl ⟨rfl,Z4R _⟩⟩
theorem Z4V {t:TypeId} {ty:Ty} (h:Z0t P t=some ty):∃e i z,P.underlying t=some (.slice e)∧P.info? e=some i∧i.zero=some z∧i.size=ty.size∧z.cells.size=ty.size∧i.bytes≤128∧(isZ ty z.cells.toList).map List.length=some 0:=by
 unfold Z0t at h
 split at h
 case h_2=>cases h
 rename_i e he
 split at h
 case h_2=>cases h
 rename_i i ty' hi hty
 split at h
 case h_2=>cases h
 rename_i z hz
 split at h
 case isFalse=>cases h
 rename_i hh
 split at h
 case isFalse=>cases h
 rename_i hz0
 cases h
 exact ⟨e,i,z,he,hi,hz,hh.1,hh.2.1,hh.2.2,hz0⟩
theorem Z4W {t:Ty} (x y:E (.sl false t)):(den (.o2 (.app t) x y) r:List t.D)=(den x r:List t.D)++(den y r:List t.D):=rfl
theorem Z5.lt {v:Value} {ov:Option Nat} {sz n:Nat} {xs:List Value} (hown:Z5 w v ov sz n xs):∀b,ov=some b→b<w.heap.size:=by
 intro b hb
 rcases hown.2 with ⟨_,_,_,q⟩ | ⟨b',_,_,_,_,q,_,hh,_⟩
 ·rw [q] at hb;cases hb
 ·rw [q] at hb;cases hb;exact (Array.getElem?_eq_some_iff.1 hh).1
theorem Z4X {A B:List Nat} (hA:A.Nodup) (hB:B.Nodup) (h:∀x∈A,x∉B):(A++B).Nodup :=
 Yp.2 ⟨hA,hB,fun a ha b hb hab=>h a ha (hab▸hb)⟩
def Z4Y (P:Program) (w:World) (t t2 ty:TypeId) (v:Value) (ov:Option Nat) (sz n m:Nat) (xs:List Value):Prop :=
 ∀(sx:Option Addr) (sc:Nat) (ys:List Value),ys.length=m * sz→(∀p,sx=some p→ys≠[]→p.spot=none∧∀j u,ys[j]?=some u→cell w p.block (p.off+j)=some u)→(sx=none→m=0)→(∀u∈ys,u.oneCell'=true) →
  ∃v' w' o',(Builtin.append_ #[t,t2] ty #[v,.slice sx m sc]).run P w=.ok v' w'∧Z5 w' v' o' sz (n+m) (xs++ys)∧(o'=ov∨o'=some w.heap.size)∧(o'=some w.heap.size→w.heap.size<w'.heap.size) ∧
   (∀b,b<w.heap.size→some b≠ov→w'.heap[b]?=w.heap[b]?)∧w.heap.size≤w'.heap.size∧w'.os=w.os∧w'.tape=w.tape∧w'.output=w.output
theorem Z4Z {t:TypeId} (h:Z0P P t=true):∃e,P.underlying t=some (.slice e):=by
 unfold Z0P at h
 split at h
 ·exact ⟨_,by assumption⟩
 ·cases h
theorem Z4_ {t t2 tr:TypeId} {ty:Ty} (hel:Z0t P t=some ty) (ht2:Z0P P t2=true) {v:Value} {ov:Option Nat} {n m:Nat} {xs:List Value} (hown:Z5 w v ov ty.size n xs) (hn:(n:Int)≤lim) (hm:(m:Int)≤lim):Z4Y P w t t2 tr v ov ty.size n m xs:=by
 intro sx sc ys h1 h2 h3 h4
 obtain ⟨ety,i,z,ht,hi,hz,hisz,hzs,hby,_⟩:=Z4V hel
 obtain ⟨e2',hT2⟩:=Z4Z ht2
 rw [←hisz] at hown h1 ⊢
 exact Z4P ht hT2 hi hz (hzs.trans hisz.symm) hby hown h1 h2 h3 h4 hn hm
theorem Z50 {M:Nat→Prop} {t t2 tr:TypeId} {ty:Ty} (hel:Z0t P t=some ty) (ht2:Z0P P t2=true) {ds:List ty.D} {x:Option Addr} {m:Nat} {xs:List Value} {Fs:List (List Nat)} (hs:Src w M false ty (.slice x ds.length ds.length) ds Fs xs)
  (hmn:0<m∨ds.length=0) (hn:(ds.length:Int)≤lim) (hm:(m:Int)≤lim):Z4Y P w t t2 tr (.slice x ds.length ds.length) none ty.size ds.length m xs:=by
 intro sx sc ys h1 h2 h3 h4
 obtain ⟨ety,i,z,ht,hi,hz,hisz,hzs,hby,_⟩:=Z4V hel
 obtain ⟨e2',hT2⟩:=Z4Z ht2
 obtain ⟨x',c',hv,q1,q2,q3⟩:=hs
 simp only [Value.slice.injEq,true_and] at hv
 obtain ⟨rfl,rfl⟩:=hv
 have hlx:=q3.lx
 rcases Nat.eq_zero_or_pos ds.length with h0 | hpos
 ·have hxs:xs=[]:=List.eq_nil_of_length_eq_zero (by rw [hlx,h0,Nat.zero_mul])
  rw [h0]
  have:Z5 w (.slice x 0 0) none ty.size 0 xs:=⟨by simp [hxs],.inl ⟨x,rfl,rfl,rfl⟩⟩
  exact Z4_ hel ht2 this (by simp [lim]) hm sx sc ys h1 h2 h3 h4
 ·have hm0:0<m:=by omega
  have hlim:lim=549755813888:=rfl
  rw [hlim] at hn hm
  rw [←hisz] at h1 hlx ⊢
  have hlen:(xs++ys).length=(ds.length+m) * i.size:=by rw [Y7,hlx,h1,Nat.add_mul]
  have hbytes:(ds.length+m) * i.bytes≤140737488355328:=by
   have:=Nat.mul_le_mul (show ds.length+m≤1099511627776 by omega) hby
   omega
  have hmax:ds.length+m≤maxLen:=by simp only [maxLen];omega
  have hf:=Z4M (P:=P) (w:=w.drew) (len:=m) (cap:=sc) h1 h2 h3
  have hfo:=Z4M (P:=P) (w:=w.drew) (len:=ds.length) (cap:=ds.length) hlx q1 q2
  have hcap:ds.length<ds.length+m:=by omega
  have hr:=Z4O (ty:=tr) ht hT2 hi hz hcap hfo hf (by omega) (growslice_fits hcap hbytes)
  have hge:=grownCap_ge w (ds.length+m) ds.length ety
  have hcm:=grownCap_le_maxLen w (ds.length+m) ds.length ety hmax
  refine ⟨_,_,some w.heap.size,hr,⟨hlen,.inr ⟨w.heap.size,0,_,_,ety,rfl,rfl,heap_alloc_new w.drew _,hge,hcm,?_,?_⟩⟩,.inr rfl,fun _=>by simp,fun b hb _=>heap_alloc_old w.drew _ b hb,by simp,rfl,rfl,rfl⟩
  ·simp only [Array.size_append,List.size_toArray,size_zeroCells,hzs,hlx,h1,←hisz,←Nat.add_mul,Nat.zero_add]
   rw [Nat.add_sub_cancel' hge]
   exact Yh _
  ·simp only [Array.toList_append,Ym,List.drop_zero]
   rw [←Ym,←hlen]
   exact List.take_left
theorem Z51 (h:R bd N s r g a.tmps st w) {id:Nat} {t t2:TypeId} {ts:Array TypeId} {x y:Operand} (o:Oper) (ho:o.op=.call { callee:=.builtin .append,args:=#[x,y],argTypes:=ts }) (hts':ts=#[t,t2]) {ty:Ty}
  (hf:free s id=true) {dp:Bool} (K:List Nat) {e1 e2 eR:E (.sl false ty)} {mv:List Nat} (hsrc:Z0M s.heap dp ty (s.get y).atom=some (e2,mv)) (heR:e2.vs N→eR.vs N) (hdR:(den eR r:List ty.D)=(den e1 r:List ty.D)++(den e2 r:List ty.D))
  {ov:Option Nat} {xs:List Value} {Fs:List (List Nat)} (hap:Z4Y P w t t2 o.type (a.eval x) ov ty.size (den e1 r:List ty.D).length (den e2 r:List ty.D).length xs) (hovlt:∀b,ov=some b→b<w.heap.size) (hrws:Rws w (Mt bd.Z s.heap g) dp ty Zz Fs (den e1 r) xs)
  (hK:K=[]∧ov=none∧Fs.flatten=[]∨∃i B,K=[i]∧s.heap i=some B∧(∀l,B≠.box l)∧(g i).foot=ov.toList++Fs.flatten∧(s.get y).atom.isRef i=false) :
  Good P bd N r st (execOp a.eval o) a.tmps w (.a (.ref id)) ((s.kills (mv++K)).new id (.arr dp ty eR)):=by
 obtain ⟨hid,hnp⟩:=free_eq hf
 obtain ⟨hyv,hyn⟩:=Z3o h y
 obtain ⟨he2,Gs,ys,⟨sx,sc,hyx,hys,hy0,hyr⟩,hmv⟩:=Z4U h hsrc hyv hyn
 obtain ⟨v',w',o',hrun,hown',ho',hfresh,hsame,hsize,hos,htp,hout⟩:=hap sx sc ys hyr.lx hys hy0 hyr.ones
 have hKfoot:∀b∈ov.toList++Fs.flatten,∃i B,i∈K∧s.heap i=some B∧b∈(g i).foot:=by
  intro b hb
  rcases hK with ⟨_,h1,h2⟩ | ⟨i,B,rfl,h2,h3,h4,_⟩
  ·rw [h1,h2] at hb;simp at hb
  ·exact ⟨i,B,by simp,h2,by rw [h4];exact hb⟩
 have hmfoot:∀b∈Gs.flatten,∃i B,i∈mv∧s.heap i=some B∧b∈(g i).foot:=by
  intro b hb
  rcases hmv with ⟨_,h2⟩ | ⟨k,B,o1,rfl,_,h2,h3,h4⟩
  ·rw [h2] at hb;cases hb
  ·exact ⟨k,B,by simp,h2,by rw [h4];exact Y0 _ hb⟩
 have hdisj:∀b∈ov.toList++Fs.flatten,b∉Gs.flatten:=by
  intro b hb hb'
  rcases hK with ⟨_,h1,h2⟩ | ⟨i,B,rfl,h2,h3,h4,h5⟩
  ·rw [h1,h2] at hb;simp at hb
  ·rcases hmv with ⟨_,h6⟩ | ⟨k,C,o1,rfl,h6,h7,h8,h9⟩
   ·rw [h6] at hb';cases hb'
   ·have:=h.inj i k B C b h2 h7 (by rw [h4];exact hb) (by rw [h9];exact Y0 _ hb')
    subst this
    rw [h6] at h5
    simp [Atom.isRef] at h5
 have hnd1:(ov.toList++Fs.flatten).Nodup:=by
  rcases hK with ⟨_,h1,h2⟩ | ⟨i,B,rfl,h2,h3,h4,h5⟩
  ·rw [h1,h2];simp
  ·rw [←h4];exact h.nodup i B h2
 have hnd2:Gs.flatten.Nodup:=by
  rcases hmv with ⟨_,h6⟩ | ⟨k,C,o1,rfl,h6,h7,h8,h9⟩
  ·rw [h6];exact List.nodup_nil
  ·have:=h.nodup k C h7
   rw [h9] at this
   exact (Yp.1 this).2.1
 have hlt1:∀b∈ov.toList++Fs.flatten,b<w.heap.size:=fun b hb=>by
  obtain ⟨i,B,_,h2,h3⟩:=hKfoot b hb;exact h.lt i B h2 b h3
 have hlt2:∀b∈Gs.flatten,b<w.heap.size:=fun b hb=>by
  obtain ⟨i,B,_,h2,h3⟩:=hmfoot b hb;exact h.lt i B h2 b h3
 have hoF:∀b∈o'.toList,b∉Fs.flatten++Gs.flatten:=by
  intro b hb hb'
  simp only [Option.mem_toList] at hb
  rcases ho' with h1 | h1
  ·rw [h1] at hb
   rcases Y6.1 hb' with hb' | hb'
   ·have:=(Yp.1 hnd1).2.2 b (by simpa using hb) b hb'
    exact this rfl
   ·exact hdisj b (Y3 _ (by simpa using hb)) hb'
  ·rw [h1] at hb
   simp only [Y4] at hb
   subst hb
   rcases Y6.1 hb' with hb' | hb'
   ·have:=hlt1 _ (Y0 _ hb');omega
   ·have:=hlt2 _ hb';omega
 have hstay:∀b∈Fs.flatten++Gs.flatten,w'.heap[b]?=w.heap[b]?:=by
  intro b hb
  rcases Y6.1 hb with hb' | hb'
  ·refine hsame b (hlt1 b (Y0 _ hb')) fun hh=>?_
   have:=(Yp.1 hnd1).2.2 b (by simp [←hh]) b hb'
   exact this rfl
  ·refine hsame b (hlt2 b hb') fun hh=>?_
   exact hdisj b (Y3 _ (by simp [←hh])) hb'
 have hboxK:∀k∈mv++K,∀l,s.heap k≠some (.box l):=by
  intro k hk l hl
  rcases Y6.1 hk with hk | hk
  ·rcases hmv with ⟨h6,_⟩ | ⟨k',C,o1,rfl,h6,h7,h8,h9⟩
   ·rw [h6] at hk;cases hk
   ·simp only [Y1] at hk;subst hk;rw [h7] at hl;cases hl;exact h8 l rfl
  ·rcases hK with ⟨h6,_⟩ | ⟨k',C,rfl,h7,h8,h9,h10⟩
   ·rw [h6] at hk;cases hk
   ·simp only [Y1] at hk;subst hk;rw [h7] at hl;cases hl;exact h8 l rfl
 have hmade:=h.made (w':=w') (mv++K) id (.arr dp ty eR) ⟨0,v',o'.toList++(Fs.flatten++Gs.flatten)⟩ hid hnp hboxK ?_ ?_ ?_ ?_ ?_ hsize hos htp hout
 ·refine ⟨v',w',_,.inl ?_,hmade,?_,?_⟩
  ·rw [Z4c o ho,hts',show (#[x,y]:Array Operand).map a.eval=#[a.eval x,a.eval y] by simp]
   have hyv':a.eval y=.slice sx (den e2 r:List ty.D).length sc:=hyx
   rw [hyv']
   exact Zv hrun
  ·simp [Z9,Z7]
  ·simp [SV.all,Atom.ok,St.new,upd]
 ·intro b hb hT
  refine hsame b hb fun hh=>?_
  obtain ⟨i,B,h1,h2,h3⟩:=hKfoot b (Y3 _ (by simp [←hh]))
  exact hT i B (Y0 _ h1) h2 h3
 ·intro M' hk _ _ _
  refine Zy.2 ⟨o',xs++ys,Fs++Gs,?_,by simp,?_⟩
  ·simp only [if_true,hdR,Y7]
   exact hown'
  ·rw [hdR]
   exact Rws.append (hrws.keep hk fun b hb=>hstay b (Y3 _ hb)) (hyr.keep hk fun b hb=>hstay b (Y0 _ hb))
 ·exact heR he2
 ·refine Z4X ?_ (Z4X (Yp.1 hnd1).2.1 hnd2 fun b hb=>hdisj b (Y0 _ hb)) hoF
  cases o'<;>simp
 ·intro b hb
  rcases Y6.1 hb with hb | hb
  ·simp only [Option.mem_toList] at hb
   rcases ho' with h1 | h1
   ·rw [h1] at hb
    obtain ⟨i,B,h2,h3,h4⟩:=hKfoot b (Y3 _ (by simpa using hb))
    exact .inr ⟨i,B,Y0 _ h2,h3,h4⟩
   ·have h2:=hfresh h1
    rw [h1] at hb
    simp only [Y4] at hb
    subst hb
    exact .inl ⟨Yh _,h2⟩
  ·rcases Y6.1 hb with hb | hb
   ·obtain ⟨i,B,h2,h3,h4⟩:=hKfoot b (Y0 _ hb)
    exact .inr ⟨i,B,Y0 _ h2,h3,h4⟩
   ·obtain ⟨i,B,h2,h3,h4⟩:=hmfoot b hb
    exact .inr ⟨i,B,Y3 _ h2,h3,h4⟩
theorem Z52 (s:St) (K:List Nat) (i:Nat):s.kills (K++[i])=(s.kills K).kill i:=by
 simp [St.kills,List.foldl_append]
theorem Z53 {ts:Array TypeId} {t t2:TypeId} (h0:ts[0]?=some t) (h1:ts[1]?=some t2) (h2:ts.size=2):ts=#[t,t2]:=by
 apply Array.ext_getElem?
 intro k
 match k with
 | 0=>simpa using h0
 | 1=>simpa using h1
 | k+2=>rw [Array.getElem?_eq_none (by omega),Array.getElem?_eq_none (by simp)]
theorem Z54 {t:Ty} {e1 e2:E (.sl false t)} (hg:∀c∈Z0L e1 e2,den c r=true):((den e1 r:List t.D).length:Int)≤lim∧((den e2 r:List t.D).length:Int)≤lim :=
 ⟨Zw.1 (hg (gLe (Zh e1) (eI .i64 lim)) (by simp [Z0L])),Zw.1 (hg (gLe (Zh e2) (eI .i64 lim)) (by simp [Z0L]))⟩
theorem Z55 {t:Ty} {e:E (.sl false t)} (h:Z0N e=true):0<(den e r:List t.D).length:=by
 cases e with
 | o1 o x =>
  cases o with
  | one=>exact Nat.one_pos
  | _=>simp [Z0N] at h
 | _=>simp [Z0N] at h
theorem Z56 {t:Ty} {e1 e2:E (.sl false t)} (hg:∀c∈Z0O e1 e2,den c r=true):0<(den e2 r:List t.D).length∨(den e1 r:List t.D).length=0:=by
 unfold Z0O at hg
 split at hg
 ·rename_i h1;exact .inl (Z55 h1)
 ·have:=hg _ (Y1.2 rfl)
  simp only [den,O2.d,O1.d,YL,Yr] at this
  rcases this with h | h
  ·left
   cases hd:(den e2 r:List t.D) with
   | nil=>rw [hd] at h;simp at h
   | cons x l=>simp
  ·right
   cases hd:(den e1 r:List t.D) with
   | nil=>rfl
   | cons x l=>rw [hd] at h;simp at h
theorem Z57 (h:R bd N s r g a.tmps st w) (frz:Bool) (ty:Ty) (x y:Operand):∃g1,R bd N (Z0Q frz s ty x y) r g1 a.tmps st w:=by
 unfold Z0Q
 split
 ·split
  ·obtain ⟨g1,_,h1⟩:=h.shallow _;exact ⟨g1,h1⟩
  ·exact ⟨g,h⟩
 ·exact ⟨g,h⟩
theorem Z58 (h:R bd N s r g a.tmps st w) {id i:Nat} {t t2:TypeId} {ts:Array TypeId} {x y:Operand} (o:Oper) (ho:o.op=.call { callee:=.builtin .append,args:=#[x,y],argTypes:=ts }) (hts:ts=#[t,t2]) (ht2:Z0P P t2=true) {ty:Ty} (hel:Z0t P t=some ty) (hx:(s.get x).atom=.ref i)
  {gs:List (E .bool)} {sv:SV} {s':St} (hs:Z0R s id ty i y=some (gs,sv,s')) (hg:∀c∈gs,den c r=true):Good P bd N r st (execOp a.eval o) a.tmps w sv s':=by
 obtain ⟨hxv,hxn⟩:=Z3o h x
 rw [hx] at hxv hxn
 unfold Z0R at hs
 split at hs
 case h_2=>cases hs
 rename_i dp ty' e1 hi
 split at hs
 case isFalse=>cases hs
 rename_i hty
 subst hty
 split at hs
 case h_2=>cases hs
 rename_i e2 mv hsrc
 split at hs
 case isFalse=>cases hs
 rename_i hc
 simp only [Y5,Yr] at hc
 simp only [Y4,Y9] at hs
 obtain ⟨rfl,rfl,rfl⟩:=hs
 obtain ⟨l1,l2⟩:=Z54 hg
 obtain ⟨ov,xs,Fs,b1,b2,b3⟩:=Zy.1 (h.heap i _ hi)
 simp only [Z7] at hxv
 rw [←hxv] at b1
 exact Z51 h o ho hts (t:=t) (t2:=t2) hc.2 [i] hsrc (fun he2=>⟨h.nheap i _ hi,he2⟩) (Z4W e1 e2) (Z4_ hel ht2 b1 l1 l2) b1.lt b3 (.inr ⟨i,_,rfl,hi,by simp,b2,hc.1⟩)
theorem Z59 (h:R bd N s r g a.tmps st w) {frz:Bool} {id:Nat} {t t2:TypeId} {ts:Array TypeId} {x y:Operand} (o:Oper) (ho:o.op=.call { callee:=.builtin .append,args:=#[x,y],argTypes:=ts }) (hts:ts=#[t,t2]) (ht2:Z0P P t2=true) {ty:Ty} (hel:Z0t P t=some ty) (hx:a.eval x=.slice none 0 0)
  {gs:List (E .bool)} {sv:SV} {s':St} (hs:Z0S frz s id ty y=some (gs,sv,s')) (hg:∀c∈gs,den c r=true):Good P bd N r st (execOp a.eval o) a.tmps w sv s':=by
 have fin:∀(s:St),R bd N s r g a.tmps st w→∀(dp:Bool) (e2:E (.sl false ty)) (mv:List Nat),Z0M s.heap dp ty (s.get y).atom=some (e2,mv)→free s id=true→den (gLe (Zh e2) (eI .i64 lim)) r=true →
   Good P bd N r st (execOp a.eval o) a.tmps w (.a (.ref id)) ((s.kills mv).new id (.arr dp ty e2)):=by
  intro s h dp e2 mv hsrc hf hg
  have hown:Z5 w (a.eval x) none ty.size (den (.nil false ty) r:List ty.D).length []:=⟨by simp [den],.inl ⟨none,hx,rfl,rfl⟩⟩
  have:=Z51 h o ho hts (t:=t) (t2:=t2) hf [] (e1:=.nil false ty) (eR:=e2) hsrc (fun h=>h) rfl (Z4_ hel ht2 hown (by simp [den,lim]) (Zw.1 hg)) (fun b hb=>by cases hb) (Fs:=[]) Rws.nil (.inl ⟨rfl,rfl,rfl⟩)
  rw [Yx] at this
  exact this
 unfold Z0S at hs
 split at hs
 ·rename_i e2 mv hsrc
  have hsrc':Z0M s.heap ty.hasSl ty (s.get y).atom=some (e2,mv):=by
   split at hsrc
   ·cases hsrc
   ·exact hsrc
  split at hs
  case isFalse=>cases hs
  rename_i hf
  simp only [Y4,Y9] at hs
  obtain ⟨rfl,rfl,rfl⟩:=hs
  exact fin s h _ _ _ hsrc' hf (hg _ (Y1.2 rfl))
 ·split at hs
  case h_2=>cases hs
  rename_i e2 mv hsrc
  split at hs
  case isFalse=>cases hs
  rename_i hf
  simp only [Y4,Y9] at hs
  obtain ⟨rfl,rfl,rfl⟩:=hs
  exact fin (s.solid y) (h.solid y) _ _ _ hsrc hf (hg _ (Y1.2 rfl))
theorem Z5a (h:R bd N s r g a.tmps st w) {id:Nat} {t t2:TypeId} {ts:Array TypeId} {x y:Operand} (o:Oper) (ho:o.op=.call { callee:=.builtin .append,args:=#[x,y],argTypes:=ts }) (hts:ts=#[t,t2]) (ht2:Z0P P t2=true) {ty:Ty} (hel:Z0t P t=some ty) {e1:E (.sl false ty)} (hx:(s.get x).atom=.xc ty e1)
  {gs:List (E .bool)} {sv:SV} {s':St} (hs:Z0T s id ty e1 y=some (gs,sv,s')) (hg:∀c∈gs,den c r=true):Good P bd N r st (execOp a.eval o) a.tmps w sv s':=by
 obtain ⟨hxv,hxn⟩:=Z3o h x
 rw [hx] at hxv hxn
 obtain ⟨hxr,xa,hxe⟩:=hxv
 unfold Z0T at hs
 split at hs
 case h_2=>cases hs
 rename_i e2 mv hsrc
 split at hs
 case isFalse=>cases hs
 rename_i hf
 simp only [Y4,Y9] at hs
 obtain ⟨rfl,rfl,rfl⟩:=hs
 obtain ⟨l1,l2⟩:=Z54 (fun c hc=>hg c (Y0 _ hc))
 have l3:=Z56 (fun c hc=>hg c (Y3 _ hc))
 obtain ⟨xs,hsx⟩:=Rep.src hxr
 have hsx':=hsx
 rw [hxe] at hsx'
 have hap:=Z50 (t:=t) (t2:=t2) (tr:=o.type) hel ht2 hsx' l3 l1 l2
 rw [←hxe] at hap
 obtain ⟨_,_,_,_,_,hrws⟩:=hsx
 have:=Z51 h o ho hts (t:=t) (t2:=t2) hf [] (eR:=.o2 (.app ty) e1 e2) hsrc (fun he2=>⟨hxn,he2⟩) (Z4W e1 e2) hap (fun b hb=>by cases hb) hrws (.inl ⟨rfl,rfl,Z4R _⟩)
 rw [Yx] at this
 exact this
end
end Go.Sm
namespace Go.Sm
section
variable {P:Program} {bd:Bd} {N:Nat→Prop} {s:St} {r:Env} {g:Nat→G} {st:List (Array Value)} {w:World} {a:Act}
theorem Z5b:∀{t:Ty} {l rest:List Value},isZ t l=some rest→∃us,l=us++rest∧us.length=t.size∧(∀w M,Rep w M t t.z us)∧∀w,Z6 w t none [] t.z us:=by
 intro t
 induction t with
 | int k =>
  intro l rest h
  cases l with
  | nil=>simp [isZ] at h
  | cons v l =>
   cases v<;>first | (simp [isZ] at h;done) | skip
   rename_i k' n
   have hz:n=0:=by
    cases n with
    | ofNat m =>
     cases m with
     | zero=>rfl
     | succ m=>exact absurd (show none=some rest from h) (by simp)
    | negSucc m=>exact absurd (show none=some rest from h) (by simp)
   subst hz
   simp only [isZ] at h
   split at h
   ·rename_i hk;subst hk;cases h;exact ⟨[.int k 0],rfl,rfl,fun _ _=>rfl,fun _=>⟨rfl,by simp [Ty.z]⟩⟩
   ·cases h
 | bool =>
  intro l rest h
  cases l with
  | nil=>simp [isZ] at h
  | cons v l =>
   cases v<;>first | (simp [isZ] at h;done) | skip
   rename_i b
   cases b
   ·simp only [isZ,Y4] at h;subst h;exact ⟨[.bool false],rfl,rfl,fun _ _=>rfl,fun _=>⟨rfl,by simp [Ty.z]⟩⟩
   ·simp [isZ] at h
 | str =>
  intro l rest h
  cases l with
  | nil=>simp [isZ] at h
  | cons v l =>
   cases v<;>first | (simp [isZ] at h;done) | skip
   rename_i s
   simp only [isZ] at h
   split at h
   ·rename_i hs
    cases h
    have:s=ByteArray.empty:=by
     cases s with
     | mk d =>
      have:d=#[]:=Array.size_eq_zero_iff.1 hs
      rw [this];rfl
    subst this
    exact ⟨[.string ByteArray.empty],rfl,rfl,fun _ _=>rfl,fun _=>⟨rfl,by simp [Ty.z]⟩⟩
   ·cases h
 | sl c e ih =>
  intro l rest h
  have hl:∃l',l=.slice none 0 0::l'∧l'=rest:=by
   cases l with
   | nil=>simp [isZ] at h
   | cons v l =>
    cases v<;>first | (simp [isZ] at h;done) | skip
    rename_i x n c'
    cases x with
    | some p=>simp [isZ] at h
    | none =>
     cases n with
     | succ n=>simp [isZ] at h
     | zero =>
      cases c' with
      | succ n=>simp [isZ] at h
      | zero=>simp only [isZ,Y4] at h;exact ⟨l,rfl,h⟩
  obtain ⟨l',rfl,rfl⟩:=hl
  refine ⟨[.slice none 0 0],rfl,rfl,fun w M=>⟨none,0,rfl,Yh _,fun _=>by simp [Ty.z],fun _=>rfl,fun p hp=>by cases hp⟩,fun w=>?_⟩
  simp only [Z6]
  rw [if_neg (by simp)]
  exact ⟨.slice none 0 0,none,[],[],rfl,⟨by simp [Ty.z],.inl ⟨none,rfl,rfl,rfl⟩⟩,fun _=>by simp [Ty.z],rfl,rfl,fun i hi=>by simp [Ty.z] at hi⟩
 | pr s t ihs iht =>
  intro l rest h
  simp only [isZ] at h
  obtain ⟨m,h1,h2⟩:=Option.bind_eq_some_iff.1 h
  obtain ⟨us,rfl,a1,a2,a3⟩:=ihs h1
  obtain ⟨vs,rfl,b1,b2,b3⟩:=iht h2
  exact ⟨us++vs,by simp,by simp [Ty.size,a1,b1],fun w M=>⟨us,vs,rfl,a2 w M,b2 w M⟩,fun w=>by simp only [Z6];exact ⟨[],[],us,vs,rfl,rfl,a3 w,b3 w⟩⟩
theorem Z5c {t:Ty} {l:List Value} (h:(isZ t l).map List.length=some 0) (hl:l.length=t.size):(∀w M,Rep w M t t.z l)∧∀w,Z6 w t none [] t.z l:=by
 obtain ⟨rest,h1,h2⟩:=Ya.1 h
 obtain ⟨us,rfl,h3,h4,h5⟩:=Z5b h1
 have:rest=[]:=List.eq_nil_of_length_eq_zero h2
 subst this
 simp only [Yx]
 exact ⟨h4,h5⟩
theorem Z5d (h:R bd N s r g a.tmps st w) {id:Nat} {dp:Bool} {t:Ty} {e:E (.sl false t)} (K:List Nat) (hf:free s id=true) {cs:Array Value} {cap:Nat} {ety:TypeId} {sem:Sem Next} {Fs:List (List Nat)}
  (hrun:sem.run P w=.ok (.value (.slice (some ⟨w.heap.size,0,none⟩) (den e r:List t.D).length cap)) (w.alloc (.cells cs ety))) (hn:e.vs N) (hle:(den e r:List t.D).length≤cap) (hcap:cap≤maxLen) (hcs:cs.size=cap * t.size)
  (hrows:Rws w (Mt bd.Z s.heap g) dp t Zz Fs (den e r) (cs.toList.take ((den e r:List t.D).length * t.size)))
  (hnd:Fs.flatten.Nodup) (hK:∀k∈K,∀l,s.heap k≠some (.box l)) (hfeet:∀b∈Fs.flatten,∃j C,j∈K∧s.heap j=some C∧b∈(g j).foot) :
  Good P bd N r st sem a.tmps w (.a (.ref id)) ((s.kills K).new id (.arr dp t e)):=by
 obtain ⟨hid,hnp⟩:=free_eq hf
 have hlt:∀b∈Fs.flatten,b<w.heap.size:=fun b hb=>by
  obtain ⟨j,C,_,h2,h3⟩:=hfeet b hb;exact h.lt j C h2 b h3
 have hmade:=h.made (w':=w.alloc (.cells cs ety)) K id (.arr dp t e) ⟨0,.slice (some ⟨w.heap.size,0,none⟩) (den e r:List t.D).length cap,w.heap.size::Fs.flatten⟩ hid hnp hK
  (fun b hb _=>heap_alloc_old w _ b hb) ?_ hn ?_ ?_ (by simp) rfl rfl rfl
 ·exact ⟨_,_,_,.inl hrun,hmade,by simp [Z9,Z7],by simp [SV.all,Atom.ok,St.new,upd]⟩
 ·intro M' hk _ _ _
  refine Zy.2 ⟨some w.heap.size,_,Fs,?_,by simp,hrows.keep hk fun b hb=>heap_alloc_old w _ b (hlt b hb)⟩
  simp only [if_true]
  refine ⟨hrows.lx,.inr ⟨w.heap.size,0,cap,cs,ety,rfl,rfl,heap_alloc_new w _,hle,hcap,by rw [hcs];omega,by simp⟩⟩
 ·refine List.nodup_cons.2 ⟨fun hb=>?_,hnd⟩
  have:=hlt _ hb;omega
 ·intro b hb
  rcases Yl.1 hb with rfl | hb
  ·exact .inl ⟨Yh _,by simp⟩
  ·exact .inr (hfeet b hb)
theorem Z5e {M:Nat→Prop} {t:Ty} {z:Array Value} (hz:(isZ t z.toList).map List.length=some 0) (hzs:z.size=t.size) (n k:Nat) (hk:n * t.size≤k) :
  Rws w M t.hasSl t Zz (List.replicate n []) (List.replicate n t.z) ((madeCells z k).toList.take (n * t.size)):=by
 obtain ⟨h1,h2⟩:=Z5c hz (by simpa using hzs)
 refine ⟨by simp,by simp [size_madeCells,Nat.min_eq_left hk],fun i hi=>?_⟩
 simp only [Yy] at hi
 refine ⟨z.toList,by simpa using hzs,fun j u hu=>?_,?_⟩
 ·have hj:j<t.size:=by rw [←hzs];have:=(Yn.1 hu).1;simpa using this
  have hlt:i * t.size+j<n * t.size:=by
   have h1:(i+1) * t.size≤n * t.size:=Yk _ hi
   rw [Nat.add_mul] at h1
   omega
  rw [List.getElem?_take_of_lt hlt]
  have hpos:=t.size_pos
  have hmod:(i * t.size+j) % z.size=j:=by rw [hzs,Nat.mul_comm,Nat.mul_add_mod,Nat.mod_eq_of_lt hj]
  simp only [madeCells,Array.toList_map,List.getElem?_map,Array.toList_range]
  rw [List.getElem?_range (by omega)]
  simp only [Option.map_some,hmod]
  rw [←hu]
  have hjz:j<z.size:=by omega
  simp [hjz]
 ·have:(List.replicate n ([]:List Nat)).getD i []=[]:=by simp [Y8,hi]
  rw [this]
  simp only [List.getElem_replicate,Row]
  split
  ·exact h2 w
  ·exact ⟨trivial,h1 w M⟩
theorem Z5f (h:R bd N s r g a.tmps st w) {id:Nat} {t:TypeId} {x y:Operand} (o:Oper) (ho:o.op=.makeSlice t x y) {gs:List (E .bool)} {sv:SV} {s':St} (hs:Z12 P s id t x y=some (gs,sv,s')) (hg:∀c∈gs,den c r=true) :
  Good P bd N r st (execOp a.eval o) a.tmps w sv s':=by
 unfold Z12 at hs
 split at hs
 case h_2=>cases hs
 rename_i ty hel
 obtain ⟨hxv,hxn⟩:=Z3o h x
 obtain ⟨hyv,hyn⟩:=Z3o h y
 split at hs
 case h_2=>cases hs
 rename_i n c hx hy
 rw [hx] at hxv hxn
 rw [hy] at hyv hyn
 split at hs
 case isFalse=>cases hs
 rename_i hf
 simp only [Y4,Y9] at hs
 obtain ⟨rfl,rfl,rfl⟩:=hs
 have hxv:=Z3p hxv
 have hyv:=Z3p hyv
 have hlen:(den (.o2 (.rep ty .i64) n (.z ty)) r:List ty.D)=List.replicate (Int.toNat (den n r)) ty.z:=rfl
 have g0:(0:Int)≤den n r:=Zw.1 (hg (gLe (eI .i64 0) n) (by simp))
 have g1:(den n r:Int)≤den c r:=Zw.1 (hg (gLe n c) (by simp))
 have g2:(den c r:Int)≤lim:=Zw.1 (hg (gLe c (eI .i64 lim)) (by simp))
 have key:∀(nn cc:Int),nn=den n r→cc=den c r→0≤nn→nn≤cc→cc≤549755813888→Good P bd N r st (execOp a.eval o) a.tmps w (.a (.ref id)) (s.new id (.arr ty.hasSl ty (.o2 (.rep ty .i64) n (.z ty)))):=by
  intro nn cc hnn hcc g0 g1 g2
  rw [←hnn] at hlen hxv
  rw [←hcc] at hyv
  obtain ⟨ety,i,z,ht,hi,hz,hisz,hzs,hby,hz0⟩:=Z4V hel
  have hbytes:(i.bytes:Int) * cc≤281474976710656:=by
   have h1:(i.bytes:Int)≤128:=by omega
   have:=Int.mul_le_mul h1 g2 (by omega) (by omega)
   omega
  have hr:=run_make (P:=P) w t ety i z ht hi hz .i64 .i64 nn cc g0 g1 hbytes (by omega)
  refine Z5d h (K:=[]) (Fs:=List.replicate nn.toNat []) hf (cap:=cc.toNat) (cs:=madeCells z.cells (cc.toNat * i.size)) (ety:=ety) ?_ ⟨hxn,trivial⟩ ?_ ?_ ?_ ?_ ?_ (by simp) ?_
  ·rw [hlen,Yy]
   simp only [execOp,ho,hxv,hyv]
   exact Zv hr
  ·rw [hlen,Yy];omega
  ·simp only [maxLen];omega
  ·rw [size_madeCells,hisz]
  ·rw [hlen,Yy,hisz]
   exact Z5e hz0 hzs _ _ (Yk _ (by omega))
  ·rw [Z4R];exact List.nodup_nil
  ·intro b hb;rw [Z4R] at hb;cases hb
 exact key _ _ rfl rfl g0 g1 g2
end
end Go.Sm
namespace Go.Sm
section
variable {P:Program} {bd:Bd} {N:Nat→Prop} {s:St} {r:Env} {g:Nat→G} {st:List (Array Value)} {w:World} {a:Act}
theorem Z5g {b:Atom} (h:b.pure=true):refsOf [b]=[]:=by
 cases b<;>first | rfl | simp [Atom.pure] at h
theorem Z5h (h:R bd N s r g a.tmps st w) {b:Atom} {v:Value} (hv:Z7 w (Mt bd.Z s.heap g) g r b v) (hn:b.ok N s.heap) {t:Ty} {e:E t} (he:b.toE s.heap t=some e) (hp:t.hasSl=false∨b.pure=true) :
  Rep w (Mt bd.Z s.heap g) t (den e r) [v]∧e.vs N:=by
 obtain ⟨h1,h2⟩:=Z48 h hv hn.vs he
 refine ⟨?_,h2⟩
 rcases hp with hp | hp
 ·exact h1.flat hp
 ·exact Z49 h hv he (Z5g hp)
theorem Z5i (h:R bd N s r g a.tmps st w):∀{t:Ty} {l rest:List Atom} {u:E t} {vs:List Value},mkE s.heap t l=some (u,rest)→Z8 w (Mt bd.Z s.heap g) g r l vs→(∀b∈l,b.ok N s.heap)→(t.hasSl=false∨∀b∈l,b.pure=true) →
  ∃us ws,vs=us++ws∧us.length=t.size∧Rep w (Mt bd.Z s.heap g) t (den u r) us∧u.vs N∧Z8 w (Mt bd.Z s.heap g) g r rest ws∧(∀b∈rest,b∈l):=by
 intro t
 have leaf:∀{t:Ty},t.size=1→(∀(l:List Atom),mkE s.heap t l=match l with | x::l=>(x.toE s.heap t).map (·,l) | []=>none)→∀{l rest:List Atom} {u:E t} {vs:List Value},mkE s.heap t l=some (u,rest)→Z8 w (Mt bd.Z s.heap g) g r l vs→(∀b∈l,b.ok N s.heap)→(t.hasSl=false∨∀b∈l,b.pure=true) →
  ∃us ws,vs=us++ws∧us.length=t.size∧Rep w (Mt bd.Z s.heap g) t (den u r) us∧u.vs N∧Z8 w (Mt bd.Z s.heap g) g r rest ws∧(∀b∈rest,b∈l):=by
  intro t hsz hmk l rest u vs hm hr hn hp
  rw [hmk] at hm
  cases l with
  | nil=>cases hm
  | cons b l =>
   cases vs with
   | nil=>exact hr.elim
   | cons v vs =>
    obtain ⟨e,he,hm⟩:=Ya.1 hm
    cases hm
    obtain ⟨h1,h2⟩:=Z5h h hr.1 (hn b (Yd ..)) he (hp.imp_right fun q=>q b (Yd ..))
    exact ⟨[v],vs,rfl,hsz.symm,h1,h2,hr.2,fun b hb=>Yc _ hb⟩
 induction t with
 | int k=>exact leaf rfl fun l=>by cases l<;>rfl
 | bool=>exact leaf rfl fun l=>by cases l<;>rfl
 | str=>exact leaf rfl fun l=>by cases l<;>rfl
 | sl c e ih=>exact leaf rfl fun l=>by cases l<;>rfl
 | pr x y ihx ihy =>
  intro l rest u vs hm hr hn hp
  simp only [mkE] at hm
  split at hm
  case h_2=>cases hm
  rename_i u1 l1 h1
  split at hm
  case h_2=>cases hm
  rename_i u2 l2 h2
  cases hm
  obtain ⟨us1,ws1,rfl,a2,a3,a4,a5,a6⟩:=ihx h1 hr hn (hp.imp_left fun q=>by simp only [Ty.hasSl,Bool.or_eq_false_iff] at q;exact q.1)
  obtain ⟨us2,ws2,rfl,b2,b3,b4,b5,b6⟩:=ihy h2 a5 (fun b hb=>hn b (a6 b hb)) (hp.imp (fun q=>by simp only [Ty.hasSl,Bool.or_eq_false_iff] at q;exact q.2) fun q b hb=>q b (a6 b hb))
  exact ⟨us1++us2,ws2,by simp,by simp [Ty.size,a2,b2],⟨us1,us2,rfl,a3,b3⟩,⟨a4,b4⟩,b5,fun b hb=>a6 b (b6 b hb)⟩
def ZA (g:Nat→G) (l:List Nat):List Nat:=l.flatMap fun i=>(g i).foot
theorem Rep.deep {M:Nat→Prop}:∀{t:Ty} {d:t.D} {vs:List Value},t.hasSl=false→Rep w M t d vs→Z6 w t none [] d vs:=by
 intro t
 induction t with
 | int k=>intro d vs _ h;exact ⟨rfl,by simpa [Rep] using h⟩
 | bool=>intro d vs _ h;exact ⟨rfl,by simpa [Rep] using h⟩
 | str=>intro d vs _ h;exact ⟨rfl,by simpa [Rep] using h⟩
 | sl c e ih=>intro d vs h;simp [Ty.hasSl] at h
 | pr s t ihs iht =>
  intro d vs h hr
  simp only [Ty.hasSl,Bool.or_eq_false_iff] at h
  obtain ⟨l,m,rfl,h2,h3⟩:=hr
  simp only [Z6]
  exact ⟨[],[],l,m,rfl,rfl,ihs h.1 h2,iht h.2 h3⟩
theorem Rws.deep {M:Nat→Prop} {dp:Bool} {t:Ty} {Fs:List (List Nat)} {ds:List t.D} {xs:List Value} (hd:(dp||!t.hasSl)=true) (h:Rws w M dp t Zz Fs ds xs):Rws w M true t Zz Fs ds xs:=by
 cases dp with
 | true=>exact h
 | false =>
  refine ⟨h.lf,h.lx,fun i hi=>?_⟩
  obtain ⟨us,a1,a2,a3⟩:=h.row i hi
  refine ⟨us,a1,a2,?_⟩
  simp only [Row,Yg,if_false] at a3
  simp only [Row,if_true]
  rw [a3.1]
  exact a3.2.deep (by simpa using hd)
theorem Zb.drep {M:Nat→Prop} {g0:G} {dp:Bool} {t:Ty} {ds:List t.D} (hd:(dp||!t.hasSl)=true) (h:Zb w M g0 dp t Zz ds):Z6 w (.sl false t) none g0.foot ds [g0.val]:=by
 obtain ⟨o,xs,Fs,h1,h2,h3⟩:=Zy.1 h
 have h4:=h3.deep hd
 simp only [Z6]
 rw [if_neg (by simp)]
 refine ⟨g0.val,o,xs,Fs,rfl,h1,by simp,h2,h4.lf,fun i hi=>?_⟩
 obtain ⟨us,a1,a2,a3⟩:=h4.row i hi
 exact ⟨us,a1,a2,by simpa [Row,Zz] using a3⟩
theorem Z5j {h0:Nat→Option Blk} {b:Atom} {l:List Atom} {mv:List Nat} (h:Zg h0 (b::l)=some mv) :
  ∃m1 m2,mv=m1++m2∧Zg h0 l=some m2∧((∃id dp t e,b=.ref id∧m1=[id]∧h0 id=some (.arr dp t e)∧(dp||!t.hasSl)=true∧id∉m2)∨(m1=[]∧((∃t e,b=.x t e∧t.hasSl=false)∨b=.nil))):=by
 cases b with
 | ref id =>
  simp only [Zg] at h
  split at h
  case h_2=>cases h
  rename_i dp t e m2 hid hm
  split at h
  case isFalse=>cases h
  rename_i hc
  cases h
  simp only [Y5,Yr] at hc
  exact ⟨[id],m2,rfl,hm,.inl ⟨id,dp,t,e,rfl,rfl,hid,hc.1,by simpa using hc.2⟩⟩
 | x t e =>
  simp only [Zg] at h
  split at h
  ·cases h
  ·rename_i ht
   exact ⟨[],mv,rfl,h,.inr ⟨rfl,.inl ⟨t,e,rfl,by simpa using ht⟩⟩⟩
 | nil=>exact ⟨[],mv,rfl,h,.inr ⟨rfl,.inr rfl⟩⟩
 | _=>simp [Zg] at h
theorem Z5k {s t:Ty} {e:E s} {e':E t} (h:coe s t e=some e') (hs:s.hasSl=false):t.hasSl=false:=by
 unfold coe at h
 split at h
 ·rename_i hst;subst hst;exact hs
 ·split at h
  ·simp [Ty.hasSl] at hs
  ·cases h
theorem Z5l (h:R bd N s r g a.tmps st w):∀{t:Ty} {l rest:List Atom} {u:E t} {vs:List Value} {mv:List Nat},mkE s.heap t l=some (u,rest)→Z8 w (Mt bd.Z s.heap g) g r l vs→(∀b∈l,b.ok N s.heap)→Zg s.heap l=some mv →
  ∃us ws m1 m2,vs=us++ws∧mv=m1++m2∧us.length=t.size∧Z6 w t none (ZA g m1) (den u r) us∧u.vs N∧Z8 w (Mt bd.Z s.heap g) g r rest ws∧(∀b∈rest,b∈l)∧Zg s.heap rest=some m2:=by
 intro t
 have leaf:∀{t:Ty},t.size=1→(∀(l:List Atom),mkE s.heap t l=match l with | x::l=>(x.toE s.heap t).map (·,l) | []=>none)→∀{l rest:List Atom} {u:E t} {vs:List Value} {mv:List Nat},mkE s.heap t l=some (u,rest)→Z8 w (Mt bd.Z s.heap g) g r l vs→(∀b∈l,b.ok N s.heap)→Zg s.heap l=some mv →
  ∃us ws m1 m2,vs=us++ws∧mv=m1++m2∧us.length=t.size∧Z6 w t none (ZA g m1) (den u r) us∧u.vs N∧Z8 w (Mt bd.Z s.heap g) g r rest ws∧(∀b∈rest,b∈l)∧Zg s.heap rest=some m2:=by
  intro t hsz hmk l rest u vs mv hm hr hn hmv
  rw [hmk] at hm
  cases l with
  | nil=>cases hm
  | cons b l =>
   cases vs with
   | nil=>exact hr.elim
   | cons v vs =>
    obtain ⟨e,he,hm⟩:=Ya.1 hm
    cases hm
    obtain ⟨m1,m2,rfl,hm2,hb⟩:=Z5j hmv
    obtain ⟨h1,h2⟩:=Z48 h hr.1 (hn b (Yd ..)).vs he
    refine ⟨[v],vs,m1,m2,rfl,rfl,hsz.symm,?_,h2,hr.2,fun b hb=>Yc _ hb,hm2⟩
    rcases hb with ⟨id,dp,t',e',rfl,rfl,hid,hd,_⟩ | ⟨rfl,⟨t',e',rfl,ht'⟩ | rfl⟩
    ·simp only [Atom.toE,hid] at he
     have ht:(.sl false t':Ty)=t:=by
      unfold coe at he
      split at he
      ·assumption
      ·simp at he
     subst ht
     have:=Z4T he
     subst this
     have hv:=hr.1
     simp only [Z7] at hv
     rw [hv]
     have:=Zb.drep hd (h.heap id _ hid)
     simpa [ZA] using this
    ·have:=Z5k he ht'
     exact h1.deep this
    ·have hv:=hr.1
     simp only [Z7] at hv
     subst hv
     simp only [Atom.toE] at he
     split at he
     ·cases he
      simp only [Z6]
      rw [if_neg (by simp)]
      exact ⟨.slice none 0 0,none,[],[],rfl,⟨by simp [den],.inl ⟨none,rfl,rfl,rfl⟩⟩,fun _=>by simp [den],rfl,rfl,fun i hi=>by simp [den] at hi⟩
     ·cases he
 induction t with
 | int k=>exact leaf rfl fun l=>by cases l<;>rfl
 | bool=>exact leaf rfl fun l=>by cases l<;>rfl
 | str=>exact leaf rfl fun l=>by cases l<;>rfl
 | sl c e ih=>exact leaf rfl fun l=>by cases l<;>rfl
 | pr x y ihx ihy =>
  intro l rest u vs mv hm hr hn hmv
  simp only [mkE] at hm
  split at hm
  case h_2=>cases hm
  rename_i u1 l1 h1
  split at hm
  case h_2=>cases hm
  rename_i u2 l2 h2
  cases hm
  obtain ⟨us1,ws1,m1,m2,rfl,rfl,a2,a3,a4,a5,a6,a7⟩:=ihx h1 hr hn hmv
  obtain ⟨us2,ws2,m3,m4,rfl,rfl,b2,b3,b4,b5,b6,b7⟩:=ihy h2 a5 (fun b hb=>hn b (a6 b hb)) a7
  refine ⟨us1++us2,ws2,m1++m3,m4,by simp,by simp,by simp [Ty.size,a2,b2],?_,⟨a4,b4⟩,b5,fun b hb=>a6 b (b6 b hb),b7⟩
  simp only [Z6]
  exact ⟨ZA g m1,ZA g m3,us1,us2,by simp [ZA],rfl,a3,b3⟩
theorem Z5m {h0:Nat→Option Blk}:∀{l:List Atom} {mv:List Nat},Zg h0 l=some mv→mv.Nodup∧∀i∈mv,∃dp t e,h0 i=some (.arr dp t e)
 | [],mv,h=>by simp only [Zg,Y4] at h;subst h;simp
 | b::l,mv,h=>by
  obtain ⟨m1,m2,rfl,hm2,hb⟩:=Z5j h
  obtain ⟨i1,i2⟩:=Z5m hm2
  rcases hb with ⟨id,dp,t',e',rfl,rfl,hid,hd,hni⟩ | ⟨rfl,_⟩
  ·refine ⟨List.nodup_cons.2 ⟨hni,i1⟩,fun i hi=>?_⟩
   rcases Yl.1 hi with rfl | hi
   ·exact ⟨dp,t',e',hid⟩
   ·exact i2 i hi
  ·exact ⟨i1,i2⟩
theorem Z5n (h:R bd N s r g a.tmps st w):∀{mv:List Nat},mv.Nodup→(∀i∈mv,∃B,s.heap i=some B)→(ZA g mv).Nodup
 | [],_,_=>List.nodup_nil
 | i::mv,hn,hl=>by
  obtain ⟨hi,hn⟩:=List.nodup_cons.1 hn
  obtain ⟨B,hB⟩:=hl i (Yd ..)
  show ((g i).foot++ZA g mv).Nodup
  refine Z4X (h.nodup i B hB) (Z5n h hn fun j hj=>hl j (Yc _ hj)) fun b hb hb'=>?_
  obtain ⟨j,hj,hbj⟩:=List.mem_flatMap.1 hb'
  obtain ⟨C,hC⟩:=hl j (Yc _ hj)
  have:=h.inj i j B C b hB hC hb hbj
  subst this
  exact hi hj
theorem Z5o {h0:Nat→Option Blk}:∀{t:Ty} {l rest l':List Atom} {u:E t},mkE h0 t l=some (u,rest)→mkE h0 t (l++l')=some (u,rest++l'):=by
 intro t
 induction t with
 | pr x y ihx ihy =>
  intro l rest l' u hm
  simp only [mkE] at hm ⊢
  split at hm
  case h_2=>cases hm
  rename_i u1 l1 h1
  split at hm
  case h_2=>cases hm
  rename_i u2 l2 h2
  cases hm
  rw [ihx h1]
  simp only []
  rw [ihy h2]
 | _ =>
  intro l rest l' u hm
  cases l with
  | nil=>simp [mkE] at hm
  | cons b l =>
   simp only [mkE,List.cons_append] at hm ⊢
   obtain ⟨e,he,h2⟩:=Ya.1 hm
   cases h2
   rw [he];rfl
theorem Rws.single {M:Nat→Prop} {dp:Bool} {t:Ty} {F:List Nat} {d:t.D} {us:List Value} (hl:us.length=t.size) (h:Row w M dp t none F d us):Rws w M dp t Zz [F] [d] us :=
 ⟨rfl,by simp [hl],fun i hi=>by
  have:i=0:=by simp at hi;omega
  subst this
  exact ⟨us,hl,fun j u hu=>by simpa using hu,h⟩⟩
theorem Z5p {t:Ty} (e:E t):(den (.o1 (.one t) e) r:List t.D)=[den e r]:=rfl
theorem Z5q (h:R bd N s r g a.tmps st w) {ty:Ty}:∀{l:List SV} {vs:List Value} {e:E (.sl false ty)},Z13 s.heap ty l=some e→Za w (Mt bd.Z s.heap g) g r l vs→(∀v∈l,v.all (Atom.ok N s.heap))→(∀v∈l,v.one s.heap=true)→Z0x ty (l.flatMap SV.cells)=true →
  e.vs N∧(den e r:List ty.D).length=l.length∧(∀v∈vs,v.cells.size=ty.size)∧Rws w (Mt bd.Z s.heap g) false ty Zz (List.replicate l.length []) (den e r) (vs.flatMap fun v=>v.cells.toList)
 | [],vs,e,he,hr,_,_,_=>by
  simp only [Z13,Y4] at he
  subst he
  cases vs with
  | nil=>exact ⟨trivial,rfl,by simp,Rws.nil⟩
  | cons _ _=>exact hr.elim
 | x::l,[],_,_,hr,_,_,_=>hr.elim
 | x::l,v::vs,e,he,hr,hn,ho,hp=>by
  simp only [Z13] at he
  split at he
  case h_2=>cases he
  rename_i e1 er h1 h2
  have hp':ty.hasSl=false∨∀b∈(x::l).flatMap SV.cells,b.pure=true:=by
   rw [Z0x,YL] at hp
   exact hp.imp (fun q=>by simpa using q) fun q=>YG.1 q
  have hpx:ty.hasSl=false∨∀b∈x.cells,b.pure=true:=hp'.imp_right fun q b hb=>q b (List.mem_flatMap.2 ⟨x,Yd ..,hb⟩)
  have hpl:Z0x ty (l.flatMap SV.cells)=true:=by
   rcases hp' with q | q
   ·simp [Z0x,q]
   ·simp only [Z0x,YL,YG]
    exact .inr fun b hb=>by
     obtain ⟨y,hy,hb⟩:=List.mem_flatMap.1 hb
     exact q b (List.mem_flatMap.2 ⟨y,Yc _ hy,hb⟩)
  have hcells:=Z4x h hr.1 (hn x (Yd ..)) (ho x (Yd ..))
  obtain ⟨us,ws,q1,q2,q3,q4,q5,_⟩:=Z5i h h1 hcells (SV.cells_all (hn x (Yd ..))) hpx
  have hws:ws=[]:=by cases ws with | nil=>rfl | cons _ _=>exact q5.elim
  subst hws
  rw [Yx] at q1
  obtain ⟨i1,i2,i3,i4⟩:=Z5q h h2 hr.2 (fun y hy=>hn y (Yc _ hy)) (fun y hy=>ho y (Yc _ hy)) hpl
  have hvsz:∀u∈v::vs,u.cells.size=ty.size:=by
   intro u hu
   rcases Yl.1 hu with rfl | hu
   ·rw [←Yi,q1,q2]
   ·exact i3 u hu
  have hone:Rws w (Mt bd.Z s.heap g) false ty Zz [[]] [den e1 r] v.cells.toList:=by
   rw [q1]
   exact Rws.single q2 (by simp only [Row,Yg,if_false];exact ⟨trivial,q3⟩)
  cases l with
  | nil =>
   simp only [Y4] at he
   subst he
   cases vs with
   | cons _ _=>exact hr.2.elim
   | nil=>exact ⟨q4,rfl,hvsz,by simpa [Z5p] using hone⟩
  | cons y l =>
   simp only [Y4] at he
   subst he
   refine ⟨⟨q4,i1⟩,?_,hvsz,?_⟩
   ·rw [Z4W,Z5p,Y7,i2];simp;omega
   ·rw [Z4W,Z5p]
    have:=hone.append i4
    simpa [List.replicate_succ] using this
theorem Z5r (h:R bd N s r g a.tmps st w) {ty:Ty}:∀{l:List SV} {vs:List Value} {e:E (.sl false ty)} {mv:List Nat},Z13 s.heap ty l=some e→Za w (Mt bd.Z s.heap g) g r l vs→(∀v∈l,v.all (Atom.ok N s.heap))→(∀v∈l,v.one s.heap=true)→Zg s.heap (l.flatMap SV.cells)=some mv →
  e.vs N∧(den e r:List ty.D).length=l.length∧(∀v∈vs,v.cells.size=ty.size)∧∃Fs,Fs.flatten=ZA g mv∧Rws w (Mt bd.Z s.heap g) true ty Zz Fs (den e r) (vs.flatMap fun v=>v.cells.toList)
 | [],vs,e,mv,he,hr,_,_,hm=>by
  simp only [Z13,Y4] at he
  subst he
  simp only [List.flatMap_nil,Zg,Y4] at hm
  subst hm
  cases vs with
  | nil=>exact ⟨trivial,rfl,by simp,[],rfl,Rws.nil⟩
  | cons _ _=>exact hr.elim
 | x::l,[],_,_,_,hr,_,_,_=>hr.elim
 | x::l,v::vs,e,mv,he,hr,hn,ho,hm=>by
  simp only [Z13] at he
  split at he
  case h_2=>cases he
  rename_i e1 er h1 h2
  rw [List.flatMap_cons] at hm
  have hcells:=Z4x h hr.1 (hn x (Yd ..)) (ho x (Yd ..))
  have hmk:=Z5o (l':=l.flatMap SV.cells) h1
  rw [List.nil_append] at hmk
  have hrest:∃zs,Z8 w (Mt bd.Z s.heap g) g r (l.flatMap SV.cells) zs:=by
   have:∀(l:List SV) (vs:List Value),Za w (Mt bd.Z s.heap g) g r l vs→(∀v∈l,v.all (Atom.ok N s.heap))→(∀v∈l,v.one s.heap=true)→∃zs,Z8 w (Mt bd.Z s.heap g) g r (l.flatMap SV.cells) zs:=by
    intro l
    induction l with
    | nil=>intro vs _ _ _;exact ⟨[],trivial⟩
    | cons x l ih =>
     intro vs hr hn ho
     cases vs with
     | nil=>exact hr.elim
     | cons v vs =>
      obtain ⟨zs,hz⟩:=ih vs hr.2 (fun y hy=>hn y (Yc _ hy)) (fun y hy=>ho y (Yc _ hy))
      exact ⟨_,(Z4x h hr.1 (hn x (Yd ..)) (ho x (Yd ..))).append hz⟩
   exact this l vs hr.2 (fun y hy=>hn y (Yc _ hy)) (fun y hy=>ho y (Yc _ hy))
  obtain ⟨zs,hz⟩:=hrest
  obtain ⟨us,ws,m1,m2,q1,rfl,q2,q3,q4,q5,q6,q7⟩:=Z5l h hmk (hcells.append hz) (fun b hb=>by
   rcases Y6.1 hb with hb | hb
   ·exact SV.cells_all (hn x (Yd ..)) b hb
   ·obtain ⟨y,hy,hb⟩:=List.mem_flatMap.1 hb
    exact SV.cells_all (hn y (Yc _ hy)) b hb) hm
  have hlen1:v.cells.toList.length=ty.size:=by
   have e1:=hz.length
   have e2:=q5.length
   have e3:=congrArg List.length q1
   simp only [Y7] at e3
   omega
  have hus:us=v.cells.toList:=by
   have:=congrArg (List.take ty.size) q1
   rw [List.take_append_of_le_length (by omega),List.take_append_of_le_length (by omega),←hlen1,Yu,hlen1,←q2,Yu] at this
   exact this.symm
  obtain ⟨i1,i2,i3,Fs,i4,i5⟩:=Z5r h h2 hr.2 (fun y hy=>hn y (Yc _ hy)) (fun y hy=>ho y (Yc _ hy)) q7
  have hvsz:∀u∈v::vs,u.cells.size=ty.size:=by
   intro u hu
   rcases Yl.1 hu with rfl | hu
   ·rw [←Yi,hlen1]
   ·exact i3 u hu
  have hone:Rws w (Mt bd.Z s.heap g) true ty Zz [ZA g m1] [den e1 r] v.cells.toList:=by
   rw [←hus]
   exact Rws.single q2 (by simp only [Row,if_true];exact q3)
  have hfeet:([ZA g m1]++Fs).flatten=ZA g (m1++m2):=by simp [i4,ZA]
  cases l with
  | nil =>
   simp only [Y4] at he
   subst he
   cases vs with
   | cons _ _=>exact hr.2.elim
   | nil =>
    have hF0:Fs=[]:=by
     have:=i5.lf
     rw [i2] at this
     exact List.eq_nil_of_length_eq_zero this
    subst hF0
    exact ⟨q4,rfl,hvsz,[ZA g m1],hfeet,by simpa [Z5p] using hone⟩
  | cons y l =>
   simp only [Y4] at he
   subst he
   refine ⟨⟨q4,i1⟩,?_,hvsz,[ZA g m1]++Fs,hfeet,?_⟩
   ·rw [Z4W,Z5p,Y7,i2];simp;omega
   ·rw [Z4W,Z5p]
    exact hone.append i5
theorem Z5s {t e:TypeId} {n:Nat} {parts:List (Nat×Value)} {vs:List Value} {i:TypeInfo} {z:Value} (ht:P.underlying t=some (.slice e)) (hi:P.info? e=some i) (hz:i.zero=some z) (hsz:0<i.size) (hn:n * i.size≤2 ^ 24) (hlen:vs.length=n)
  (hp:parts=(vs.zipIdx 0).map fun x=>(x.2,x.1)) (h1:∀v∈vs,v.cells.size=i.size) :
  (Instr.buildSlice t n parts.toArray).run P w=.ok (.slice (some ⟨w.heap.size,0,none⟩) n n) (w.alloc (.cells (vs.flatMap fun v=>v.cells.toList).toArray e)):=by
 have hsmall:¬n * i.size > 2 ^ 24:=by omega
 have hfill:∀cells:Array Value,cells.size=n * i.size→Instr.fill (fun k=>some (k * i.size,i.size)) cells parts=some (vs.flatMap fun v=>v.cells.toList).toArray:=by
  intro cells hc
  rw [hp]
  exact Great.fill_whole hsz vs cells h1 (by rw [hc,hlen])
 by_cases h0:n * i.size=0
 ·have:=hfill ((Array.range 0).map ((#[]:Array Value)[· % (#[]:Array Value).size]!)) (by simp [h0])
  simp [Instr.buildSlice,run_underlying ht,sizeOf,typeInfo,zeroValue,hi,hz,h0,newRow] at this ⊢
  simp [this]
 ·have:=hfill ((Array.range (n * i.size)).map (z.cells[· % z.cells.size]!)) (by simp)
  simp [Instr.buildSlice,run_underlying ht,sizeOf,typeInfo,zeroValue,hi,hz,h0,hsmall,newRow,this]
theorem Z5t (h:R bd N s r g a.tmps st w):∀(l:List Operand),Za w (Mt bd.Z s.heap g) g r (l.map s.get) (l.map a.eval)
 | []=>trivial
 | x::l=>⟨(Z3m h x).1,Z5t h l⟩
theorem Z5u {n:Nat}:∀{ps:List (Nat×Operand)} (k:Nat),ps.map (·.1)=List.range' k ps.length→(ps.map fun p=>(p.1,a.eval p.2))=((ps.map (·.2)).map a.eval |>.zipIdx k).map fun x=>(x.2,x.1)
 | [],_,_=>rfl
 | p::ps,k,h=>by
  simp only [List.map_cons,YA,List.range'_succ,List.cons.injEq] at h
  simp only [List.map_cons,List.zipIdx_cons,h.1]
  congr 1
  exact Z5u (n:=n) (k+1) h.2
theorem Z5v (h0:R bd N s r g a.tmps st w) {frz:Bool} {id:Nat} {t:TypeId} {n:Nat} {parts:Array (Nat×Operand)} (o:Oper) (ho:o.op=.buildSlice t n parts) {gs:List (E .bool)} {sv:SV} {s':St}
  (hs:Z16 P frz s id t n parts.toList=some (gs,sv,s')):Good P bd N r st (execOp a.eval o) a.tmps w sv s':=by
 unfold Z16 at hs
 split at hs
 case h_2=>cases hs
 rename_i ty hel
 split at hs
 case isFalse=>cases hs
 rename_i hc
 simp only [Y5,beq_iff_eq,Ye] at hc
 obtain ⟨ety,i,z,ht,hi,hz,hisz,hzs,hby,hz0⟩:=Z4V hel
 have hplen:parts.toList.length=n:=by
  have:=congrArg List.length hc.1
  simpa using this
 have hpos:=ty.size_pos
 have hnn:n≤n * ty.size:=Nat.le_mul_of_pos_right n hpos
 have fin:∀(s:St) (h:R bd N s r g a.tmps st w) (dp:Bool) (e:E (.sl false ty)) (K:List Nat) (Fs:List (List Nat)),free s id=true→e.vs N→(den e r:List ty.D).length=((parts.toList.map (·.2)).map s.get).length →
   (∀v∈(parts.toList.map (·.2)).map a.eval,v.cells.size=ty.size)→Rws w (Mt bd.Z s.heap g) dp ty Zz Fs (den e r) (((parts.toList.map (·.2)).map a.eval).flatMap fun v=>v.cells.toList)→Fs.flatten.Nodup →
   (∀k∈K,∀l,s.heap k≠some (.box l))→(∀b∈Fs.flatten,∃j C,j∈K∧s.heap j=some C∧b∈(g j).foot)→Good P bd N r st (execOp a.eval o) a.tmps w (.a (.ref id)) ((s.kills K).new id (.arr dp ty e)):=by
  intro s h dp e K Fs hf hn hlen hsz hrows hnd hK hfeet
  have hlen':(den e r:List ty.D).length=n:=by rw [hlen];simp [←hplen]
  refine Z5d h (K:=K) (Fs:=Fs) hf (cap:=n) (cs:=(((parts.toList.map (·.2)).map a.eval).flatMap fun v=>v.cells.toList).toArray) (ety:=ety) ?_ hn (by omega) (by simp only [maxLen];omega) ?_ ?_ hnd hK hfeet
  ·rw [hlen']
   simp only [execOp,ho]
   have:=Z5s (w:=w) (n:=n) (parts:=parts.toList.map fun p=>(p.1,a.eval p.2)) (vs:=(parts.toList.map (·.2)).map a.eval) ht hi hz (by omega) (by rw [hisz];omega) (by simp [←hplen]) (Z5u (n:=n) 0 (by rw [hc.1,hplen,List.range_eq_range'])) (by rw [hisz];exact hsz)
   have hpa:(parts.toList.map fun p=>(p.1,a.eval p.2)).toArray=parts.map fun (i,x)=>(i,a.eval x):=by
    apply Array.ext'
    simp
   rw [hpa] at this
   exact Zv this
  ·have:=hrows.lx
   simp only [List.size_toArray]
   rw [this,hlen']
  ·have:=hrows.lx
   rw [←this,Yu]
   exact hrows
 split at hs
 ·rename_i mv hm
  have hm':Zg s.heap (parts.toList.flatMap fun p=>(s.get p.2).cells)=some mv:=by
   split at hm
   ·cases hm
   ·exact hm
  unfold Z15 at hs
  split at hs
  case isFalse=>cases hs
  rename_i hf
  simp only [Y5,YG] at hf
  obtain ⟨e,he,h1⟩:=Ya.1 hs
  simp only [Y9] at h1
  obtain ⟨rfl,rfl,rfl⟩:=h1
  have hm2:Zg s.heap (((parts.toList.map (·.2)).map s.get).flatMap SV.cells)=some mv:=by
   rw [←hm']
   congr 1
   simp [List.flatMap_map]
  obtain ⟨i1,i2,i3,Fs,i4,i5⟩:=Z5r h0 he (Z5t h0 _) (fun v hv=>by obtain ⟨x,_,rfl⟩:=Yo.1 hv;exact (Z3m h0 x).2) (fun v hv=>by obtain ⟨x,hx,rfl⟩:=Yo.1 hv;exact hf.2 x hx) hm2
  obtain ⟨j1,j2⟩:=Z5m hm2
  refine fin s h0 true e mv Fs hf.1 i1 i2 i3 i5 (by rw [i4];exact Z5n h0 j1 fun i hi=>by obtain ⟨_,_,_,q⟩:=j2 i hi;exact ⟨_,q⟩) (fun k hk l hl=>by obtain ⟨_,_,_,q⟩:=j2 k hk;rw [q] at hl;cases hl) ?_
  intro b hb
  rw [i4] at hb
  obtain ⟨j,hj,hbj⟩:=List.mem_flatMap.1 hb
  obtain ⟨_,_,_,q⟩:=j2 j hj
  exact ⟨j,_,hj,q,hbj⟩
 ·have h:=h0.solids (parts.toList.map (·.2))
  generalize s.solids (parts.toList.map (·.2))=s1 at hs h
  unfold Z14 at hs
  split at hs
  case isFalse=>cases hs
  rename_i hf
  simp only [Y5,YG] at hf
  obtain ⟨e,he,h1⟩:=Ya.1 hs
  simp only [Y9] at h1
  obtain ⟨rfl,rfl,rfl⟩:=h1
  obtain ⟨i1,i2,i3,i4⟩:=Z5q h he (Z5t h _) (fun v hv=>by obtain ⟨x,_,rfl⟩:=Yo.1 hv;exact (Z3m h x).2) (fun v hv=>by obtain ⟨x,hx,rfl⟩:=Yo.1 hv;exact hf.2 x hx) (by
   have:=hf.1.2
   rw [List.flatMap_map]
   exact this)
  exact fin s1 h false e [] _ hf.1.1 i1 i2 i3 i4 (by rw [Z4R];exact List.nodup_nil) (by simp) (fun b hb=>by rw [Z4R] at hb;cases hb)
end
end Go.Sm
namespace Go.Sm
section
variable {P:Program} {bd:Bd} {N:Nat→Prop} {s:St} {r:Env} {g:Nat→G} {st:List (Array Value)} {w:World} {a:Act}
def splice {α:Type} (xs:List α) (p:Nat) (vs:List α):List α:=xs.take p++vs++xs.drop (p+vs.length)
theorem Z5w {α:Type} {xs vs:List α} {p:Nat} (h:p+vs.length≤xs.length) (k:Nat):(splice xs p vs)[k]?=if k<p then xs[k]? else if k<p+vs.length then vs[k - p]? else xs[k]?:=by
 unfold splice
 by_cases h1:k<p
 ·rw [if_pos h1,Ym,Yw (by rw [Yb];omega),List.getElem?_take_of_lt h1]
 ·rw [if_neg h1]
  by_cases h2:k<p+vs.length
  ·rw [if_pos h2,Ym,Yt (by rw [Yb];omega),Yw (by rw [Yb];omega),Yb,Nat.min_eq_left (by omega)]
  ·rw [if_neg h2,Yt (by rw [Y7,Yb];omega),YB,Y7,Yb,Nat.min_eq_left (by omega)]
   congr 1
   omega
theorem Z5x {α:Type} {xs vs:List α} {p:Nat} (h:p+vs.length≤xs.length):(splice xs p vs).length=xs.length:=by
 simp only [splice,Y7,Yb,Yq]
 omega
theorem Z5.put {v:Value} {o:Option Nat} {sz n:Nat} {xs:List Value} (h:Z5 w v o sz n xs) {p:Addr} {n' c:Nat} (hv:v=.slice (some p) n' c) (h0:0<n') {pos:Nat} {vs:List Value} (hfit:pos+vs.length≤n * sz) (h1:∀u∈vs,u.oneCell'=true) :
  ∃w',(∀(P:Program) (t:TypeId) (i:TypeInfo) (val:Value),P.info? t=some i→val.cells.toList=vs→vs.length=i.size→(Instr.storeAt t (.pointer (some ⟨p.block,p.off+pos,none⟩)) val).run P w=.ok () w')∧Z5 w' v o sz n (splice xs pos vs) ∧
   (∀b,some b≠o→w'.heap[b]?=w.heap[b]?)∧w'.heap.size=w.heap.size∧w'.os=w.os∧w'.tape=w.tape∧w'.output=w.output:=by
 rcases h.2 with ⟨x,h2,h3,h4⟩ | ⟨b,off,cap,cur,ety,a1,a2,a3,a4,a5,a6,a7⟩
 ·rw [h2] at hv;simp at hv;omega
 ·rw [a2] at hv
  simp only [Value.slice.injEq,Y4] at hv
  obtain ⟨rfl,rfl,rfl⟩:=hv
  have hle:=Yk sz a4
  refine ⟨w.setRow b (cur.toList.take (off+pos)++vs++cur.toList.drop (off+pos+vs.length)).toArray,?_,⟨by rw [Z5x (by rw [h.1];exact hfit)];exact h.1,.inr ⟨b,off,cap,_,ety,a1,a2,setRow_heap w b cur _ ety _ a3,a4,a5,?_,?_⟩⟩,
   fun k hk=>setRow_other w b k _ (fun e=>hk (by rw [a1,e])),by simp,rfl,rfl,rfl⟩
  ·intro P t i val hi hc hl
   have hsz:val.cells.size=vs.length:=by rw [←hc];simp
   have:=Z4K (P:=P) (v:=val) hi a3 (j:=off+pos) (by rw [hsz];exact hl) (by rw [hsz];omega) (by rw [hc];exact h1)
   rw [hc,hsz] at this
   exact this
  ·simp only [List.size_toArray,Y7,Yb,Yq,Yi]
   omega
  ·have hcs:cur.toList.length=cur.size:=Yi ..
   apply List.ext_getElem?
   intro k
   have hsp:=Z5w (xs:=xs) (vs:=vs) (p:=pos) (by rw [h.1];exact hfit) k
   have hsp2:=Z5w (xs:=cur.toList) (vs:=vs) (p:=off+pos) (by omega) (off+k)
   show (List.take (n * sz) (List.drop off (splice cur.toList (off+pos) vs)))[k]?=_
   rw [hsp]
   have hold:∀k,k<n * sz→cur.toList[off+k]?=xs[k]?:=by
    intro k hk
    rw [←a7,List.getElem?_take_of_lt hk,YB]
   by_cases hk:k<n * sz
   ·rw [List.getElem?_take_of_lt hk,YB,hsp2]
    by_cases q1:k<pos
    ·rw [if_pos (by omega),if_pos q1,hold k hk]
    ·rw [if_neg (by omega),if_neg q1]
     by_cases q2:k<pos+vs.length
     ·rw [if_pos (by omega),if_pos q2]
      congr 1;omega
     ·rw [if_neg (by omega),if_neg q2,hold k hk]
   ·rw [if_neg (by omega),if_neg (by omega),Yz (by rw [Yb];omega),Yz (by rw [h.1];omega)]
theorem Rws.put {M:Nat→Prop} {dp:Bool} {t:Ty} {ho ho':Nat→Option Nat} {Fs:List (List Nat)} {ds:List t.D} {xs:List Value} {n j:Nat} {d:t.D} {us vs:List Value} {F:List Nat} (h:Rws w M dp t ho Fs ds xs) (hn:n<ds.length) (hu:us.length=t.size)
  (hus:∀j u,us[j]?=some u→xs[n * t.size+j]?=some u) (hj:j+vs.length≤t.size) (hr:Row w M dp t (ho' n) F d (splice us j vs)) (hho:∀i,i≠n→ho' i=ho i) :
  Rws w M dp t ho' (Fs.set n F) (ds.set n d) (splice xs (n * t.size+j) vs):=by
 have hle:(n+1) * t.size≤ds.length * t.size:=Yk _ hn
 rw [Nat.add_mul,Nat.one_mul] at hle
 have hlx:=h.lx
 have hs:splice xs (n * t.size+j) vs=splice xs (n * t.size) (splice us j vs):=by
  apply List.ext_getElem?
  intro k
  have hul:(splice us j vs).length=t.size:=by rw [Z5x (by omega)];exact hu
  have hold:∀k,k<t.size→us[k]?=xs[n * t.size+k]?:=by
   intro k hk
   rw [hus k us[k] (List.getElem?_eq_getElem (by omega)),List.getElem?_eq_getElem (by omega)]
  have eL:=Z5w (xs:=xs) (vs:=vs) (p:=n * t.size+j) (by omega) k
  have eR:=Z5w (xs:=xs) (vs:=splice us j vs) (p:=n * t.size) (by omega) k
  have eM:=Z5w (xs:=us) (vs:=vs) (p:=j) (by omega) (k - n * t.size)
  rw [eL,eR,hul,eM]
  by_cases q1:k<n * t.size
  ·rw [if_pos (show k<n * t.size+j by omega),if_pos q1]
  ·rw [if_neg q1]
   by_cases q2:k<n * t.size+t.size
   ·rw [if_pos q2]
    by_cases q3:k<n * t.size+j
    ·rw [if_pos q3,if_pos (show k - n * t.size<j by omega),hold _ (by omega)];congr 1;omega
    ·rw [if_neg q3,if_neg (show ¬(k - n * t.size<j) by omega)]
     by_cases q4:k<n * t.size+j+vs.length
     ·rw [if_pos q4,if_pos (show k - n * t.size<j+vs.length by omega)];congr 1;omega
     ·rw [if_neg q4,if_neg (show ¬(k - n * t.size<j+vs.length) by omega),hold _ (by omega)];congr 1;omega
   ·rw [if_neg q2,if_neg (show ¬(k<n * t.size+j) by omega),if_neg (show ¬(k<n * t.size+j+vs.length) by omega)]
 rw [hs]
 exact h.set hn (by rw [Z5x (by omega)];exact hu) hr hho
theorem Z5y {α:Type} {l:List α} {j:Nat} {v:α} (h:j<l.length):splice l j [v]=l.set j v:=by
 apply List.ext_getElem?
 intro k
 rw [Z5w (by simp;omega),YM]
 by_cases q1:k<j
 ·rw [if_pos q1,if_neg (by omega)]
 ·rw [if_neg q1]
  by_cases q2:k<j+1
  ·have:k=j:=by omega
   subst this
   simp [h]
  ·rw [if_neg (by simpa using q2),if_neg (by omega)]
theorem Z5z {α:Type} {l vs:List α} (h:vs.length=l.length):splice l 0 vs=vs:=by
 simp [splice,h]
theorem Z5A (h:R bd N s r g a.tmps st w):∀{t:Ty} {j:Nat} {e u:E t} {b:Atom} {v:Value} {us:List Value},Z0u s.heap t j e b=some u→Z7 w (Mt bd.Z s.heap g) g r b v→b.ok N s.heap→e.vs N→(t.hasSl=false∨b.pure=true)→Rep w (Mt bd.Z s.heap g) t (den e r) us →
  j<us.length∧Rep w (Mt bd.Z s.heap g) t (den u r) (us.set j v)∧u.vs N:=by
 intro t
 have leaf:∀{t:Ty} {u:E t} {b:Atom} {v:Value} {us:List Value},t.size=1→b.toE s.heap t=some u→Z7 w (Mt bd.Z s.heap g) g r b v→b.ok N s.heap→(t.hasSl=false∨b.pure=true)→us.length=1→0<us.length∧Rep w (Mt bd.Z s.heap g) t (den u r) (us.set 0 v)∧u.vs N:=by
  intro t u b v us _ he hv hn hp hl
  obtain ⟨h1,h2⟩:=Z5h h hv hn he hp
  obtain ⟨x,rfl⟩:=List.length_eq_one_iff.1 hl
  exact ⟨by simp,h1,h2⟩
 induction t with
 | int k=>intro j e u b v us hp hv hn _ hh hr;cases j with
  | zero=>exact leaf rfl hp hv hn hh hr.len
  | succ j=>cases hp
 | bool=>intro j e u b v us hp hv hn _ hh hr;cases j with
  | zero=>exact leaf rfl hp hv hn hh hr.len
  | succ j=>cases hp
 | str=>intro j e u b v us hp hv hn _ hh hr;cases j with
  | zero=>exact leaf rfl hp hv hn hh hr.len
  | succ j=>cases hp
 | sl c e' ih=>intro j e u b v us hp hv hn _ hh hr;cases j with
  | zero=>exact leaf rfl hp hv hn hh hr.len
  | succ j=>cases hp
 | pr x y ihx ihy =>
  intro j e u b v us hp hv hn he hh hr
  obtain ⟨l,m,rfl,hl,hm⟩:=hr
  have hll:=hl.len
  simp only [Z0u] at hp
  split at hp
  ·rename_i hj
   obtain ⟨u',hu',rfl⟩:=Ya.1 hp
   obtain ⟨h1,h2,h3⟩:=ihx (e:=.o1 (.fst x y) e) hu' hv hn he (hh.imp_left fun q=>by simp only [Ty.hasSl,Bool.or_eq_false_iff] at q;exact q.1) hl
   refine ⟨by simp;omega,⟨l.set j v,m,by rw [List.set_append_left _ _ h1],h2,hm⟩,h3,he⟩
  ·rename_i hj
   obtain ⟨u',hu',rfl⟩:=Ya.1 hp
   obtain ⟨h1,h2,h3⟩:=ihy (e:=.o1 (.snd x y) e) hu' hv hn he (hh.imp_left fun q=>by simp only [Ty.hasSl,Bool.or_eq_false_iff] at q;exact q.2) hm
   refine ⟨by simp;omega,⟨l,m.set (j - x.size) v,by rw [List.set_append_right _ _ (by omega),hll],hl,h2⟩,he,h3⟩
theorem Z5B (h:R bd N s r g a.tmps st w) {t:Ty} {j:Nat} {e u:E t} {cs:List Atom} {vs us:List Value} (hm:Z0y s.heap t j e cs=some u) (hv:Z8 w (Mt bd.Z s.heap g) g r cs vs) (hn:∀b∈cs,b.ok N s.heap) (he:e.vs N) (hp:Z0x t cs=true) (hr:Rep w (Mt bd.Z s.heap g) t (den e r) us) :
  j+vs.length≤us.length∧Rep w (Mt bd.Z s.heap g) t (den u r) (splice us j vs)∧u.vs N:=by
 have hp':t.hasSl=false∨∀b∈cs,b.pure=true:=by
  rw [Z0x,YL] at hp
  exact hp.imp (fun q=>by simpa using q) fun q=>YG.1 q
 have hl:=hr.len
 unfold Z0y at hm
 split at hm
 ·rename_i hc
  obtain ⟨hc1,rfl⟩:=hc
  split at hm
  case h_2=>cases hm
  rename_i u' hmk
  cases hm
  obtain ⟨ws,zs,q1,q2,q3,q4,q5,_⟩:=Z5i h hmk hv hn hp'
  have:zs=[]:=by cases zs with | nil=>rfl | cons _ _=>exact q5.elim
  subst this
  rw [Yx] at q1
  subst q1
  exact ⟨by omega,by rw [Z5z (by omega)];exact q3,q4⟩
 ·split at hm
  ·rename_i b
   cases vs with
   | nil=>exact hv.elim
   | cons v vs =>
    cases vs with
    | cons _ _=>exact hv.2.elim
    | nil =>
     obtain ⟨h1,h2,h3⟩:=Z5A h hm hv.1 (hn _ (Y1.2 rfl)) he (hp'.imp_right fun q=>q _ (Y1.2 rfl)) hr
     exact ⟨by simp;omega,by rw [Z5y h1];exact h2,h3⟩
  ·cases hm
theorem Z5C {t:Ty} {k:IntKind} (l:E (.sl false t)) (i:E (.int k)) (x:E t):(den (.o3 (.set t k) l i x) r:List t.D)=(den l r:List t.D).set (Int.toNat (den i r)) (den x r):=rfl
theorem Z5D (h:R bd N s r g a.tmps st w) {id:Nat} {ty:Ty} {k:IntKind} {ix:E (.int k)} {j:Nat} {t:TypeId} {x v:Operand} (o:Oper) (ho:o.op=.store t x v) {i:TypeInfo} (hi:P.info? t=some i) (hu:s.unnest id=s)
  (hx:Z7 w (Mt bd.Z s.heap g) g r (.eptr id ty k ix j) (a.eval x)) (hix:ix.vs N) {gs:List (E .bool)} {sv:SV} {s':St} (hs:Z0z s i.size id ty k ix j v=some (gs,sv,s')):Good P bd N r st (execOp a.eval o) a.tmps w sv s':=by
 unfold Z0z at hs
 split at hs
 case h_2=>cases hs
 rename_i ty' e hid
 split at hs
 case isFalse=>cases hs
 rename_i hty
 subst hty
 split at hs
 case isFalse=>cases hs
 rename_i hc
 obtain ⟨c1,c2,c3⟩:=hc
 split at hs
 case h_2=>cases hs
 rename_i u hu'
 obtain ⟨-,rfl,rfl⟩:=Z3T hs
 obtain ⟨hvr,hvn⟩:=Z3m h v
 obtain ⟨p,n,c,h1,h2,h3,h4,h5⟩:=hx
 obtain ⟨ov,xs,Fs,b1,b2,b3⟩:=Zy.1 (h.heap id _ hid)
 have hn0:0<n:=Nat.lt_of_le_of_lt (Yf _) h4
 obtain ⟨hov,hps,hnn,_,_⟩:=b1.cells h1 hn0
 have hlt:Int.toNat (den ix r)<(den e r:List ty'.D).length:=by rw [←hnn];exact h4
 obtain ⟨us,a1,a2,a3⟩:=b3.row _ hlt
 simp only [Row,Yg,if_false] at a3
 have hd:den (.o2 (.idx false ty' k) e ix) r=(den e r:List ty'.D)[Int.toNat (den ix r)]:=by rw [Z3b];exact Z3c hlt
 have hrow:=a3.2
 rw [←hd] at hrow
 have hne:(s.get v).cells≠[]:=by
  intro h0
  rw [h0] at hu'
  simp only [Z0y] at hu'
  split at hu'
  ·rename_i hh;have:=ty'.size_pos;simp at hh;omega
  ·cases hu'
 have hcells:=Z4x h hvr hvn (Z4y c3 hne)
 have hones:=Z4v h hcells (SV.cells_all hvn) c3
 obtain ⟨q1,q2,q3⟩:=Z5B h hu' hcells (SV.cells_all hvn) ⟨h.nheap id _ hid,hix⟩ c2 hrow
 have hle:(Int.toNat (den ix r)+1) * ty'.size≤(den e r:List ty'.D).length * ty'.size:=Yk _ hlt
 rw [Nat.add_mul,Nat.one_mul] at hle
 obtain ⟨w',hrun,hown,hsame,hsz,hos,htp,hout⟩:=b1.put h1 hn0 (pos:=Int.toNat (den ix r) * ty'.size+j) (vs:=(a.eval v).cells.toList) (by omega) hones
 have hsame':∀b,b∉(g id).foot→w'.heap[b]?=w.heap[b]?:=fun b hb=>hsame b fun hh=>hb (by rw [b2,←hh];simp)
 have hF:∀b∈Fs.flatten,w'.heap[b]?=w.heap[b]?:=by
  intro b hb;rw [Z4S b3] at hb;cases hb
 have hpoke:=h.poked (w':=w') [] id _ (.arr false ty' (.o3 (.set ty' k) e ix u)) (g id) hid (by simp) rfl rfl (by simp) (fun b _ hb _=>hsame' b hb) ?_ ⟨h.nheap id _ hid,hix,q3⟩ (h.nodup id _ hid) (fun b hb=>.inr (.inl hb)) ?_ (by omega) hos htp hout
 ·refine ⟨undef,w',fun k=>if k=id then g id else g k,.inr ⟨?_,rfl⟩,?_,trivial,trivial⟩
  ·simp only [execOp,ho,h5]
   refine Z3w (hrun P t i _ hi rfl ?_)
   rw [←hcells.length];exact c1
  ·have hst:((s.kills []).unnest id)=s:=hu
   rw [hst] at hpoke
   exact hpoke
 ·intro M' hk _
  refine Zy.2 ⟨ov,splice xs (Int.toNat (den ix r) * ty'.size+j) (a.eval v).cells.toList,Fs.set (Int.toNat (den ix r)) [],?_,?_,?_⟩
  ·simp only [if_true]
   rw [Z5C,YC]
   exact hown
  ·simp only [if_true]
   rw [b2]
   have e1:=Z4S b3
   rw [e1]
   congr 1
   symm
   apply List.flatten_eq_nil_iff.2
   intro F hF
   rcases List.mem_or_eq_of_mem_set hF with hF | hF
   ·exact List.flatten_eq_nil_iff.1 e1 F hF
   ·exact hF
  ·rw [Z5C]
   exact Rws.keep hk (by
    intro b hb
    exfalso
    have e1:=Z4S b3
    have:(Fs.set (Int.toNat (den ix r)) []).flatten=[]:=by
     apply List.flatten_eq_nil_iff.2
     intro F hF
     rcases List.mem_or_eq_of_mem_set hF with hF | hF
     ·exact List.flatten_eq_nil_iff.1 e1 F hF
     ·exact hF
    rw [this] at hb;cases hb) (b3.put hlt a1 a2 (by omega) (by simp only [Zz,Row,Yg,if_false];exact ⟨trivial,q2⟩) (fun _ _=>rfl))
 ·intro c hc hcid
  obtain ⟨_,l,hl⟩:=h.kpl c hc
  rw [hcid,hid] at hl
  cases hl
end
end Go.Sm
namespace Go.Sm
section
variable {P:Program} {bd:Bd} {N:Nat→Prop} {s:St} {r:Env} {g:Nat→G} {st:List (Array Value)} {w:World} {a:Act}
theorem Z5E {α:Type} {Fs:List (List α)} {n:Nat} {F:List α} {b:α} (h:b∈(Fs.set n F).flatten):b∈Fs.flatten∨b∈F:=by
 obtain ⟨l,hl,hb⟩:=List.mem_flatten.1 h
 rcases List.mem_or_eq_of_mem_set hl with hl | rfl
 ·exact .inl (List.mem_flatten.2 ⟨l,hl,hb⟩)
 ·exact .inr hb
theorem Z5F:∀{Fs:List (List Nat)} {n:Nat} {F:List Nat},Fs.flatten.Nodup→F.Nodup→(∀b∈F,b∈Fs.getD n []∨b∉Fs.flatten)→(Fs.set n F).flatten.Nodup
 | [],n,F,h,_,_=>by simp
 | G::Fs,0,F,h,hF,hb=>by
  simp only [List.flatten_cons,List.set_cons_zero] at h ⊢
  obtain ⟨h1,h2,h3⟩:=Yp.1 h
  refine Z4X hF h2 fun b hbF hbs=>?_
  rcases hb b hbF with q | q
  ·exact h3 b (by simpa using q) b hbs rfl
  ·exact q (by simp only [List.flatten_cons];exact Y0 _ hbs)
 | G::Fs,n+1,F,h,hF,hb=>by
  simp only [List.flatten_cons,List.set_cons_succ] at h ⊢
  obtain ⟨h1,h2,h3⟩:=Yp.1 h
  have ih:=Z5F (Fs:=Fs) (n:=n) (F:=F) h2 hF fun b hbF=>by
   rcases hb b hbF with q | q
   ·exact .inl (by simpa using q)
   ·exact .inr fun hh=>q (by simp only [List.flatten_cons];exact Y0 _ hh)
  refine Z4X h1 ih fun b hbG hbs=>?_
  rcases Z5E hbs with q | q
  ·exact h3 b hbG b q rfl
  ·rcases hb b q with q2 | q2
   ·have:b∈Fs.getD n []:=by simpa using q2
    exact h3 b hbG b (Z0f this) rfl
   ·exact q2 (by simp only [List.flatten_cons];exact Y3 _ hbG)
theorem Z5G (h:R bd N s r g a.tmps st w):∀{t:Ty} {j:Nat} {ho:Option Nat} {e u:E t} {b:Atom} {v:Value} {us:List Value} {F mv:List Nat},Z0u s.heap t j e b=some u→(ho=none∨ho=some j)→Z7 w (Mt bd.Z s.heap g) g r b v→b.ok N s.heap→e.vs N →
  Zg s.heap [b]=some mv→Z6 w t ho F (den e r) us →
  ∃F',j<us.length∧Z6 w t none F' (den u r) (us.set j v)∧u.vs N∧(∀x∈F',x∈F∨x∈ZA g mv)∧(F.Nodup→(ZA g mv).Nodup→(∀x∈F,x∉ZA g mv)→F'.Nodup):=by
 intro t
 have leaf:∀{t:Ty} {u:E t} {b:Atom} {v:Value} {us:List Value} {F mv:List Nat},t.size=1→(∀(l:List Atom),mkE s.heap t l=match l with | x::l=>(x.toE s.heap t).map (·,l) | []=>none)→b.toE s.heap t=some u→Z7 w (Mt bd.Z s.heap g) g r b v→b.ok N s.heap→Zg s.heap [b]=some mv→us.length=1 →
   ∃F',0<us.length∧Z6 w t none F' (den u r) (us.set 0 v)∧u.vs N∧(∀x∈F',x∈F∨x∈ZA g mv)∧(F.Nodup→(ZA g mv).Nodup→(∀x∈F,x∉ZA g mv)→F'.Nodup):=by
  intro t u b v us F mv hsz hmk he hv hn hm hl
  have hmk':mkE s.heap t [b]=some (u,[]):=by rw [hmk];simp [he]
  obtain ⟨ws,zs,m1,m2,q1,rfl,q2,q3,q4,q5,_,q7⟩:=Z5l (vs:=[v]) h hmk' ⟨hv,trivial⟩ (fun c hc=>by simp only [Y1] at hc;subst hc;exact hn) hm
  simp only [Zg,Y4] at q7
  subst q7
  have hz:zs=[]:=by cases zs with | nil=>rfl | cons _ _=>exact q5.elim
  subst hz
  rw [Yx] at q1
  subst q1
  obtain ⟨x,rfl⟩:=List.length_eq_one_iff.1 hl
  refine ⟨ZA g m1,by simp,q3,q4,fun x hx=>.inr (by simpa using hx),fun _ h2 _=>by simpa using h2⟩
 induction t with
 | int k=>intro j ho e u b v us F mv hp hho hv hn _ hm hr;cases j with
  | zero=>exact leaf rfl (fun l=>by cases l<;>rfl) hp hv hn hm hr.len
  | succ j=>cases hp
 | bool=>intro j ho e u b v us F mv hp hho hv hn _ hm hr;cases j with
  | zero=>exact leaf rfl (fun l=>by cases l<;>rfl) hp hv hn hm hr.len
  | succ j=>cases hp
 | str=>intro j ho e u b v us F mv hp hho hv hn _ hm hr;cases j with
  | zero=>exact leaf rfl (fun l=>by cases l<;>rfl) hp hv hn hm hr.len
  | succ j=>cases hp
 | sl c e' ih=>intro j ho e u b v us F mv hp hho hv hn _ hm hr;cases j with
  | zero=>exact leaf rfl (fun l=>by cases l<;>rfl) hp hv hn hm hr.len
  | succ j=>cases hp
 | pr x y ihx ihy =>
  intro j ho e u b v us F mv hp hho hv hn he hm hr
  simp only [Z6] at hr
  obtain ⟨F1,F2,l,m,rfl,rfl,hl,hmm⟩:=hr
  have hll:=hl.len
  simp only [Z0u] at hp
  split at hp
  ·rename_i hj
   obtain ⟨u',hu',rfl⟩:=Ya.1 hp
   have hmm':Z6 w y none F2 (den (.o1 (.snd x y) e) r) m:=by
    rcases hho with rfl | rfl
    ·exact hmm
    ·simp only [hj,if_true] at hmm;exact hmm
   have hl':∃ho',(ho'=none∨ho'=some j)∧Z6 w x ho' F1 (den (.o1 (.fst x y) e) r) l:=by
    rcases hho with rfl | rfl
    ·exact ⟨none,.inl rfl,hl⟩
    ·simp only [hj,if_true] at hl;exact ⟨some j,.inr rfl,hl⟩
   obtain ⟨ho',e2,hl'⟩:=hl'
   obtain ⟨F',h1,h2,h3,h4,h5⟩:=ihx (e:=.o1 (.fst x y) e) hu' e2 hv hn he hm hl'
   refine ⟨F'++F2,by simp;omega,?_,⟨h3,he⟩,?_,?_⟩
   ·simp only [Z6]
    exact ⟨F',F2,l.set j v,m,rfl,by rw [List.set_append_left _ _ h1],h2,hmm'⟩
   ·intro z hz
    rcases Y6.1 hz with hz | hz
    ·exact (h4 z hz).imp_left fun q=>Y3 _ q
    ·exact .inl (Y0 _ hz)
   ·intro hF hm2 hd
    obtain ⟨n1,n2,n3⟩:=Yp.1 hF
    refine Z4X (h5 n1 hm2 fun z hz=>hd z (Y3 _ hz)) n2 fun z hz hz2=>?_
    rcases h4 z hz with q | q
    ·exact n3 z q z hz2 rfl
    ·exact hd z (Y0 _ hz2) q
  ·rename_i hj
   obtain ⟨u',hu',rfl⟩:=Ya.1 hp
   have hl':Z6 w x none F1 (den (.o1 (.fst x y) e) r) l:=by
    rcases hho with rfl | rfl
    ·exact hl
    ·simp only [hj,if_false] at hl;exact hl
   have hmm':∃ho',(ho'=none∨ho'=some (j - x.size))∧Z6 w y ho' F2 (den (.o1 (.snd x y) e) r) m:=by
    rcases hho with rfl | rfl
    ·exact ⟨none,.inl rfl,hmm⟩
    ·simp only [hj,if_false] at hmm;exact ⟨some (j - x.size),.inr rfl,hmm⟩
   obtain ⟨ho',e2,hmm'⟩:=hmm'
   obtain ⟨F',h1,h2,h3,h4,h5⟩:=ihy (e:=.o1 (.snd x y) e) hu' e2 hv hn he hm hmm'
   refine ⟨F1++F',by simp;omega,?_,⟨he,h3⟩,?_,?_⟩
   ·simp only [Z6]
    exact ⟨F1,F',l,m.set (j - x.size) v,rfl,by rw [List.set_append_right _ _ (by omega),hll],hl',h2⟩
   ·intro z hz
    rcases Y6.1 hz with hz | hz
    ·exact .inl (Y3 _ hz)
    ·exact (h4 z hz).imp_left fun q=>Y0 _ q
   ·intro hF hm2 hd
    obtain ⟨n1,n2,n3⟩:=Yp.1 hF
    refine Z4X n1 (h5 n2 hm2 fun z hz=>hd z (Y0 _ hz)) fun z hz hz2=>?_
    rcases h4 z hz2 with q | q
    ·exact n3 z hz z q rfl
    ·exact hd z (Y3 _ hz) q
theorem Z5H (h:R bd N s r g a.tmps st w) {t:Ty} {j:Nat} {e u:E t} {cs:List Atom} {vs us:List Value} {F mv:List Nat} (hm:Z0y s.heap t j e cs=some u) (hv:Z8 w (Mt bd.Z s.heap g) g r cs vs) (hn:∀b∈cs,b.ok N s.heap) (he:e.vs N) (hmv:Zg s.heap cs=some mv)
  (hr:Z6 w t none F (den e r) us) :
  ∃F',j+vs.length≤us.length∧Z6 w t none F' (den u r) (splice us j vs)∧u.vs N∧(∀x∈F',x∈F∨x∈ZA g mv)∧(F.Nodup→(ZA g mv).Nodup→(∀x∈F,x∉ZA g mv)→F'.Nodup):=by
 have hl:=hr.len
 unfold Z0y at hm
 split at hm
 ·rename_i hc
  obtain ⟨hc1,rfl⟩:=hc
  split at hm
  case h_2=>cases hm
  rename_i u' hmk
  cases hm
  obtain ⟨ws,zs,m1,m2,q1,rfl,q2,q3,q4,q5,_,q7⟩:=Z5l h hmk hv hn hmv
  simp only [Zg,Y4] at q7
  subst q7
  have:zs=[]:=by cases zs with | nil=>rfl | cons _ _=>exact q5.elim
  subst this
  rw [Yx] at q1
  subst q1
  exact ⟨ZA g m1,by omega,by rw [Z5z (by omega)];exact q3,q4,fun x hx=>.inr (by simpa using hx),fun _ h2 _=>by simpa using h2⟩
 ·split at hm
  ·cases vs with
   | nil=>exact hv.elim
   | cons v vs =>
    cases vs with
    | cons _ _=>exact hv.2.elim
    | nil =>
     obtain ⟨F',h1,h2,h3,h4,h5⟩:=Z5G h hm (.inl rfl) hv.1 (hn _ (Y1.2 rfl)) he hmv hr
     exact ⟨F',by simp;omega,by rw [Z5y h1];exact h2,h3,h4,h5⟩
  ·cases hm
theorem Z5I (h:R bd N s r g a.tmps st w) {id:Nat} {ty:Ty} {B0:Blk} {n j:Nat} {t:TypeId} {x v:Operand} {mv:List Nat} (o:Oper) (ho:o.op=.store t x v) {i:TypeInfo} (hi:P.info? t=some i) {e e':E (.sl false ty)} {ho0:Nat→Option Nat} (hid:s.heap id=some B0) (hbox:∀l,B0≠.box l) (he':e'.vs N)
  {ov:Option Nat} {xs us:List Value} {Fs:List (List Nat)} {F':List Nat} {d':ty.D} (b1:Z5 w (g id).val ov ty.size (den e r:List ty.D).length xs) (b2:(g id).foot=ov.toList++Fs.flatten) (b3:Rws w (Mt bd.Z s.heap g) true ty ho0 Fs (den e r) xs)
  (hmv:Zg s.heap (s.get v).cells=some mv) (hidm:id∉mv) (hlt:n<(den e r:List ty.D).length) (hdn:(den e' r:List ty.D)=(den e r:List ty.D).set n d')
  (hx:∃p c,(g id).val=.slice (some p) (den e r:List ty.D).length c∧a.eval x=.pointer (some ⟨p.block,p.off+(n * ty.size+j),none⟩)) (hcl:(a.eval v).cells.toList.length=i.size) (hones:∀u∈(a.eval v).cells.toList,u.oneCell'=true)
  (a1:us.length=ty.size) (a2:∀j u,us[j]?=some u→xs[n * ty.size+j]?=some u) (q1:j+(a.eval v).cells.toList.length≤us.length) (q2:Z6 w ty none F' d' (splice us j (a.eval v).cells.toList))
  (q3:∀x∈F',x∈Fs.getD n []∨x∈ZA g mv) (q4:(Fs.getD n []).Nodup→(ZA g mv).Nodup→(∀x∈Fs.getD n [],x∉ZA g mv)→F'.Nodup) (hho:∀i,i≠n→ho0 i=none) :
  Good P bd N r st (execOp a.eval o) a.tmps w (.a .no) (((s.kills mv).unnest id).new id (.arr true ty e')):=by
 obtain ⟨p,c,h1,h5⟩:=hx
 have hn0:0<(den e r:List ty.D).length:=Nat.lt_of_le_of_lt (Yf _) hlt
 obtain ⟨hov,hps,_,_,_⟩:=b1.cells h1 hn0
 obtain ⟨j1,j2⟩:=Z5m hmv
 have hle:(n+1) * ty.size≤(den e r:List ty.D).length * ty.size:=Yk _ hlt
 rw [Nat.add_mul,Nat.one_mul] at hle
 obtain ⟨w',hrun,hown,hsame,hsz,hos,htp,hout⟩:=b1.put h1 hn0 (pos:=n * ty.size+j) (vs:=(a.eval v).cells.toList) (by omega) hones
 have hnd:=h.nodup id _ hid
 rw [b2] at hnd
 obtain ⟨n1,n2,n3⟩:=Yp.1 hnd
 have hfm:∀b∈(g id).foot,b∉ZA g mv:=by
  intro b hb hb'
  obtain ⟨k,hk,hbk⟩:=List.mem_flatMap.1 hb'
  obtain ⟨_,_,_,q⟩:=j2 k hk
  have:=h.inj id k _ _ b hid q hb hbk
  subst this
  exact hidm hk
 have hfeetnd:(ZA g mv).Nodup:=Z5n h j1 fun i hi=>by obtain ⟨_,_,_,q⟩:=j2 i hi;exact ⟨_,q⟩
 have hgetnd:(Fs.getD n []).Nodup:=by
  by_cases hlf:n<Fs.length
  ·rw [Z3c hlf]
   exact List.Nodup.sublist (List.sublist_flatten_of_mem (List.getElem_mem hlf)) n2
  ·rw [Y8,Yz (by omega)];exact List.nodup_nil
 have hF'nd:F'.Nodup:=q4 hgetnd hfeetnd fun b hb=>hfm b (by rw [b2];exact Y0 _ (Z0f hb))
 have hsame':∀b,b∉(g id).foot→w'.heap[b]?=w.heap[b]?:=fun b hb=>hsame b fun hh=>hb (by rw [b2,←hh];simp)
 have hnewflat:∀b∈(Fs.set n F').flatten,b∈Fs.flatten∨b∈ZA g mv:=by
  intro b hb
  rcases Z5E hb with q | q
  ·exact .inl q
  ·rcases q3 b q with q | q
   ·exact .inl (Z0f q)
   ·exact .inr q
 have hstay:∀b∈(Fs.set n F').flatten,w'.heap[b]?=w.heap[b]?:=by
  intro b hb
  refine hsame b fun hh=>?_
  rcases hnewflat b hb with q | q
  ·exact n3 b (by simp [←hh]) b q rfl
  ·exact hfm b (by rw [b2];exact Y3 _ (by simp [←hh])) q
 have hpoke:=h.poked (w':=w') mv id _ (.arr true ty e') ⟨(g id).blk,(g id).val,ov.toList++(Fs.set n F').flatten⟩ hid hidm rfl rfl (fun k hk l hl=>by obtain ⟨_,_,_,q⟩:=j2 k hk;rw [q] at hl;cases hl) (fun b _ hb _=>hsame' b hb) ?_ he' ?_ ?_ ?_ (by omega) hos htp hout
 ·refine ⟨undef,w',_,.inr ⟨?_,rfl⟩,hpoke,trivial,trivial⟩
  simp only [execOp,ho,h5]
  exact Z3w (hrun P t i _ hi rfl hcl)
 ·intro M' hk _
  refine Zy.2 ⟨ov,splice xs (n * ty.size+j) (a.eval v).cells.toList,Fs.set n F',?_,?_,?_⟩
  ·simp only [if_true]
   rw [hdn,YC]
   exact hown
  ·simp only [if_true]
  ·rw [hdn]
   exact Rws.keep hk hstay (b3.put (ho':=Zz) hlt a1 a2 (by omega) (by simp only [Zz,Row,if_true];exact q2) (fun i hi=>by simp [Zz,hho i hi]))
 ·refine Z4X n1 (Z5F n2 hF'nd fun b hb=>?_) fun b hb hb'=>?_
  ·rcases q3 b hb with q | q
   ·exact .inl q
   ·exact .inr fun hh=>hfm b (by rw [b2];exact Y0 _ hh) q
  ·rcases hnewflat b hb' with q | q
   ·exact n3 b hb b q rfl
   ·exact hfm b (by rw [b2];exact Y3 _ hb) q
 ·intro b hb
  rcases Y6.1 hb with hb | hb
  ·exact .inr (.inl (by rw [b2];exact Y3 _ hb))
  ·rcases hnewflat b hb with q | q
   ·exact .inr (.inl (by rw [b2];exact Y0 _ q))
   ·obtain ⟨k,hk,hbk⟩:=List.mem_flatMap.1 q
    obtain ⟨_,_,_,q⟩:=j2 k hk
    exact .inr (.inr ⟨k,_,hk,q,hbk⟩)
 ·intro c hc hcid
  obtain ⟨_,l,hl⟩:=h.kpl c hc
  rw [hcid,hid] at hl
  cases hl
  exact absurd rfl (hbox l)
theorem Z5J (h:R bd N s r g a.tmps st w) {id:Nat} {ty:Ty} {k:IntKind} {ix:E (.int k)} {j:Nat} {t:TypeId} {x v:Operand} {mv:List Nat} (o:Oper) (ho:o.op=.store t x v) {i:TypeInfo} (hi:P.info? t=some i) (hmv:Zg s.heap (s.get v).cells=some mv)
  (hx:Z7 w (Mt bd.Z s.heap g) g r (.eptr id ty k ix j) (a.eval x)) (hix:ix.vs N) {gs:List (E .bool)} {sv:SV} {s':St} (hs:Z0A s i.size id ty k ix j v mv=some (gs,sv,s')):Good P bd N r st (execOp a.eval o) a.tmps w sv s':=by
 unfold Z0A at hs
 split at hs
 case h_2=>cases hs
 rename_i ty' e hid
 split at hs
 case isFalse=>cases hs
 rename_i hty
 subst hty
 split at hs
 case isFalse=>cases hs
 rename_i hc
 obtain ⟨c1,c3,c2⟩:=hc
 split at hs
 case h_2=>cases hs
 rename_i u hu'
 obtain ⟨-,rfl,rfl⟩:=Z3T hs
 obtain ⟨hvr,hvn⟩:=Z3m h v
 obtain ⟨p,n,c,h1,h2,h3,h4,h5⟩:=hx
 obtain ⟨ov,xs,Fs,b1,b2,b3⟩:=Zy.1 (h.heap id _ hid)
 have hn0:0<n:=Nat.lt_of_le_of_lt (Yf _) h4
 obtain ⟨hov,hps,hnn,_,_⟩:=b1.cells h1 hn0
 have hlt:Int.toNat (den ix r)<(den e r:List ty'.D).length:=by rw [←hnn];exact h4
 obtain ⟨us,a1,a2,a3⟩:=b3.row _ hlt
 simp only [Row,if_true] at a3
 have hd:den (.o2 (.idx false ty' k) e ix) r=(den e r:List ty'.D)[Int.toNat (den ix r)]:=by rw [Z3b];exact Z3c hlt
 rw [←hd] at a3
 have hne:(s.get v).cells≠[]:=by
  intro h0
  rw [h0] at hu'
  simp only [Z0y] at hu'
  split at hu'
  ·rename_i hh;have:=ty'.size_pos;simp at hh;omega
  ·cases hu'
 have hcells:=Z4x h hvr hvn (Z4y c3 hne)
 have hones:=Z4v h hcells (SV.cells_all hvn) c3
 obtain ⟨F',q1,q2,q3,q4,q5⟩:=Z5H h hu' hcells (SV.cells_all hvn) ⟨h.nheap id _ hid,hix⟩ hmv a3
 exact Z5I h o ho hi (e':=.o3 (.set ty' k) e ix u) hid (by simp) ⟨h.nheap id _ hid,hix,q3⟩ b1 b2 b3 hmv (by simpa using c2) hlt (Z5C e ix u) ⟨p,c,by rw [h1,hnn],h5⟩ (by rw [←hcells.length];exact c1) hones a1 a2 q1 q2 q4 q5 (fun _ _=>rfl)
end
end Go.Sm
namespace Go.Sm
section
variable {P:Program} {bd:Bd} {N:Nat→Prop} {s:St} {r:Env} {g:Nat→G} {st:List (Array Value)} {w:World} {a:Act}
theorem Z5K (h:R bd N s r g a.tmps st w) {id:Nat} {ty:Ty} {k:IntKind} {ix:E (.int k)} {j:Nat} {t:TypeId} {x v:Operand} {mv:List Nat} (o:Oper) (ho:o.op=.store t x v) {i:TypeInfo} (hi:P.info? t=some i) (hmv:Zg s.heap (s.get v).cells=some mv)
  (hx:Z7 w (Mt bd.Z s.heap g) g r (.eptr id ty k ix j) (a.eval x)) (hix:ix.vs N) {gs:List (E .bool)} {sv:SV} {s':St} (hs:Z0B s i.size id ty k ix j v mv=some (gs,sv,s')) (hg:∀c∈gs,den c r=true):Good P bd N r st (execOp a.eval o) a.tmps w sv s':=by
 unfold Z0B at hs
 split at hs
 case h_2=>cases hs
 rename_i ty' e k' ix' j' ha0 hid
 split at hs
 case isFalse=>cases hs
 rename_i hty
 subst hty
 split at hs
 case isFalse=>cases hs
 rename_i hc
 obtain ⟨rfl,c0,c1,c3,c2⟩:=hc
 split at hs
 case h_2=>cases hs
 rename_i u hu'
 simp only [Y4,Y9] at hs
 obtain ⟨rfl,rfl,rfl⟩:=hs
 have heq:Int.toNat (den ix r)=Int.toNat (den ix' r):=by
  have h3:∀{k k':IntKind} (x:Int) (y:Int),((⟨.int k,x⟩:AV)=⟨.int k',y⟩)→x=y:=by
   intro k k' x y hxy;cases hxy;rfl
  by_cases he:eqE ix ix'=true
  ·exact congrArg Int.toNat (h3 _ _ (Z3A r ix ix' he))
  ·have:=hg (.o2 (.cm .eql k k') ix ix') (by simp [he])
   simp only [den,O2.d,cmI,beq_iff_eq] at this
   exact congrArg Int.toNat this
 obtain ⟨hvr,hvn⟩:=Z3m h v
 obtain ⟨p,n,c,h1,h2,h3,h4,h5⟩:=hx
 rw [heq] at h4 h5
 obtain ⟨ov,xs,Fs,b1,b2,b3⟩:=Zy.1 (h.heap id _ hid).1
 have hn0:0<n:=Nat.lt_of_le_of_lt (Yf _) h4
 obtain ⟨hov,hps,hnn,_,_⟩:=b1.cells h1 hn0
 have hlt:Int.toNat (den ix' r)<(den e r:List ty'.D).length:=by rw [←hnn];exact h4
 obtain ⟨us,a1,a2,a3⟩:=b3.row _ hlt
 simp only [Row,if_true] at a3
 have hd:den (.o2 (.idx false ty' k') e ix') r=(den e r:List ty'.D)[Int.toNat (den ix' r)]:=by rw [Z3b];exact Z3c hlt
 rw [←hd] at a3
 obtain ⟨b,hb⟩:=List.length_eq_one_iff.1 c1
 have hatom:(s.get v).atom=b∧Z7 w (Mt bd.Z s.heap g) g r b (a.eval v)∧b.ok N s.heap∨∃cs,s.get v=.agg [b]∧cs=a.eval v:=by
  cases hsv:s.get v with
  | a y=>rw [hsv] at hb hvr hvn;simp only [SV.cells,List.cons.injEq,and_true] at hb;subst hb;exact .inl ⟨rfl,hvr,hvn⟩
  | agg l=>rw [hsv] at hb;simp only [SV.cells] at hb;subst hb;exact .inr ⟨_,rfl,rfl⟩
  | tup l=>rw [hsv] at hb;simp [SV.cells] at hb
 have hne:(s.get v).cells≠[]:=by rw [hb];simp
 have hcells:=Z4x h hvr hvn (Z4y c3 hne)
 have hones:=Z4v h hcells (SV.cells_all hvn) c3
 rw [hb] at hcells hmv
 rcases hatom with ⟨e1,e2,e3⟩ | ⟨cs,e1,_⟩
 ·rw [e1] at hu'
  obtain ⟨F',q1,q2,q3,q4,q5⟩:=Z5G h hu' (ho:=some j') (.inr rfl) e2 e3 ⟨h.nheap id _ hid |>.1,(h.nheap id _ hid).2.1⟩ hmv a3
  have hcl:(a.eval v).cells.toList=[a.eval v]:=by
   have:(a.eval v).oneCell'=true:=by
    refine Z4u h e2 e3 ?_
    rw [hb] at c3
    simpa using c3
   rw [Z4w this]
  have hcl1:(a.eval v).cells.toList.length=1:=by rw [hcl];rfl
  exact Z5I h o ho hi (mv:=mv) (e:=e) (e':=.o3 (.set ty' k') e ix' u) hid (by simp) ⟨(h.nheap id _ hid).1,(h.nheap id _ hid).2.1,q3⟩ b1 b2 b3 (by rw [hb];exact hmv) (by simpa using c2) hlt (Z5C e ix' u) ⟨p,c,by rw [h1,hnn],h5⟩ (by rw [hcl1];exact c0.symm) hones a1 a2 (by rw [hcl1];omega) (by rw [hcl,Z5y q1];exact q2) q4 q5 (fun i hi=>by simp [hi])
 ·rw [e1] at hu'
  simp only [SV.atom] at hu'
  exfalso
  have:∀{t:Ty} {j:Nat} {e u:E t},Z0u s.heap t j e .no=some u→False:=by
   intro t
   induction t with
   | pr x y ihx ihy =>
    intro j e u hp
    simp only [Z0u] at hp
    split at hp
    ·obtain ⟨u',hu',_⟩:=Ya.1 hp;exact ihx hu'
    ·obtain ⟨u',hu',_⟩:=Ya.1 hp;exact ihy hu'
   | _=>intro j e u hp;cases j<;>simp [Z0u,Atom.toE] at hp
  exact this hu'
theorem Z6.flat {M:Nat→Prop} {w':World}:∀{t:Ty} {F:List Nat} {d:t.D} {us:List Value},t.hasSl=false→Z6 w t none F d us→F=[]∧Rep w' M t d us:=by
 intro t
 induction t with
 | int k=>intro F d us _ h;simp only [Z6] at h;exact ⟨h.1,by simpa [Rep] using h.2⟩
 | bool=>intro F d us _ h;simp only [Z6] at h;exact ⟨h.1,by simpa [Rep] using h.2⟩
 | str=>intro F d us _ h;simp only [Z6] at h;exact ⟨h.1,by simpa [Rep] using h.2⟩
 | sl c e ih=>intro F d us h;simp [Ty.hasSl] at h
 | pr s t ihs iht =>
  intro F d us h hr
  simp only [Ty.hasSl,Bool.or_eq_false_iff] at h
  simp only [Z6] at hr
  obtain ⟨F1,F2,l,m,rfl,rfl,h2,h3⟩:=hr
  obtain ⟨p1,p2⟩:=ihs h.1 h2
  obtain ⟨q1,q2⟩:=iht h.2 h3
  exact ⟨by simp [p1,q1],l,m,rfl,p2,q2⟩
theorem Z5L {h0:Nat→Option Blk} {u:Ty} (hu:u.hasSl=false):∀{t:Ty} {j:Nat} {e e2:E t} {l l2:E (.sl false u)} {F:List Nat} {us:List Value},Zd t j e=some ⟨.sl false u,l⟩→Z0u h0 t j e (.x (.sl false u) l2)=some e2→Z6 w t none F (den e r) us →
  ∃v o xs,us[j]?=some v∧Z5 w v o u.size (den l r:List u.D).length xs∧Rws w (fun _=>False) false u Zz (List.replicate (den l r:List u.D).length []) (den l r) xs∧(∀b,o=some b→b∈F) ∧
   (∀w' xs',(∀b∈F,some b≠o→w'.heap[b]?=w.heap[b]?)→F.Nodup→Z5 w' v o u.size (den l2 r:List u.D).length xs'→Rws w' (fun _=>False) false u Zz (List.replicate (den l2 r:List u.D).length []) (den l2 r) xs'→Z6 w' t none F (den e2 r) us) ∧
   (e.vs N→l2.vs N→e2.vs N)∧(e.vs N→l.vs N):=by
 intro t
 induction t with
 | int k=>intro j e e2 l l2 F us hp;cases j<;>simp [Zd] at hp
 | bool=>intro j e e2 l l2 F us hp;cases j<;>simp [Zd] at hp
 | str=>intro j e e2 l l2 F us hp;cases j<;>simp [Zd] at hp
 | sl c e' ih =>
  intro j e e2 l l2 F us hp hc hr
  cases j with
  | succ j=>simp [Zd] at hp
  | zero =>
   simp only [Zd,Y4,Sigma.mk.injEq] at hp
   obtain ⟨hty,hl⟩:=hp
   cases hty
   have hl:=eq_of_heq hl
   subst hl
   simp only [Z0u,Atom.toE] at hc
   have:=Z4T hc
   subst this
   simp only [Z6] at hr
   rw [if_neg (by simp)] at hr
   obtain ⟨v,o,xs,Fs,rfl,h2,h3,rfl,h5,h6⟩:=hr
   have hFs:Fs.flatten=[]:=by
    apply List.flatten_eq_nil_iff.2
    intro G hG
    obtain ⟨i,hi,rfl⟩:=List.getElem_of_mem hG
    obtain ⟨cs,_,_,q⟩:=h6 i (by rw [←h5];exact hi)
    have:=(q.flat (M:=fun _=>False) (w':=w) hu).1
    rwa [Z3c hi] at this
   refine ⟨v,o,xs,rfl,h2,⟨by simp,h2.1,fun i hi=>?_⟩,fun b hb=>by simp [hb],?_,fun _ h=>h,fun h=>h⟩
   ·obtain ⟨cs,q1,q2,q3⟩:=h6 i hi
    exact ⟨cs,q1,q2,by simp only [Row,Yg,if_false];exact ⟨by simp [Y8,hi],(q3.flat hu).2⟩⟩
   ·intro w' xs' _ _ hown hrws
    simp only [Z6]
    rw [if_neg (by simp)]
    refine ⟨v,o,xs',List.replicate (den e2 r:List u.D).length [],rfl,hown,by simp,by rw [hFs,Z4R],by simp,fun i hi=>?_⟩
    obtain ⟨us,q1,q2,q3⟩:=hrws.row i hi
    simp only [Row,Yg,if_false] at q3
    refine ⟨us,q1,q2,?_⟩
    have:(List.replicate (den e2 r:List u.D).length ([]:List Nat)).getD i []=[]:=by simp [Y8,hi]
    rw [this]
    exact q3.2.deep hu
 | pr x y ihx ihy =>
  intro j e e2 l l2 F us hp hc hr
  simp only [Zd] at hp
  simp only [Z0u] at hc
  simp only [Z6] at hr
  obtain ⟨F1,F2,m1,m2,rfl,rfl,hl,hm⟩:=hr
  have hll:=hl.len
  split at hp
  ·rename_i hj
   rw [if_pos hj] at hc
   obtain ⟨e3,hc',rfl⟩:=Ya.1 hc
   obtain ⟨v,o,xs,q1,q2,q3,q4,q5,q6,q7⟩:=ihx (e:=.o1 (.fst x y) e) hp hc' hl
   refine ⟨v,o,xs,by rw [Yw (by omega)];exact q1,q2,q3,fun b hb=>Y3 _ (q4 b hb),?_,fun h1 h2=>⟨q6 h1 h2,h1⟩,q7⟩
   intro w' xs' hw hnd hown hrws
   obtain ⟨n1,n2,n3⟩:=Yp.1 hnd
   simp only [Z6]
   refine ⟨F1,F2,m1,m2,rfl,rfl,q5 w' xs' (fun b hb=>hw b (Y3 _ hb)) n1 hown hrws,Z6.keep (fun b hb=>hw b (Y0 _ hb) fun ho=>?_) hm⟩
   exact n3 b (q4 b ho.symm) b hb rfl
  ·rename_i hj
   rw [if_neg hj] at hc
   obtain ⟨e3,hc',rfl⟩:=Ya.1 hc
   obtain ⟨v,o,xs,q1,q2,q3,q4,q5,q6,q7⟩:=ihy (e:=.o1 (.snd x y) e) hp hc' hm
   refine ⟨v,o,xs,by rw [Yt (by omega),hll];exact q1,q2,q3,fun b hb=>Y0 _ (q4 b hb),?_,fun h1 h2=>⟨h1,q6 h1 h2⟩,q7⟩
   intro w' xs' hw hnd hown hrws
   obtain ⟨n1,n2,n3⟩:=Yp.1 hnd
   simp only [Z6]
   refine ⟨F1,F2,m1,m2,rfl,rfl,Z6.keep (fun b hb=>hw b (Y3 _ hb) fun ho=>?_) hl,q5 w' xs' (fun b hb=>hw b (Y0 _ hb)) n2 hown hrws⟩
   exact n3 b hb b (q4 b ho.symm) rfl
theorem Rws.flatW {M M':Nat→Prop} {w':World} {t:Ty} {Fs:List (List Nat)} {ds:List t.D} {xs:List Value} (ht:t.hasSl=false) (h:Rws w M false t Zz Fs ds xs):Rws w' M' false t Zz Fs ds xs :=
 ⟨h.lf,h.lx,fun i hi=>by
  obtain ⟨us,a1,a2,a3⟩:=h.row i hi
  refine ⟨us,a1,a2,?_⟩
  simp only [Row,Yg,if_false] at a3 ⊢
  exact ⟨a3.1,a3.2.flat ht⟩⟩
theorem Z5M (s:St) (h':Nat→Option Blk):(⟨s.cur.map (SV.map fun a=>a),s.stk.map (List.map (SV.map fun a=>a)),h',s.base,s.np,s.kp⟩:St)={ s with heap:=h' }:=by
 cases s with
 | mk cur stk heap base np kp =>
  simp only [St.mk.injEq,and_true,true_and]
  refine ⟨?_,?_⟩
  ·rw [Ys (g:=id) fun v _=>SV.map_id _ (fun _=>rfl) v];simp
  ·rw [Ys (g:=id) fun l _=>by rw [Ys (g:=id) fun v _=>SV.map_id _ (fun _=>rfl) v];simp];simp
theorem Z5N {α:Type} (n k:Nat) (x:α):(List.replicate n x).set k x=List.replicate n x:=by
 apply List.ext_getElem?
 intro i
 rw [YM]
 split
 ·rename_i h
  subst h
  simp only [Yy]
  split
  ·rename_i h2;simp [h2]
  ·rename_i h2;simp [h2]
 ·rfl
set_option maxHeartbeats 1000000 in
theorem Z5O (h:R bd N s r g a.tmps st w) {id:Nat} {ty:Ty} {k:IntKind} {ix:E (.int k)} {j:Nat} {u:Ty} {k':IntKind} {ix':E (.int k')} {j':Nat} {t:TypeId} {x v:Operand} (o:Oper) (ho:o.op=.store t x v) {i:TypeInfo} (hi:P.info? t=some i)
  (hx:Z7 w (Mt bd.Z s.heap g) g r (.nptr id ty k ix j u k' ix' j') (a.eval x)) (hxn:ix.vs N∧ix'.vs N) {gs:List (E .bool)} {sv:SV} {s':St} (hs:Z0C s i.size id ty k ix j u k' ix' j' v=some (gs,sv,s')):Good P bd N r st (execOp a.eval o) a.tmps w sv s':=by
 unfold Z0C at hs
 split at hs
 case h_2=>cases hs
 rename_i ty' e hid
 split at hs
 case isFalse=>cases hs
 rename_i hty
 subst hty
 split at hs
 case h_2=>cases hs
 rename_i u' l hpr
 split at hs
 case isFalse=>cases hs
 rename_i huu
 subst huu
 split at hs
 case isFalse=>cases hs
 rename_i hc
 obtain ⟨hu,c1,c3⟩:=hc
 split at hs
 case h_2=>cases hs
 rename_i c hnew
 split at hs
 case h_2=>cases hs
 rename_i rr hput
 obtain ⟨-,rfl,rfl⟩:=Z3T hs
 obtain ⟨hvr,hvn⟩:=Z3m h v
 have hne:(s.get v).cells≠[]:=by
  intro h0
  rw [h0] at hnew
  simp only [Z0y] at hnew
  split at hnew
  ·rename_i hh;have:=u'.size_pos;simp at hh;omega
  ·cases hnew
 have hcells:=Z4x h hvr hvn (Z4y c3 hne)
 have hones:=Z4v h hcells (SV.cells_all hvn) c3
 obtain ⟨p,n,cc,q,n',c',h1,h2,h3,h4,h5,h6,h7,h8,h9⟩:=hx
 obtain ⟨ov,xs,Fs,b1,b2,b3⟩:=Zy.1 (h.heap id _ hid)
 have hn0:0<n:=Nat.lt_of_le_of_lt (Yf _) h4
 obtain ⟨hov,hps,hnn,_,hcell⟩:=b1.cells h1 hn0
 have hlt:Int.toNat (den ix r)<(den e r:List ty'.D).length:=by rw [←hnn];exact h4
 obtain ⟨us,a1,a2,a3⟩:=b3.row _ hlt
 simp only [Row,if_true] at a3
 have hd:den (.o2 (.idx false ty' k) e ix) r=(den e r:List ty'.D)[Int.toNat (den ix r)]:=by rw [Z3b];exact Z3c hlt
 rw [←hd] at a3
 have hevs:(E.o2 (.idx false ty' k) e ix).vs N:=⟨h.nheap id _ hid,hxn.1⟩
 obtain ⟨vv,oo,zs,q1,q2,q3,q4,q5,q6,q7⟩:=Z5L hu hpr hput a3
 have hvv:vv=.slice (some q) n' c':=by
  have:=hcell _ _ (a2 j vv q1)
  rw [this] at h5
  exact Option.some.inj h5
 have hn1:0<n':=Nat.lt_of_le_of_lt (Yf _) h8
 obtain ⟨hoo,hqs,hnn',_,_⟩:=q2.cells hvv hn1
 have hlt':Int.toNat (den ix' r)<(den l r:List u'.D).length:=by rw [←hnn'];exact h8
 obtain ⟨us2,d1,d2,d3⟩:=q3.row _ hlt'
 simp only [Row,Yg,if_false] at d3
 have hd':den (.o2 (.idx false u' k') l ix') r=(den l r:List u'.D)[Int.toNat (den ix' r)]:=by rw [Z3b];exact Z3c hlt'
 have hrow2:Rep w (Mt bd.Z s.heap g) u' (den (.o2 (.idx false u' k') l ix') r) us2:=by rw [hd'];exact d3.2.flat hu
 obtain ⟨f1,f2,f3⟩:=Z5B h hnew hcells (SV.cells_all hvn) ⟨q7 hevs,hxn.2⟩ (by simp [Z0x,hu]) hrow2
 have hle:(Int.toNat (den ix' r)+1) * u'.size≤(den l r:List u'.D).length * u'.size:=Yk _ hlt'
 rw [Nat.add_mul,Nat.one_mul] at hle
 obtain ⟨w',hrun,hown,hsame,hsz,hos,htp,hout⟩:=q2.put hvv hn1 (pos:=Int.toNat (den ix' r) * u'.size+j') (vs:=(a.eval v).cells.toList) (by omega) hones
 have hnd:=h.nodup id _ hid
 rw [b2] at hnd
 obtain ⟨n1,n2,n3⟩:=Yp.1 hnd
 have hFi:∀b,b∈Fs.getD (Int.toNat (den ix r)) []→b∈Fs.flatten:=fun b hb=>Z0f hb
 have hlf:Int.toNat (den ix r)<Fs.length:=by rw [b3.lf];exact hlt
 have hFind:(Fs.getD (Int.toNat (den ix r)) []).Nodup:=by
  rw [Z3c hlf]
  exact List.Nodup.sublist (List.sublist_flatten_of_mem (List.getElem_mem hlf)) n2
 have hoF:q.block∈Fs.getD (Int.toNat (den ix r)) []:=q4 _ hoo
 have hown0:∀b,ov=some b→w'.heap[b]?=w.heap[b]?:=fun b hb=>hsame b fun hh=>by
  rw [hoo] at hh
  cases hh
  exact n3 _ (by simp [hb]) _ (hFi _ hoF) rfl
 have hsame':∀b,b∉(g id).foot→w'.heap[b]?=w.heap[b]?:=fun b hb=>hsame b fun hh=>hb (by
  rw [hoo] at hh
  cases hh
  rw [b2];exact Y0 _ (hFi _ hoF))
 have hothers:∀m,m≠Int.toNat (den ix r)→∀b∈Fs.getD m [],w'.heap[b]?=w.heap[b]?:=by
  intro m hm b hb
  refine hsame b fun hh=>?_
  rw [hoo] at hh
  cases hh
  have:∀(Fs:List (List Nat)) (m n:Nat) (x:Nat),Fs.flatten.Nodup→m≠n→x∈Fs.getD m []→x∉Fs.getD n []:=by
   intro Fs
   induction Fs with
   | nil=>intro m n x _ _ hx;simp at hx
   | cons G Gs ih =>
    intro m n x hnd hmn hx hx'
    simp only [List.flatten_cons] at hnd
    obtain ⟨z1,z2,z3⟩:=Yp.1 hnd
    cases m with
    | zero =>
     cases n with
     | zero=>exact hmn rfl
     | succ n=>exact z3 x (by simpa using hx) x (Z0f (i:=n) (by simpa using hx')) rfl
    | succ m =>
     cases n with
     | zero=>exact z3 x (by simpa using hx') x (Z0f (i:=m) (by simpa using hx)) rfl
     | succ n=>exact ih m n x z2 (by omega) (by simpa using hx) (by simpa using hx')
  exact this Fs _ _ _ n2 hm hb hoF
 have hnewrow:Z6 w' ty' none (Fs.getD (Int.toNat (den ix r)) []) (den rr r) us:=by
  refine q5 w' (splice zs (Int.toNat (den ix' r) * u'.size+j') (a.eval v).cells.toList) (fun b hb ho=>hsame b ho) hFind ?_ ?_
  ·have e1:(den (.o3 (.set u' k') l ix' c) r:List u'.D).length=(den l r:List u'.D).length:=by rw [Z5C,YC]
   rw [e1];exact hown
  ·have e1:(den (.o3 (.set u' k') l ix' c) r:List u'.D)=(den l r:List u'.D).set (Int.toNat (den ix' r)) (den c r):=Z5C l ix' c
   rw [e1,YC]
   have:=(q3.put (ho':=Zz) (d:=den c r) (F:=[]) (vs:=(a.eval v).cells.toList) (j:=j') hlt' d1 d2 (by omega) (by simp only [Zz,Row,Yg,if_false];exact ⟨trivial,f2.flat hu⟩) (fun _ _=>rfl)).flatW (w':=w') (M':=fun _=>False) hu
   rw [Z5N] at this
   exact this
 have main:=h.replace (w':=w') (g':=g) (fun a=>a) (upd s.heap id (some (.arr true ty' (.o3 (.set ty' k) e ix rr)))) s.base (fun m=>m=id) ?_ ?_ ?_ ?_ ?_ (by omega) hos htp hout ?_ (fun _ _ _=>⟨rfl,rfl⟩)
 ·refine ⟨undef,w',g,.inr ⟨?_,rfl⟩,?_,trivial,trivial⟩
  ·simp only [execOp,ho,h9]
   exact Z3w (hrun P t i _ hi rfl (by rw [←hcells.length];exact c1))
  ·rw [Z5M] at main
   exact main.1
 ·intro b hb
  refine .inr ⟨rfl,fun m hm ht=>?_⟩
  subst ht
  refine ⟨by simp [upd],rfl,rfl,fun _=>⟨rfl,fun p' n'' c'' hv' _=>?_⟩⟩
  rw [h1] at hv'
  cases hv'
  exact hown0 _ hov
 ·intro m hm
  have h1:(m==id)=false:=by simpa using hm
  refine ⟨?_,rfl⟩
  simp only [upd,h1,cond_false]
  cases s.heap m<;>simp [Blk.map_id _ fun _=>rfl]
 ·intro b hb hT
  exact hsame' b (hT id _ rfl hid)
 ·intro m B hm hB
  subst hm
  simp only [upd,beq_self_eq_true,cond_true,Y4] at hB
  subst hB
  refine ⟨fun hk=>Zy.2 ⟨ov,xs,Fs,?_,b2,?_⟩,⟨h.nheap _ _ hid,hxn.1,q6 hevs ⟨q7 hevs,hxn.2,f3⟩⟩,h.nodup _ _ hid,fun b hb=>.inr ⟨_,_,rfl,hid,hb⟩⟩
  ·rw [Z5C,YC]
   exact b1.keep hown0
  ·rw [Z5C]
   refine ⟨by rw [b3.lf,YC],by rw [b3.lx,YC],fun m hm=>?_⟩
   simp only [YC] at hm
   by_cases hmi:m=Int.toNat (den ix r)
   ·subst hmi
    refine ⟨us,a1,a2,?_⟩
    rw [List.getElem_set_self]
    simp only [Row,if_true,Zz]
    exact hnewrow
   ·obtain ⟨us',g1,g2,g3⟩:=b3.row m hm
    refine ⟨us',g1,g2,?_⟩
    rw [List.getElem_set_ne (Ne.symm hmi)]
    simp only [Row,if_true] at g3 ⊢
    exact g3.keep (hothers m hmi)
 ·intro m m' B C b hm hm' _ _ _ _
  rw [hm,hm']
 ·intro c hc hcid
  obtain ⟨_,l,hl⟩:=h.kpl c hc
  rw [hcid,hid] at hl
  cases hl
end
end Go.Sm
