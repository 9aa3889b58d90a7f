/- A machine over symbols for loaded functions, and that it tells the truth; no condition. -/
import Derived.Test.YtdgpohclhppodaaGreatSmLib3
import Derived.Test.YtdgpohclhppodaaGreatSmLib2
import Derived.WalkKit
import Derived.ProofKit
import Derived.OpenShut
import Derived.ShutString
import Derived.ChangeOld
import Derived.Below
import Derived.SizedLaws
set_option linter.unusedSimpArgs false
set_option linter.unusedVariables false
namespace Go.Sm
def pack (vs:List Value):Value:=if h:vs.toArray.size=1 then vs.toArray[0] else .tuple vs.toArray
def Zag (P:Program) (f:FuncId) (sig:Sig) (ins outs:List AV):Prop :=
 Enters P f∧outs.length=sig.outs∧∀(bd:Bd) (g:Nat→G) (args:List Value) (w:World),R bd (·<shN sig.ps) sig.ini1 (Z1 ins) g args.toArray [] w→bd.w0=w →
  Calls P f args.toArray w fun e w'=>∃vals g',e=.returned (pack vals)∧R bd (·<sig.outs) sig.fin (Z1 outs) g' vals.toArray [] w'
def KOK (c:Cx) (K:Z4):Prop:=∀f sig ins outs,c.sg f=some sig→K f ins=some outs→Zag c.P f sig ins outs
section
variable {bd:Bd} {N:Nat→Prop} {s:St} {r r':Env} {g:Nat→G} {tm:Array Value} {st:List (Array Value)} {w:World}
theorem R.env (h:R bd N s r g tm st w) (hr:∀i,N i→r' i=r i):R bd N s r' g tm st w:=by
 have hk:Kept w (Mt bd.Z s.heap g) w (Mt bd.Z s.heap g):=Kept.refl _ _
 have ha:∀a v,a.ok N s.heap→Z7 w (Mt bd.Z s.heap g) g r a v→Z7 w (Mt bd.Z s.heap g) g r' a v:=fun a v ha hv=>Z7.keep hk hr ha.vs (fun _ _=>⟨rfl,rfl⟩) (fun _ _ _=>⟨rfl,fun _ _ _ _ _=>rfl⟩) hv
 have h1:=h.step (g':=g) (w':=w) (N':=N) (r':=r') id s.heap s.base ha (fun a ha=>ha) (fun i B hB=>?_) h.inj h.nodup h.own h.lt h.world h.kept (fun _ _=>⟨rfl,rfl⟩) (fun c hc=>(h.kpl c hc).2) h.nheap
 ·have e1:s.cur.map (SV.map id)=s.cur:=by rw [Ys (fun v _=>SV.map_id id (fun _=>rfl) v)];simp
  have e2:s.stk.map (List.map (SV.map id))=s.stk:=by
   rw [Ys (g:=fun l=>l) (fun l _=>by rw [Ys (fun v _=>SV.map_id id (fun _=>rfl) v)];simp)];simp
  rw [e1,e2] at h1
  exact h1
 ·have:=(h.heap i B hB).keep (f:=id) (h0:=s.heap) hk hr ha (h.nheap i B hB) rfl (fun b _=>rfl)
  rwa [Blk.map_id id (fun _=>rfl)] at this
theorem Zah:∀{l:List (Nat×Option Nat)} {k k' i:Nat},nodupB (l.filterMap (·.2))=true→(k,some i)∈l→(k',some i)∈l→k=k'
 | (a,x)::l,k,k',i,hn,h,h'=>by
  have hmem:∀{q},(q,some i)∈l→i∈l.filterMap (·.2):=fun hq=>YO.2 ⟨_,hq,rfl⟩
  cases x with
  | none =>
   simp only [List.filterMap_cons] at hn
   rcases Yl.1 h with h | h
   ·cases h
   ·rcases Yl.1 h' with h' | h'
    ·cases h'
    ·exact Zah hn h h'
  | some y =>
   simp only [List.filterMap_cons,nodupB,Y5,Yr,YN,YH] at hn
   rcases Yl.1 h with h1 | h1
   ·cases h1
    rcases Yl.1 h' with h2 | h2
    ·cases h2;rfl
    ·exact (hn.1 (hmem h2)).elim
   ·rcases Yl.1 h' with h2 | h2
    ·cases h2;exact (hn.1 (hmem h1)).elim
    ·exact Zah hn.2 h1 h2
theorem Zai:∀{l:List (Nat×Blk)} {k:Nat} {B:Blk},nodupB (l.map (·.1))=true→(k,B)∈l→look l k=some B
 | (i,b)::l,k,B,hn,h=>by
  simp only [List.map_cons,nodupB,Y5,Yr,YN,YH] at hn
  unfold look
  rcases Yl.1 h with h | h
  ·cases h;simp
  ·have:(i==k)=false:=by
    simp only [beq_eq_false_iff_ne,ne_eq]
    rintro rfl
    exact hn.1 (Yo.2 ⟨_,h,rfl⟩)
   rw [this]
   exact Zai hn.2 h
theorem Zaj {ψ:Nat→Nat} {φ:Nat×Blk→Blk} {l:List (Nat×Blk)} {p q:Nat} {B C:Blk} (hn:nodupB ((l.map fun x=>(ψ x.1,φ x)).map (·.1))=true) (h:(p,B)∈l) (h':(q,C)∈l) (he:ψ p=ψ q):p=q∧B=C:=by
 induction l with
 | nil=>cases h
 | cons x l ih =>
  simp only [List.map_cons,nodupB,Y5,Yr,YN,YH] at hn
  have hmem:∀{q C},(q,C)∈l→ψ q∈(l.map fun x=>(ψ x.1,φ x)).map (·.1):=fun hq=>Yo.2 ⟨_,Yo.2 ⟨_,hq,rfl⟩,rfl⟩
  rcases Yl.1 h with h | h
  ·rcases Yl.1 h' with h' | h'
   ·have hh:(p,B)=(q,C):=h.trans h'.symm
    exact ⟨congrArg Prod.fst hh,congrArg Prod.snd hh⟩
   ·rw [←h] at hn
    exact (hn.1 (he▸hmem h')).elim
  ·rcases Yl.1 h' with h' | h'
   ·rw [←h'] at hn
    exact (hn.1 (he▸hmem h)).elim
   ·exact ih hn.2 h h'
theorem Zak {a:Atom} {i:Nat} (h:a.uses i=true):i∈a.ids:=by
 cases a<;>simp only [Atom.uses,beq_iff_eq,Yg,YQ,Atom.ids,Y1] at h ⊢<;>try exact h.symm
 obtain ⟨c,hc,rfl⟩:=h
 exact Yo.2 ⟨c,hc,rfl⟩
theorem Zal {a:Act} (h:R bd N s r g a.tmps st w) {sig:Sig} {ops:List Operand} {o:MO} (hm:Z1X s.heap 0 0 sig.ps (ops.map s.get)=some o) (hok:o.ok=true) (hnb:nodupB ((shB 0 0 sig.ps).map (·.1))=true) (hg:∀c∈o.gs,den c r=true) :
  R ⟨fun b=>∃i∈o.ids,b∈(g i).foot,w,(List.range (Zl sig.ps)).map (ZD (Zp o.tg) g),Zn 0 sig.ps,fun k j=>cell w (ZD (Zp o.tg) g k).blk j,fun b=>(∃j B,s.heap j=some B∧j∉o.ids∧j∉o.rd∧b∈(g j).foot)∨bd.Z b⟩
   (·<shN sig.ps) sig.ini (Z1 (o.es.map (Z0 · r))) (ZD (Zp o.tg) g) (ops.map a.eval).toArray [] w∧∀i∈o.ids,∃B,s.heap i=some B:=by
 simp only [MO.ok,Y5,YG,Yr,YN,YH] at hok
 obtain ⟨⟨hids,hnames⟩,hrd⟩:=hok
 obtain ⟨hargs,-⟩:=Za.get_ops h ops
 have hρ:∀q t,(q,t)∈o.tg→Zp o.tg q=t:=fun q t hq=>Zae hnames hq
 have hr:∀i x,o.es[i]?=some x→Z1 (o.es.map (Z0 · r)) (0+i)=Z0 x r:=fun i x hi=>Z8g (by simp [hi])
 obtain ⟨-,hlive0,-,-⟩:=Z9K (ρ:=Zp o.tg) (r':=Z1 (o.es.map (Z0 · r))) (M':=fun _=>False) h (fun b hb=>hb.elim) hm hg hargs hρ (fun i _ B _ x _ hx=>hx) hr
 have hlive:∀i∈o.ids,∃B,s.heap i=some B:=by
  intro i hi
  obtain ⟨⟨q,t⟩,hq,ht⟩:=YO.1 hi
  simp only at ht
  subst ht
  exact hlive0 q i hq
 have hid:∀k i,Zp o.tg k=some i→i∈o.ids:=fun k i hk=>YO.2 ⟨_,Zaf hk,rfl⟩
 refine ⟨?_,hlive⟩
 generalize hbd:(⟨fun b=>∃i∈o.ids,b∈(g i).foot,w,(List.range (Zl sig.ps)).map (ZD (Zp o.tg) g),Zn 0 sig.ps,fun k j=>cell w (ZD (Zp o.tg) g k).blk j,fun b=>(∃j B,s.heap j=some B∧j∉o.ids∧j∉o.rd∧b∈(g j).foot)∨bd.Z b⟩:Bd)=bd'
 have hZ:∀b,bd'.Z b↔((∃j B,s.heap j=some B∧j∉o.ids∧j∉o.rd∧b∈(g j).foot)∨bd.Z b):=fun b=>by rw [←hbd]
 have hfoot:∀k b,b∈(ZD (Zp o.tg) g k).foot→∃i,i∈o.ids∧b∈(g i).foot:=by
  intro k b hb
  cases hi:Zp o.tg k with
  | none=>simp [ZD,hi,Z7J] at hb
  | some i=>rw [ZE hi] at hb;exact ⟨i,hid k i hi,hb⟩
 have hM:∀b,Mt bd'.Z sig.ini.heap (ZD (Zp o.tg) g) b→Mt bd.Z s.heap g b:=by
  rintro b (⟨k,B,hk,hb⟩ | hz)
  ·obtain ⟨i,h1,h2⟩:=hfoot k b hb
   obtain ⟨C,hC⟩:=hlive i h1
   exact .inl ⟨i,C,hC,h2⟩
  ·rcases (hZ b).1 hz with ⟨j,C,h1,_,_,h2⟩ | hz
   ·exact .inl ⟨j,C,h1,h2⟩
   ·exact .inr hz
 have hrd':∀i∈o.rd,∀B,s.heap i=some B→∀x∈(g i).foot,¬Mt bd'.Z sig.ini.heap (ZD (Zp o.tg) g) x:=by
  rintro i hi B hB x hx (⟨k,C,hk,hb⟩ | hz)
  ·obtain ⟨j,h1,h2⟩:=hfoot k x hb
   obtain ⟨D,hD⟩:=hlive j h1
   have:=h.inj i j B D x hB hD hx h2
   subst this
   exact hrd i hi h1
  ·rcases (hZ x).1 hz with ⟨j,C,h1,_,h3,h2⟩ | hz
   ·have:=h.inj i j B C x hB h1 hx h2
    subst this
    exact h3 hi
   ·exact h.notZ hB hx hz
 obtain ⟨hn,-,hcur,hblk⟩:=Z9K (ρ:=Zp o.tg) (r':=Z1 (o.es.map (Z0 · r))) h hM hm hg hargs hρ hrd' hr
 refine h.view (ρ:=Zp o.tg) (bd':=bd') (s':=sig.ini) ?_ ?_ ?_ ?_ trivial ?_ ?_ ?_ ?_ ?_ ?_ ?_ ?_ ?_ ?_
 ·intro k B' _ i hi
  exact hlive i (hid k i hi)
 ·intro k k' i _ _ h1 h2
  exact Zah hids (Zaf h1) (Zaf h2)
 ·intro k B' hk
  exact hblk k B' (Zac hk)
 ·simpa [Sig.ini] using hcur
 ·intro k B _ b hb
  obtain ⟨i,h1,h2⟩:=hfoot k b hb
  rw [←hbd]
  exact .inl ⟨i,h1,h2⟩
 ·rw [←hbd]
  refine ⟨rfl,rfl,rfl,Yh _,fun _ _ _=>rfl,?_⟩
  rintro k (⟨j,C,h1,h2,h3,h4⟩ | hz)
  ·refine ⟨h.lt j C h1 k h4,?_⟩
   rintro ⟨i,h5,h6⟩
   obtain ⟨D,hD⟩:=hlive i h5
   have:=h.inj j i C D k h1 hD h4 h6
   subst this
   exact h2 h5
  ·refine ⟨YP (h.world.zone k hz).1 h.world.size,?_⟩
   rintro ⟨i,h5,h6⟩
   obtain ⟨D,hD⟩:=hlive i h5
   exact h.notZ hD h6 hz
 ·intro k p hp hk
  rw [←hbd] at hp
  simp only [List.getElem?_map,Ya] at hp
  obtain ⟨j,h1,rfl⟩:=hp
  have:j=k:=by
   have h2:=Yn.1 h1
   obtain ⟨h3,h4⟩:=h2
   simpa using h4.symm
  subst this
  exact ⟨rfl,rfl⟩
 ·rw [←hbd];simp [Sig.ini]
 ·rw [←hbd];rfl
 ·intro c hc;rw [←hbd]
 ·intro c hc
  rw [←hbd] at hc
  obtain ⟨h1,m,h2⟩:=Za0 (v:=0) hc
  exact ⟨by simpa [Sig.ini] using h1,m,Zai hnb h2⟩
 ·exact Z9T (fun i _ h2=>by simpa using h2) (fun k B hB=>Zad hB)
 ·intro f hf;simp [Sig.ini] at hf
 ·intro k B hk
  exact Z9V (fun i _ h2=>by simpa using h2) (fun k B hB=>Zad hB) k B (Zac hk)
theorem Zam:∀{l:List Sh} {v p k:Nat} {f:FuncId},Z1Y p l=some (k,f)→p≤k∧(k,.box [.no])∈shB v p l
 | [],v,p,k,f,h=>by simp [Z1Y] at h
 | .self f0::l,v,p,k,f,h=>by
  simp only [Z1Y,Y4,Y9] at h
  obtain ⟨rfl,rfl⟩:=h
  exact ⟨Yh _,Y3 _ (Y3 _ (Y1.2 rfl))⟩
 | .p t::l,v,p,k,f,h=>have h1:=Zam (l:=l) (v:=v+(Sh.p t).cs.length) h;⟨by omega,Y0 _ h1.2⟩
 | .agg t::l,v,p,k,f,h=>have h1:=Zam (l:=l) (v:=v+(Sh.agg t).cs.length) h;⟨by omega,Y0 _ h1.2⟩
 | .arr dp t::l,v,p,k,f,h=>have h1:=Zam (l:=l) (v:=v+(Sh.arr dp t).cs.length) h;⟨by omega,Y0 _ h1.2⟩
 | .box t::l,v,p,k,f,h=>have h1:=Zam (l:=l) (v:=v+(Sh.box t).cs.length) h;⟨by omega,Y0 _ h1.2⟩
 | .eat dp t::l,v,p,k,f,h=>have h1:=Zam (l:=l) (v:=v+(Sh.eat dp t).cs.length) h;⟨by omega,Y0 _ h1.2⟩
 | .obj o::l,v,p,k,f,h=>have h1:=Zam (l:=l) (v:=v+(Sh.obj o).cs.length) h;⟨by omega,Y0 _ h1.2⟩
theorem Zan:∀{l:List CS} {v p k:Nat},p≤k→k<p+Zk l→∃B,(k,B)∈csB v p l
 | [],v,p,k,h1,h2=>by simp only [Zk] at h2;omega
 | c::l,v,p,k,h1,h2=>by
  simp only [Zk] at h2
  by_cases h3:k<p+c.pins
  ·cases c with
   | p t=>simp only [CS.pins] at h3;omega
   | eat dp t=>simp only [CS.pins] at h3;omega
   | arr dp t => simp only [CS.pins] at h3; obtain rfl : k = p := by omega
                 exact ⟨_,Y3 _ (Y1.2 rfl)⟩
   | box t => simp only [CS.pins] at h3; obtain rfl : k = p := by omega
              exact ⟨_,Y3 _ (Y1.2 rfl)⟩
   | self f => simp only [CS.pins] at h3; obtain rfl : k = p := by omega
               exact ⟨_,Y3 _ (Y1.2 rfl)⟩
   | obj o => simp only [CS.pins] at h3; obtain rfl : k = p := by omega
              exact ⟨_,Y3 _ (Yd ..)⟩
  ·obtain ⟨B,hB⟩:=Zan (l:=l) (v:=v+1) (p:=p+c.pins) (k:=k) (by omega) (by omega)
   exact ⟨B,Y0 _ hB⟩
theorem Zao:∀{l:List Sh} {v p k:Nat},p≤k→k<p+Zl l→∃B,(k,B)∈shB v p l
 | [],v,p,k,h1,h2=>by simp only [Zl] at h2;omega
 | c::l,v,p,k,h1,h2=>by
  simp only [Zl] at h2
  by_cases h3:k<p+Zk c.cs
  ·obtain ⟨B,hB⟩:=Zan (l:=c.cs) (v:=v) h1 h3
   exact ⟨B,Y3 _ hB⟩
  ·obtain ⟨B,hB⟩:=Zao (l:=l) (v:=v+c.cs.length) (p:=p+Zk c.cs) (k:=k) (by omega) (by omega)
   exact ⟨B,Y0 _ hB⟩
theorem Zap {a:Act} (h:R bd N s r g a.tmps st w) {sig:Sig} {o:MO} {bd':Bd} {r':Env} {tm':Array Value} {st':List (Array Value)}
  (hb:R bd' (·<shN sig.ps) sig.ini r' (ZD (Zp o.tg) g) tm' st' w) (hnb:nodupB ((shB 0 0 sig.ps).map (·.1))=true) (hs:Z1_ sig.ps s.heap o.tg=true) :
  R bd' (·<shN sig.ps) sig.ini1 r' (ZD (Zp o.tg) g) tm' st' w:=by
 unfold Z1_ at hs
 cases hso:Z1Y 0 sig.ps with
 | none => 
  have:sig.ini1=sig.ini:=by simp only [Sig.ini1,Sig.ini,Z1Z,hso]
  rw [this];exact hb
 | some pf =>
  obtain ⟨p,f⟩:=pf
  rw [hso] at hs
  simp only at hs
  split at hs
  case h_2=>cases hs
  rename_i i hi
  split at hs
  case h_2=>cases hs
  rename_i f' caps hh
  simp only [Y5,Ye,YG,List.mem_range] at hs
  obtain ⟨⟨rfl,hall⟩,hcaps⟩:=hs
  have hmem:=(Zam (v:=0) hso).2
  have hlook:sig.ini.heap p=some (.box [.no]):=Zai hnb hmem
  have hini1:sig.ini1={ sig.ini with heap:=upd sig.ini.heap p (some (.box [.clo f' ((List.range (Zl sig.ps)).map fun k=>(k,0))])) }:=by
   simp only [Sig.ini1,Sig.ini,Z1Z,hso]
  rw [hini1]
  have hrep:=h.heap i _ hh
  refine hb.reblk hlook (fun hB=>?_) ?_ (fun l hl=>⟨_,rfl⟩)
  ·simp only [Zc] at hB hrep ⊢
   obtain ⟨f1,c1,ty1,f2,f3⟩:=hB
   obtain ⟨-,c2,ty2,e2,e3⟩:=hrep
   rw [ZE hi] at f1 f2
   rw [e2] at f2
   cases f2
   rw [ZE hi]
   refine ⟨f1,c1,ty1,e2,?_⟩
   generalize c1.toList=l at e3 ⊢
   match l,e3 with
   | [u],e3 =>
    refine ⟨?_,trivial⟩
    have e4:=e3.1
    simp only [Z7] at e4 ⊢
    rw [e4,hcaps]
    simp only [List.map_map]
    congr 2
    refine Ys fun k hk=>?_
    have hk:=hall k (List.mem_range.1 hk)
    obtain ⟨j,hj⟩:=YE.1 hk
    simp only [Function.comp,hj,Option.getD_some]
    rw [ZE hj]
  ·intro b hb
   rw [Y1.1 hb]
   intro c hc
   obtain ⟨k,hk,rfl⟩:=Yo.1 hc
   obtain ⟨B,hB⟩:=Zao (l:=sig.ps) (v:=0) (p:=0) (k:=k) (Yf _) (by have:=List.mem_range.1 hk;omega)
   exact Zad hB
end
section
variable {w:World} {M1 M2:Nat→Prop} {gf g2:Nat→G} {outs:List AV} {r2:Env} {ψ:Nat→Nat} {d:Nat} {FL:List (Nat×Blk)} {h2:Nat→Option Blk}
theorem Zaq (hr:∀v,v<outs.length→r2 (v+d)=Z1 outs v) {t:Ty} {v:Nat} (hv:v<outs.length):den (Z22 d (.var t v)) r2=den (.var t v) (Z1 outs):=by
 simp only [Z22,den]
 rw [hr v hv]
def Zar (r2:Env) (d:Nat) (outs:List AV) {t:Ty} (e:E t):Prop:=den (Z22 d e) r2=den e (Z1 outs)∧(Z22 d e).vs (·<d+outs.length)
theorem Zar.o1 {a b:Ty} {o:O1 a b} {e:E a} (h:Zar r2 d outs e):Zar r2 d outs (.o1 o e):=by
 refine ⟨?_,h.2⟩
 simp only [Z22,den]
 rw [h.1]
theorem Zar.var (hr:∀v,v<outs.length→r2 (v+d)=Z1 outs v) {t:Ty} {v:Nat} (hv:v<outs.length):Zar r2 d outs (.var t v) :=
 ⟨Zaq hr hv,by simp only [Z22,E.vs];omega⟩
theorem Zar.pj (hr:∀v,v<outs.length→r2 (v+d)=Z1 outs v) {i:Nat} (hi:i<outs.length):∀{t:Ty} {e:E t},e.pj i→Zar r2 d outs e
 | _,.var _ k,h=>by simp only [E.pj] at h;subst h;exact Zar.var hr hi
 | _,.o1 _ x,h=>(Zar.pj (e:=x) hr hi h).o1
theorem Zas {φ:Nat→Nat}:∀{t:Ty} {e:E t} {us:List Value},(t.hasSl=false∨∀b,M2 b→M1 b)→Zar r2 d outs e→Z8 w M1 gf (Z1 outs) (Zf t e) us →
  Z8 w M2 g2 r2 ((Zf t e).map (Zq φ d)) us∧∀a∈(Zf t e).map (Zq φ d),a.ok (·<d+outs.length) h2:=by
 intro t
 have leaf:∀{t:Ty} {e:E t} {us:List Value},(t.hasSl=false∨∀b,M2 b→M1 b)→Zar r2 d outs e→Z8 w M1 gf (Z1 outs) [.x t e] us →
   Z8 w M2 g2 r2 ([Atom.x t e].map (Zq φ d)) us∧∀a∈[Atom.x t e].map (Zq φ d),a.ok (·<d+outs.length) h2:=by
  intro t e us hf he h
  match us,h with
  | [u],h =>
   refine ⟨⟨?_,trivial⟩,fun a ha=>?_⟩
   ·simp only [Zq,Z7]
    rw [he.1]
    rcases hf with hf | hf
    ·exact Rep.flat hf h.1
    ·exact Rep.keep ⟨fun _ _ _=>rfl,fun b _ hb=>hf b hb⟩ h.1
   ·simp only [List.map_cons,List.map_nil,Y1] at ha
    subst ha
    exact he.2
  | [],h=>exact h.elim
  | _::_::_,h=>exact h.2.elim
 induction t with
 | int k=>exact leaf
 | bool=>exact leaf
 | str=>exact leaf
 | sl c e ih=>exact leaf
 | pr x y ihx ihy =>
  intro e us hf he h
  have split:∀{l m:List Atom} {us:List Value},Z8 w M1 gf (Z1 outs) (l++m) us→∃u1 u2,us=u1++u2∧Z8 w M1 gf (Z1 outs) l u1∧Z8 w M1 gf (Z1 outs) m u2:=by
   intro l
   induction l with
   | nil=>intro m us h;exact ⟨[],us,rfl,trivial,h⟩
   | cons a l ih =>
    intro m us h
    cases us with
    | nil=>exact h.elim
    | cons u us =>
     obtain ⟨u1,u2,rfl,h1,h2⟩:=ih h.2
     exact ⟨u::u1,u2,rfl,⟨h.1,h1⟩,h2⟩
  obtain ⟨u1,u2,rfl,h1,h2⟩:=split h
  obtain ⟨a1,a2⟩:=ihx (hf.imp_left fun q=>by simp only [Ty.hasSl,Bool.or_eq_false_iff] at q;exact q.1) he.o1 h1
  obtain ⟨b1,b2⟩:=ihy (hf.imp_left fun q=>by simp only [Ty.hasSl,Bool.or_eq_false_iff] at q;exact q.2) he.o1 h2
  simp only [Zf,YK]
  refine ⟨a1.append b1,fun b hb=>?_⟩
  rcases Y6.1 hb with hb | hb
  ·exact a2 b hb
  ·exact b2 b hb
theorem Z8.split {w:World} {M:Nat→Prop} {g:Nat→G} {r:Env}:∀{l m:List Atom} {us:List Value},Z8 w M g r (l++m) us→∃u1 u2,us=u1++u2∧Z8 w M g r l u1∧Z8 w M g r m u2
 | [],m,us,h=>⟨[],us,rfl,trivial,h⟩
 | a::l,m,[],h=>h.elim
 | a::l,m,u::us,h=>by
  obtain ⟨u1,u2,rfl,h1,h2⟩:=Z8.split (l:=l) h.2
  exact ⟨u::u1,u2,rfl,⟨h.1,h1⟩,h2⟩
theorem Zat {lv:Nat→Bool}:∀(m1 m2 l:List Atom),Z26 lv l (m1++m2)=Z26 lv l m1++Z26 lv (l.drop m1.length) m2
 | [],m2,l=>by simp [Z26]
 | b::m1,m2,l=>by
  simp only [List.cons_append,Z26,Zat m1 m2 l.tail,YA,List.drop_tail]
theorem Zau:∀{t:Ty} {e:E t},(Zf t e).length=t.size:=by
 intro t
 induction t with
 | pr x y ihx ihy=>intro e;simp only [Zf,Y7,ihx,ihy,Ty.size]
 | _=>intro e;rfl
theorem Zav {lv:Nat→Bool} {φ:Nat→Nat}:∀{t:Ty} {e:E t} {us:List Value} {l:List Atom},(t.hasNl=false∨∀b,M2 b→M1 b)→Zar r2 d outs e→Z8 w M1 gf (Z1 outs) (Zf t e) us →
  (∀j∈Z1R t,∀u,us[j]?=some u→Z7 w M2 g2 r2 (Z24 lv l[j]?) u)→Z8 w M2 g2 r2 (Z26 lv l ((Zf t e).map (Zq φ d))) us:=by
 intro t
 have leaf:∀{t:Ty} {e:E t} {us:List Value} {l:List Atom},t.hasSl=false→(∀(o:Option Atom) (e:E t),Z25 lv o (.x t e)=.x t e)→Zar r2 d outs e→Z8 w M1 gf (Z1 outs) [.x t e] us →
   Z8 w M2 g2 r2 (Z26 lv l ([Atom.x t e].map (Zq φ d))) us:=by
  intro t e us l hf hmx he h
  match us,h with
  | [u],h =>
   simp only [List.map_cons,List.map_nil,Zq,Z26,hmx]
   refine ⟨?_,trivial⟩
   simp only [Z7]
   rw [he.1]
   exact Rep.flat hf h.1
  | [],h=>exact h.elim
  | _::_::_,h=>exact h.2.elim
 induction t with
 | int k=>intro e us l _ he h _;exact leaf rfl (fun o e=>rfl) he h
 | bool=>intro e us l _ he h _;exact leaf rfl (fun o e=>rfl) he h
 | str=>intro e us l _ he h _;exact leaf rfl (fun o e=>rfl) he h
 | sl c t _ =>
  intro e us l hf he h hk
  match us,h with
  | [u],h =>
   simp only [Zf,List.map_cons,List.map_nil,Zq,Z26]
   cases c with
   | true =>
    rcases hf with hf | hf
    ·cases hf
    ·refine ⟨?_,trivial⟩
     simp only [Z25,Z7]
     rw [he.1]
     exact Rep.keep ⟨fun _ _ _=>rfl,fun b _ hb=>hf b hb⟩ h.1
   | false =>
    simp only [Z25,List.head?_eq_getElem?]
    exact ⟨hk 0 (Y1.2 rfl) u rfl,trivial⟩
  | [],h=>exact h.elim
  | _::_::_,h=>exact h.2.elim
 | pr x y ihx ihy =>
  intro e us l hf he h hk
  obtain ⟨u1,u2,rfl,h1,h2⟩:=Z8.split h
  have hu1:u1.length=x.size:=by rw [←h1.length,Zau]
  have a1:=ihx (l:=l) (hf.imp_left fun q=>by simp only [Ty.hasNl,Bool.or_eq_false_iff] at q;exact q.1) he.o1 h1 fun j hj u hu=>hk j (by simp only [Z1R];exact Y3 _ hj) u (by rw [Yw (Yn.1 hu).1];exact hu)
  have b1:=ihy (l:=l.drop x.size) (hf.imp_left fun q=>by simp only [Ty.hasNl,Bool.or_eq_false_iff] at q;exact q.2) he.o1 h2 fun j hj u hu=>by
   have:=hk (j+x.size) (by simp only [Z1R];exact Y0 _ (Yo.2 ⟨j,hj,rfl⟩)) u (by rw [Yt (by omega),hu1,Nat.add_sub_cancel];exact hu)
   rw [YB,Nat.add_comm];exact this
  simp only [Zf,YK,Zat,YF,Zau]
  exact a1.append b1
theorem Zaw {lv:Nat→Bool} {φ:Nat→Nat}:∀{t:Ty} {e:E t} {l:List Atom},Zar r2 d outs e →
  (∀j∈Z1R t,(Z24 lv l[j]?).ok (·<d+outs.length) h2)→∀a∈Z26 lv l ((Zf t e).map (Zq φ d)),a.ok (·<d+outs.length) h2:=by
 intro t
 induction t with
 | int k=>intro e l he _ a ha;simp only [Zf,List.map_cons,List.map_nil,Zq,Z26,Z25,Y1] at ha;subst ha;exact he.2
 | bool=>intro e l he _ a ha;simp only [Zf,List.map_cons,List.map_nil,Zq,Z26,Z25,Y1] at ha;subst ha;exact he.2
 | str=>intro e l he _ a ha;simp only [Zf,List.map_cons,List.map_nil,Zq,Z26,Z25,Y1] at ha;subst ha;exact he.2
 | sl c t _ =>
  intro e l he hk a ha
  cases c with
  | true =>
   simp only [Zf,List.map_cons,List.map_nil,Zq,Z26,Z25,Y1] at ha
   subst ha
   exact he.2
  | false =>
   simp only [Zf,List.map_cons,List.map_nil,Zq,Z26,Z25,Y1,List.head?_eq_getElem?] at ha
   subst ha
   exact hk 0 (Y1.2 rfl)
 | pr x y ihx ihy =>
  intro e l he hk a ha
  simp only [Zf,YK,Zat,YF,Zau] at ha
  rcases Y6.1 ha with ha | ha
  ·exact ihx he.o1 (fun j hj=>hk j (by simp only [Z1R];exact Y3 _ hj)) a ha
  ·exact ihy he.o1 (fun j hj=>by have:=hk (j+x.size) (by simp only [Z1R];exact Y0 _ (Yo.2 ⟨j,hj,rfl⟩));rw [YB,Nat.add_comm x.size];exact this) a ha
theorem Zax {n:Nat}:∀{o:OC} {j:Nat} {e:E o.ty},(Zi n o j e).length=o.n:=by
 intro o
 induction o with
 | pr x y ihx ihy=>intro j e;simp only [Zi,Y7,OC.n,ihx,ihy]
 | p t=>intro j e;rfl
 | arr dp t=>intro j e;rfl
theorem Zay {n:Nat}:∀{o:OC} {j:Nat} {e:E o.ty} {us:List Value},(o.flat false=true∨∀b,M2 b→M1 b)→Zar r2 d outs e→(∀k C,(k,C)∈Zj n o j e→g2 (ψ k)=gf k)→Z8 w M1 gf (Z1 outs) (Zi n o j e) us →
  Z8 w M2 g2 r2 ((Zi n o j e).map (Zq ψ d)) us:=by
 intro o
 induction o with
 | p t =>
  intro j e us hf he hg h
  match us,h with
  | [u],h =>
   refine ⟨?_,trivial⟩
   simp only [Zq,Z7]
   rw [he.1]
   rcases hf with hf | hf
   ·have:t.hasSl=false:=by
     simp only [OC.flat] at hf
     split at hf
     ·cases hf
     ·simpa using hf
    exact Rep.flat this h.1
   ·exact Rep.keep ⟨fun _ _ _=>rfl,fun b _ hb=>hf b hb⟩ h.1
  | [],h=>exact h.elim
  | _::_::_,h=>exact h.2.elim
 | arr dp t =>
  intro j e us hf he hg h
  match us,h with
  | [u],h =>
   refine ⟨?_,trivial⟩
   have h1:=h.1
   simp only [Zq,Z7] at h1 ⊢
   rw [h1,hg _ _ (Y1.2 rfl)]
  | [],h=>exact h.elim
  | _::_::_,h=>exact h.2.elim
 | pr x y ihx ihy =>
  intro j e us hf he hg h
  obtain ⟨u1,u2,rfl,h1,h2⟩:=Z8.split h
  simp only [Zj] at hg
  simp only [Zi,YK]
  exact (ihx (hf.imp_left fun q=>by simp only [OC.flat,Y5] at q;exact q.1) he.o1 (fun k C hC=>hg k C (Y3 _ hC)) h1).append
   (ihy (hf.imp_left fun q=>by simp only [OC.flat,Y5] at q;exact q.2) he.o1 (fun k C hC=>hg k C (Y0 _ hC)) h2)
theorem Zaz {n:Nat}:∀{o:OC} {j:Nat} {e:E o.ty},Zar r2 d outs e→(∀k C,(k,C)∈Zj n o j e→(h2 (ψ k)).isSome=true)→∀a∈(Zi n o j e).map (Zq ψ d),a.ok (·<d+outs.length) h2:=by
 intro o
 induction o with
 | p t =>
  intro j e he hg a ha
  simp only [Zi,List.map_cons,List.map_nil,Zq,Y1] at ha
  subst ha
  exact he.2
 | arr dp t =>
  intro j e he hg a ha
  simp only [Zi,List.map_cons,List.map_nil,Zq,Y1] at ha
  subst ha
  exact hg _ _ (Y1.2 rfl)
 | pr x y ihx ihy =>
  intro j e he hg a ha
  simp only [Zj] at hg
  simp only [Zi,YK] at ha
  rcases Y6.1 ha with ha | ha
  ·exact ihx he.o1 (fun k C hC=>hg k C (Y3 _ hC)) a ha
  ·exact ihy he.o1 (fun k C hC=>hg k C (Y0 _ hC)) a ha
theorem ZaA {lv:Nat→Bool} {n:Nat}:∀{o:OC} {j:Nat} {e:E o.ty} {us:List Value} {l:List Atom},(o.flat true=true∨∀b,M2 b→M1 b)→Zar r2 d outs e→(∀k C,(k,C)∈Zj n o j e→g2 (ψ k)=gf k)→Z8 w M1 gf (Z1 outs) (Zi n o j e) us →
  (∀j∈Z1N o,∀u,us[j]?=some u→Z7 w M2 g2 r2 (Z24 lv l[j]?) u)→Z8 w M2 g2 r2 (Z26 lv l ((Zi n o j e).map (Zq ψ d))) us:=by
 intro o
 induction o with
 | p t =>
  intro j e us l hf he hg h hk
  match us,h with
  | [u],h =>
   have hfl:t.hasSl=false∨(∀b,M2 b→M1 b)∨∃u,t=.sl false u:=by
    rcases hf with hf | hf
    ·simp only [OC.flat] at hf
     split at hf
     ·exact .inr (.inr ⟨_,rfl⟩)
     ·exact .inl (by simpa using hf)
    ·exact .inr (.inl hf)
   have hrep:t.hasSl=false∨(∀b,M2 b→M1 b)→Rep w M2 t (den (Z22 d e) r2) [u]:=by
    intro hf
    rw [he.1]
    rcases hf with hf | hf
    ·exact Rep.flat hf h.1
    ·exact Rep.keep ⟨fun _ _ _=>rfl,fun b _ hb=>hf b hb⟩ h.1
   simp only [Zi,List.map_cons,List.map_nil,Zq,Z26]
   refine ⟨?_,trivial⟩
   cases t with
   | int k=>exact hrep (.inl rfl)
   | bool=>exact hrep (.inl rfl)
   | str=>exact hrep (.inl rfl)
   | pr a b =>
    refine hrep ?_
    rcases hfl with hfl | hfl | ⟨u,hfl⟩
    ·exact .inl hfl
    ·exact .inr hfl
    ·cases hfl
   | sl c v =>
    cases c with
    | true =>
     refine hrep ?_
     rcases hfl with hfl | hfl | ⟨u,hfl⟩
     ·exact .inl hfl
     ·exact .inr hfl
     ·cases hfl
    | false =>
     simp only [Z25,List.head?_eq_getElem?]
     exact hk 0 (Y1.2 rfl) u rfl
  | [],h=>exact h.elim
  | _::_::_,h=>exact h.2.elim
 | arr dp t =>
  intro j e us l hf he hg h hk
  match us,h with
  | [u],h =>
   refine ⟨?_,trivial⟩
   have h1:=h.1
   simp only [Zq,Z7,Z25] at h1 ⊢
   rw [h1,hg _ _ (Y1.2 rfl)]
  | [],h=>exact h.elim
  | _::_::_,h=>exact h.2.elim
 | pr x y ihx ihy =>
  intro j e us l hf he hg h hk
  obtain ⟨u1,u2,rfl,h1,h2⟩:=Z8.split h
  have hl1:=Zax (n:=n) (j:=j) (e:=.o1 (.fst x.ty y.ty) e)
  have hu1:u1.length=x.n:=by rw [←h1.length,hl1]
  simp only [Zj] at hg
  simp only [Zi,YK,Zat,YF,hl1]
  refine (ihx (l:=l) (hf.imp_left fun q=>by simp only [OC.flat,Y5] at q;exact q.1) he.o1 (fun k C hC=>hg k C (Y3 _ hC)) h1 fun i hi u hu=>?_).append
   (ihy (l:=l.drop x.n) (hf.imp_left fun q=>by simp only [OC.flat,Y5] at q;exact q.2) he.o1 (fun k C hC=>hg k C (Y0 _ hC)) h2 fun i hi u hu=>?_)
  ·exact hk i (by simp only [Z1N];exact Y3 _ hi) u (by rw [Yw (Yn.1 hu).1];exact hu)
  ·have:=hk (i+x.n) (by simp only [Z1N];exact Y0 _ (Yo.2 ⟨i,hi,rfl⟩)) u
    (by rw [Yt (by omega),hu1,Nat.add_sub_cancel];exact hu)
   rw [YB,Nat.add_comm];exact this
theorem ZaB {lv:Nat→Bool} {n:Nat}:∀{o:OC} {j:Nat} {e:E o.ty} {l:List Atom},Zar r2 d outs e→(∀k C,(k,C)∈Zj n o j e→(h2 (ψ k)).isSome=true) →
  (∀j∈Z1N o,(Z24 lv l[j]?).ok (·<d+outs.length) h2)→∀a∈Z26 lv l ((Zi n o j e).map (Zq ψ d)),a.ok (·<d+outs.length) h2:=by
 intro o
 induction o with
 | p t =>
  intro j e l he hg hk a ha
  simp only [Zi,List.map_cons,List.map_nil,Zq,Z26,Y1] at ha
  subst ha
  cases t with
  | sl c v =>
   cases c with
   | true=>exact he.2
   | false =>
    simp only [Z25,List.head?_eq_getElem?]
    exact hk 0 (Y1.2 rfl)
  | _=>exact he.2
 | arr dp t =>
  intro j e l he hg hk a ha
  simp only [Zi,List.map_cons,List.map_nil,Zq,Z26,Z25,Y1] at ha
  subst ha
  exact hg _ _ (Y1.2 rfl)
 | pr x y ihx ihy =>
  intro j e l he hg hk a ha
  have hl1:=Zax (n:=n) (j:=j) (e:=.o1 (.fst x.ty y.ty) e)
  simp only [Zj] at hg
  simp only [Zi,YK,Zat,YF,hl1] at ha
  rcases Y6.1 ha with ha | ha
  ·exact ihx he.o1 (fun k C hC=>hg k C (Y3 _ hC)) (fun i hi=>hk i (by simp only [Z1N];exact Y3 _ hi)) a ha
  ·exact ihy he.o1 (fun k C hC=>hg k C (Y0 _ hC)) (fun i hi=>by
    have:=hk (i+x.n) (by simp only [Z1N];exact Y0 _ (Yo.2 ⟨i,hi,rfl⟩))
    rw [YB,Nat.add_comm x.n];exact this) a ha
theorem ZaC (hr:∀v,v<outs.length→r2 (v+d)=Z1 outs v) (hg:∀k B,(k,B)∈FL→g2 (ψ k)=gf k) (hh:∀k B,(k,B)∈FL→(h2 (ψ k)).isSome=true) :
  ∀{l:List CS} {v p:Nat} {us:List Value},(∀k B,(k,B)∈csB v p l→(k,B)∈FL)→(∀c∈l,c.flat=true∨∀b,M2 b→M1 b)→v+l.length≤outs.length→Z8 w M1 gf (Z1 outs) (csA v p l) us →
  Z8 w M2 g2 r2 ((csA v p l).map (Zq ψ d)) us∧∀a∈(csA v p l).map (Zq ψ d),a.ok (·<d+outs.length) h2
 | [],v,p,us,_,_,_,h=>by
  cases us with
  | nil=>exact ⟨trivial,fun a ha=>by cases ha⟩
  | cons=>exact h.elim
 | c::l,v,p,us,hf,hfl,hlen,h=>by
  cases us with
  | nil=>exact h.elim
  | cons u us =>
   simp only [YA] at hlen
   obtain ⟨i1,i2⟩:=ZaC hr hg hh (l:=l) (v:=v+1) (p:=p+c.pins) (us:=us) (fun k B hB=>hf k B (Y0 _ hB)) (fun c hc=>hfl c (Yc _ hc)) (by omega) h.2
   have first:Z7 w M2 g2 r2 (Zq ψ d (c.at v p)) u∧(Zq ψ d (c.at v p)).ok (·<d+outs.length) h2:=by
    have h1:=h.1
    cases c with
    | p t =>
     simp only [CS.at,Zq,Z7] at h1 ⊢
     rw [Zaq hr (by omega)]
     refine ⟨?_,by simp only [Atom.ok,Z22,E.vs];omega⟩
     rcases hfl _ (Yd ..) with hfl | hfl
     ·simp only [CS.flat,Yr] at hfl
      exact Rep.flat hfl h1
     ·exact h1.keep ⟨fun _ _ _=>rfl,fun b _ hb=>hfl b hb⟩
    | arr dp t =>
     simp only [CS.at,Zq,Z7] at h1 ⊢
     have hmem:=hf p _ (Y3 _ (Y1.2 rfl))
     exact ⟨by rw [hg p _ hmem];exact h1,hh p _ hmem⟩
    | box t =>
     simp only [CS.at,Zq,Z7] at h1 ⊢
     have hmem:=hf p _ (Y3 _ (Y1.2 rfl))
     exact ⟨by rw [hg p _ hmem];exact h1,hh p _ hmem⟩
    | eat dp t =>
     simp only [CS.at,Zq,Z7] at h1 ⊢
     have hmem:=hf (2000+v) _ (Y3 _ (Y1.2 rfl))
     exact ⟨by rw [hg (2000+v) _ hmem];exact h1,hh (2000+v) _ hmem⟩
    | self f =>
     simp only [CS.at,Zq,Z7] at h1 ⊢
     have hmem:=hf p _ (Y3 _ (Y1.2 rfl))
     exact ⟨by rw [hg p _ hmem];exact h1,hh p _ hmem⟩
    | obj o =>
     simp only [CS.at,Zq,Z7] at h1 ⊢
     have hmem:=hf p _ (Y3 _ (Yd ..))
     exact ⟨by rw [hg p _ hmem];exact h1,hh p _ hmem⟩
   refine ⟨⟨first.1,i1⟩,fun a ha=>?_⟩
   rcases Yl.1 ha with rfl | ha
   ·exact first.2
   ·exact i2 a ha
theorem ZaD (hr:∀v,v<outs.length→r2 (v+d)=Z1 outs v) (hg:∀k B,(k,B)∈FL→g2 (ψ k)=gf k) (hh:∀k B,(k,B)∈FL→(h2 (ψ k)).isSome=true) :
  ∀{l:List Sh} {v p:Nat} {us:List Value},(∀k B,(k,B)∈shB v p l→(k,B)∈FL)→(∀h∈l,∀c∈h.cs,c.flat=true∨∀b,M2 b→M1 b)→v+shN l≤outs.length→Za w M1 gf (Z1 outs) (Z1O v p l) us →
  Za w M2 g2 r2 ((Z1O v p l).map (SV.map (Zq ψ d))) us∧∀x∈(Z1O v p l).map (SV.map (Zq ψ d)),x.all (Atom.ok (·<d+outs.length) h2)
 | [],v,p,us,_,_,_,h=>by
  cases us with
  | nil=>exact ⟨trivial,fun a ha=>by cases ha⟩
  | cons=>exact h.elim
 | c::l,v,p,us,hf,hfl,hlen,h=>by
  cases us with
  | nil=>exact h.elim
  | cons u us =>
   simp only [shN] at hlen
   obtain ⟨i1,i2⟩:=ZaD hr hg hh (l:=l) (v:=v+c.cs.length) (p:=p+Zk c.cs) (us:=us) (fun k B hB=>hf k B (Y0 _ hB)) (fun c hc=>hfl c (Yc _ hc)) (by omega) h.2
   have cs:=fun {vs:List Value} (hv:Z8 w M1 gf (Z1 outs) (csA v p c.cs) vs)=>ZaC (M2:=M2) hr hg hh (fun k B hB=>hf k B (Y3 _ hB)) (hfl c (Yd ..)) (by omega) hv
   have first:Z9 w M2 g2 r2 (SV.map (Zq ψ d) (c.sv v p)) u∧(SV.map (Zq ψ d) (c.sv v p)).all (Atom.ok (·<d+outs.length) h2):=by
    have h1:=h.1
    cases c with
    | p t =>
     obtain ⟨c1,c2⟩:=cs (vs:=[u]) ⟨h1,trivial⟩
     exact ⟨c1.1,c2 _ (Yd ..)⟩
    | arr dp t =>
     obtain ⟨c1,c2⟩:=cs (vs:=[u]) ⟨h1,trivial⟩
     exact ⟨c1.1,c2 _ (Yd ..)⟩
    | box t =>
     obtain ⟨c1,c2⟩:=cs (vs:=[u]) ⟨h1,trivial⟩
     exact ⟨c1.1,c2 _ (Yd ..)⟩
    | eat dp t =>
     obtain ⟨c1,c2⟩:=cs (vs:=[u]) ⟨h1,trivial⟩
     exact ⟨c1.1,c2 _ (Yd ..)⟩
    | self f =>
     obtain ⟨c1,c2⟩:=cs (vs:=[u]) ⟨h1,trivial⟩
     exact ⟨c1.1,c2 _ (Yd ..)⟩
    | obj o =>
     obtain ⟨c1,c2⟩:=cs (vs:=[u]) ⟨h1,trivial⟩
     exact ⟨c1.1,c2 _ (Yd ..)⟩
    | agg m =>
     obtain ⟨vs,e1,e2⟩:=h1
     obtain ⟨c1,c2⟩:=cs e2
     exact ⟨⟨vs,e1,c1⟩,c2⟩
   refine ⟨⟨first.1,i1⟩,fun a ha=>?_⟩
   rcases Yl.1 ha with rfl | ha
   ·exact first.2
   ·exact i2 a ha
end
end Go.Sm
namespace Go.Sm
theorem ZaE {h0:Nat→Option Blk}:∀{l:List Sh} {m:List SV} {v p:Nat} {o:MO},(l.all fun h=>!h.byRef)=true→Z1X h0 v p l m=some o→o.tg=[]
 | [],[],v,p,o,_,hm=>by simp only [Z1X,Y4] at hm;subst hm;rfl
 | c::l,a::m,v,p,o,hb,hm=>by
  unfold Z1X at hm
  split at hm
  case h_2=>cases hm
  rename_i x y hx hy
  cases hm
  simp only [List.all_cons,Y5,Yr,Sh.byRef] at hb
  have cs:∀{l:List CS} {m:List Atom} {v p:Nat} {o:MO},l.any CS.byRef=false→Zo h0 v p l m=some o→o.tg=[]:=by
   intro l
   induction l with
   | nil=>intro m v p o _ hm;cases m<;>simp [Zo] at hm;subst hm;rfl
   | cons c l ih =>
    intro m v p o hb hm
    cases m with
    | nil=>simp [Zo] at hm
    | cons a m =>
     unfold Zo at hm
     split at hm
     case h_2=>cases hm
     rename_i x y hx hy
     cases hm
     simp only [List.any_cons,Bool.or_eq_false_iff] at hb
     cases c with
     | p t =>
      simp only [Z1V] at hx
      obtain ⟨_,_,rfl⟩:=Ya.1 hx
      simp only [MO.add,ih hb.2 hy,Yx]
     | arr dp t=>simp [CS.byRef] at hb
     | box t=>simp [CS.byRef] at hb
     | eat dp t=>simp [CS.byRef] at hb
     | self f=>simp [CS.byRef] at hb
     | obj o=>simp [CS.byRef] at hb
  have hx0:x.tg=[]:=by
   unfold Z1W at hx
   split at hx
   ·exact cs hb.1 hx
   ·exact cs hb.1 hx
   ·exact cs hb.1 hx
   ·exact cs hb.1 hx
   ·exact cs hb.1 hx
   ·exact cs hb.1 hx
   ·exact cs hb.1 hx
   ·cases hx
  have hy0:y.tg=[]:=ZaE (l:=l) hb.2 hy
  simp only [MO.add,hx0,hy0,Yx]
 | [],_::_,v,p,o,_,hm=>by simp [Z1X] at hm
 | _::_,[],v,p,o,_,hm=>by simp [Z1X] at hm
theorem ZaF {tg:List (Nat×Option Nat)} {i:Nat} (h:i∈Z28 tg):i∈tg.filterMap (·.2):=by
 simp only [Z28,YO] at h ⊢
 obtain ⟨x,h1,h2⟩:=h
 refine ⟨x,h1,?_⟩
 cases hd:decide (2000≤x.1)
 ·rw [hd] at h2;cases h2
 ·rw [hd] at h2;exact h2
theorem ZaG {sig:Sig} (h:sig.leaks=false):(∀x∈sig.rs,∀c∈x.cs,c.flat=true)∧∀x∈Z1P sig.ps,∀c∈x.cs,c.flatB=true:=by
 simp only [Sig.leaks,Bool.not_eq_false',Y5,YG] at h
 exact ⟨fun x hx c hc=>h.1 x hx c hc,fun x hx c hc=>h.2 x hx c hc⟩
theorem ZaH {sig:Sig} {k:Nat} {B:Blk} (h:(k,B)∈Z20 sig) :
  (∃i,i<sig.outs∧((∃dp t,∃e:E (.sl false t),B=.arr dp t e∧e.pj i∧(sig.leaks=false→(dp||!t.hasSl)=true)) ∨
   (∃t,B=.box (Zf t (.var t i))∧(1000≤k∧∃x∈sig.rs,.box t∈x.cs))∨(∃t,B=.box (Zf t (.var t i))∧(k,B)∈shB (shN sig.rs) 0 (Z1P sig.ps)∧(∀j∈Z1R t,(k,j)∈Zn 0 sig.ps)∧(sig.leaks=false→t.hasNl=false))∨(B=.box [.no]∧(1000≤k∨(k,B)∈shB (shN sig.rs) 0 (Z1P sig.ps)∧(k,0)∈Zn 0 sig.ps)) ∨
   ∃o n,B=.box (Zi n o 0 (.var o.ty i))∧(∀q C,(q,C)∈Zj n o 0 (.var o.ty i)→∃C,(q,C)∈Z20 sig)∧((1000≤k∧(sig.leaks=false→o.flat false=true))∨(k,B)∈shB (shN sig.rs) 0 (Z1P sig.ps)∧(∀j∈Z1N o,(k,j)∈Zn 0 sig.ps)∧(sig.leaks=false→o.flat true=true)))):=by
 have hobj:∀{n:Nat} {o:OC} {j:Nat} {e:E o.ty} {q:Nat} {C:Blk},(q,C)∈Zj n o j e→Atom.ref q∈Zi n o j e:=by
  intro n o
  induction o with
  | p t=>intro j e q C h;cases h
  | arr dp t=>intro j e q C h;simp only [Zj,Y1,Y9] at h;rw [h.1];exact Y1.2 rfl
  | pr a b iha ihb =>
   intro j e q C h
   simp only [Zj] at h
   simp only [Zi]
   rcases Y6.1 h with h | h
   ·exact Y3 _ (iha h)
   ·exact Y0 _ (ihb h)
 rcases Y6.1 h with h | h
 ·obtain ⟨i,-,h2,h3⟩:=Z9U _ _ h
  have hn:=Z9X h
  refine ⟨i,by simp only [Sig.outs];omega,?_⟩
  rcases h3 with ⟨dp,t,e,h4,h0,h5⟩ | ⟨t,h4,x,h5,h6⟩ | ⟨f,h4,x,h5,h6⟩ | ⟨o,h4,x,h5,h6⟩
  ·refine .inl ⟨dp,t,e,h4,h0,fun hl=>?_⟩
   rcases h5 with ⟨x,h5,h6⟩ | ⟨x,h5,h6⟩ | ⟨o,⟨x,h5,h6⟩,h7⟩
   ·exact (ZaG hl).1 x h5 _ h6
   ·exact (ZaG hl).1 x h5 _ h6
   ·exact h7 false ((ZaG hl).1 x h5 _ h6)
  ·exact .inr (.inl ⟨t,h4,by omega,x,h5,h6⟩)
  ·exact .inr (.inr (.inr (.inl ⟨h4,.inl (by omega)⟩)))
  ·subst h4
   refine .inr (.inr (.inr (.inr ⟨o,_,rfl,fun q C hq=>?_,.inl ⟨by omega,fun hl=>(ZaG hl).1 x h5 _ h6⟩⟩)))
   obtain ⟨C,hC⟩:=Z9S h (hobj hq)
   exact ⟨C,Y3 _ hC⟩
 ·obtain ⟨i,-,h2,h3⟩:=Z9U _ _ h
  have hrow:∀{o:OC} {n i:Nat},B=.box (Zi n o 0 (.var o.ty i))→∀q C,(q,C)∈Zj n o 0 (.var o.ty i)→∃C,(q,C)∈Z20 sig:=by
   rintro o n i rfl q C hq
   obtain ⟨C,hC⟩:=Z9S h (hobj hq)
   exact ⟨C,Y0 _ hC⟩
  have hbox:∀m,B=.box m→∃i,i<sig.outs∧((∃t,B=.box (Zf t (.var t i))∧(k,B)∈shB (shN sig.rs) 0 (Z1P sig.ps)∧(∀j∈Z1R t,(k,j)∈Zn 0 sig.ps)∧(sig.leaks=false→t.hasNl=false))∨(B=.box [.no]∧(1000≤k∨(k,B)∈shB (shN sig.rs) 0 (Z1P sig.ps)∧(k,0)∈Zn 0 sig.ps)) ∨
   ∃o n,B=.box (Zi n o 0 (.var o.ty i))∧(∀q C,(q,C)∈Zj n o 0 (.var o.ty i)→∃C,(q,C)∈Z20 sig)∧((1000≤k∧(sig.leaks=false→o.flat false=true))∨(k,B)∈shB (shN sig.rs) 0 (Z1P sig.ps)∧(∀j∈Z1N o,(k,j)∈Zn 0 sig.ps)∧(sig.leaks=false→o.flat true=true))):=by
   intro m hm
   have h':=h
   rw [hm] at h'
   rcases Za9 h' with ⟨t',i',e1,e2,e3,e4,x,e5,e6⟩ | ⟨e1,e2⟩ | ⟨o,i',e1,e2,e3,e4,x,e5,e6⟩
   ·exact ⟨i',by simp only [Sig.outs];omega,.inl ⟨t',by rw [hm,e1],h,e4,fun hl=>by have:=(ZaG hl).2 x e5 _ e6;simpa [CS.flatB] using this⟩⟩
   ·exact ⟨i,by simp only [Sig.outs];omega,.inr (.inl ⟨by rw [hm,e1],.inr ⟨h,e2⟩⟩)⟩
   ·exact ⟨i',by simp only [Sig.outs];omega,.inr (.inr ⟨o,_,by rw [hm,e1],hrow (by rw [hm,e1]),.inr ⟨h,e4,fun hl=>(ZaG hl).2 x e5 _ e6⟩⟩)⟩
  rcases h3 with ⟨dp,t,e,h4,h0,h5⟩ | ⟨t,h4,x,h5,h6⟩ | ⟨f,h4,x,h5,h6⟩ | ⟨o,h4,x,h5,h6⟩
  ·refine ⟨i,by simp only [Sig.outs];omega,.inl ⟨dp,t,e,h4,h0,fun hl=>?_⟩⟩
   rcases h5 with ⟨x,h5,h6⟩ | ⟨x,h5,h6⟩ | ⟨o,⟨x,h5,h6⟩,h7⟩
   ·exact (ZaG hl).2 x h5 _ h6
   ·exact (ZaG hl).2 x h5 _ h6
   ·exact h7 true ((ZaG hl).2 x h5 _ h6)
  all_goals
   obtain ⟨i',h7,h8⟩:=hbox _ h4
   exact ⟨i',h7,.inr (.inr h8)⟩
theorem Zb.flat {w:World} {M M':Nat→Prop} {G0:G} {dp:Bool} {t:Ty} {ds:List t.D} (hf:(dp||!t.hasSl)=true∨∀b,M' b→M b) (h:Zb w M G0 dp t (fun _=>none) ds):Zb w M' G0 dp t (fun _=>none) ds:=by
 obtain ⟨o,xs,Fs,h1,h2,h3,h4⟩:=h
 refine ⟨o,xs,Fs,h1,h2,h3,fun i hi=>?_⟩
 obtain ⟨us,a1,a2,a3⟩:=h4 i hi
 refine ⟨us,a1,a2,?_⟩
 unfold Row at a3 ⊢
 split
 ·rename_i hd;rw [if_pos hd] at a3;exact a3
 ·rename_i hd
  rw [if_neg hd] at a3
  refine ⟨a3.1,?_⟩
  rcases hf with hf | hf
  ·have:t.hasSl=false:=by simpa [hd] using hf
   exact Rep.flat this a3.2
  ·exact a3.2.keep ⟨fun _ _ _=>rfl,fun b _ hb=>hf b hb⟩
theorem ZaI {c:Cx} {K:Z4} (hK:KOK c K) :
  ∀(f:FuncId) (sig:Sig) (s:St) (id:Nat) (ops:List Operand) (gs:List (E .bool)) (ins:List AE) (sv:SV) (s':St) (outs:List AV) (bd:Bd) (N:Nat→Prop) (r:Env) (g:Nat→G) (a:Act) (st:List (Array Value)) (w:World),
  c.sg f=some sig→Z2f sig s id ops=some (gs,ins,sv,s')→R bd N s r g a.tmps st w→(∀i,N i→i<id)→(∀e∈gs,den e r=true)→K f (ins.map (Z0 · r))=some outs →
  Enters c.P f∧Calls c.P f (ops.map a.eval).toArray w fun e w'=>∃v g',e=.returned v∧((sig.ps.all fun h=>!h.byRef)=true→Ext w w')∧R bd (·<id+64) s' (Z2 r id outs) g' a.tmps st w'∧Z9 w' (Mt bd.Z s'.heap g') g' (Z2 r id outs) sv v∧sv.all (Atom.ok (·<id+64) s'.heap):=by
 intro f sig s0 id ops gs ins sv s' outs bd N r g0 a st w hsg hsc h0 hN hgs hKo
 unfold Z2f at hsc
 have h:R bd N (if sig.leaks then (Z2e s0 sig.ps ops).foldl St.freeze (s0.solids ops) else s0) r g0 a.tmps st w:=by
  split
  ·exact (h0.solids ops).freezes _
  ·exact h0
 generalize (if sig.leaks=true then (Z2e s0 sig.ps ops).foldl St.freeze (s0.solids ops) else s0)=s at hsc h
 clear h0
 unfold Z2b at hsc
 split at hsc
 case h_2=>cases hsc
 rename_i o hm
 simp only at hsc
 split at hsc
 case isFalse=>cases hsc
 rename_i hcond
 obtain ⟨sv',hsv,heq⟩:=Ya.1 hsc
 simp only [Y9] at heq
 obtain ⟨rfl,rfl,rfl,rfl⟩:=heq
 simp only [Y5,Ye] at hcond
 obtain ⟨⟨⟨⟨⟨⟨⟨⟨⟨⟨⟨hself,hclo⟩,hok⟩,hleak⟩,htg⟩,heat⟩,hkps⟩,hnb⟩,hpl⟩,hfl⟩,hnd⟩,houts⟩:=hcond
 obtain ⟨hent,hlen,hcon⟩:=hK f sig _ _ hsg hKo
 obtain ⟨hini0,hlive⟩:=Zal h hm hok hnb hgs
 have hini:=Zap h hini0 hnb hself
 clear hini0
 generalize hlv:(fun i=>!o.ids.contains i:Nat→Bool)=lv at *
 have lvI:∀i,lv i=true→i∉o.ids:=fun i hi=>by rw [←hlv] at hi;simpa using hi
 generalize hψ:Z2a o.tg id=ψ at *
 generalize hbl:(Z20 sig).map (fun p=>(ψ p.1,Z27 lv s.heap (ψ p.1) p.1 (Z23 ψ id p.2)))=bl at *
 generalize hbd:(⟨fun b=>∃i∈o.ids,b∈(g0 i).foot,w,(List.range (Zl sig.ps)).map (ZD (Zp o.tg) g0),Zn 0 sig.ps,fun k j=>cell w (ZD (Zp o.tg) g0 k).blk j,fun b=>(∃j B,s.heap j=some B∧j∉o.ids∧j∉o.rd∧b∈(g0 j).foot)∨bd.Z b⟩:Bd)=bd' at *
 have hw0:bd'.w0=w:=by rw [←hbd]
 have hM0:∀b,bd'.M0 b↔∃i∈o.ids,b∈(g0 i).foot:=fun b=>by rw [←hbd]
 have hZ:∀b,bd'.Z b↔((∃j B,s.heap j=some B∧j∉o.ids∧j∉o.rd∧b∈(g0 j).foot)∨bd.Z b):=fun b=>by rw [←hbd]
 refine ⟨hent,(hcon bd' _ _ w hini hw0).mono ?_⟩
 rintro e w' ⟨vals,gf,rfl,hfin⟩
 have hWd:=hfin.world
 have hid:∀k i,Zp o.tg k=some i→i∈o.ids:=fun k i hk=>YO.2 ⟨_,Zaf hk,rfl⟩
 have F1:∀p B,(p,B)∈Z20 sig→p<1000→∃i,Zp o.tg p=some i∧p<Zl sig.ps∧ψ p=i:=by
  intro p B hp hlt
  have:=YG.1 hfl (p,B) hp
  simp only [hlt,if_true,Y5,Ye] at this
  obtain ⟨i,hi⟩:=YE.1 this.1
  exact ⟨i,hi,this.2,by rw [←hψ];simp [Z2a,hlt,hi]⟩
 have F2:∀p B,(p,B)∈Z20 sig→¬p<1000→s.heap (ψ p)=none∧s.np≤ψ p:=by
  intro p B hp hge
  have:=YG.1 hfl (p,B) hp
  simp only [hge,if_false,Y5,Ye,Option.isNone_iff_eq_none] at this
  exact this
 have blmem:∀k B',look bl k=some B'→∃p B,(p,B)∈Z20 sig∧ψ p=k∧B'=Z27 lv s.heap k p (Z23 ψ id B):=by
  intro k B' hk
  have:=Zac hk
  rw [←hbl] at this
  obtain ⟨⟨p,B⟩,h1,h2⟩:=Yo.1 this
  simp only [Y9] at h2
  exact ⟨p,B,h1,h2.1,by rw [←h2.1];exact h2.2.symm⟩
 have inj:∀{p q:Nat} {B C:Blk},(p,B)∈Z20 sig→(q,C)∈Z20 sig→ψ p=ψ q→p=q∧B=C:=by
  intro p q B C h1 h2 h3
  rw [←hbl] at hnd
  exact Zaj (φ:=fun p=>Z27 lv s.heap (ψ p.1) p.1 (Z23 ψ id p.2)) hnd h1 h2 h3
 have blook:∀p B,(p,B)∈Z20 sig→look bl (ψ p)=some (Z27 lv s.heap (ψ p) p (Z23 ψ id B)):=by
  intro p B hp
  refine Zai hnd ?_
  rw [←hbl]
  exact Yo.2 ⟨_,hp,rfl⟩
 have finl:∀p B,(p,B)∈Z20 sig→sig.fin.heap p=some B:=by
  intro p B hp
  have h1:=Zad hp
  obtain ⟨C,hC⟩:=YE.1 h1
  have:=(inj hp (Zac hC) rfl).2
  subst this
  exact hC
 generalize hea:Z28 o.tg=ea at *
 have idsT:∀i∈o.ids,(look bl i).isSome=true∨i∈ea:=by
  intro i hi
  obtain ⟨⟨q,t⟩,hq,ht⟩:=YO.1 hi
  simp only at ht
  subst ht
  have:=YG.1 htg _ hq
  simp only [YL,Ye] at this
  rcases this with h1 | h1
  ·right
   rw [←hea]
   exact YO.2 ⟨_,hq,by simp [h1]⟩
  ·exact .inl h1
 have eaI:∀i∈ea,i∈o.ids:=fun i hi=>ZaF (by rw [hea];exact hi)
 have eaN:∀i∈ea,look bl i=none∧s.np≤i:=by
  intro i hi
  have:=YG.1 heat i hi
  simp only [Y5,Option.isNone_iff_eq_none,Ye] at this
  exact this
 generalize hg2:(fun k=>match (Z20 sig).find? (fun p=>ψ p.1==k) with | some p=>gf p.1 | none=>g0 k:Nat→G)=g2
 have G1:∀p B,(p,B)∈Z20 sig→g2 (ψ p)=gf p:=by
  intro p B hp
  rw [←hg2]
  simp only
  cases hf:(Z20 sig).find? (fun x=>ψ x.1==ψ p) with
  | none =>
   have:=List.find?_eq_none.1 hf (p,B) hp
   simp at this
  | some x =>
   obtain ⟨q,C⟩:=x
   have h1:=List.find?_some hf
   have h2:=List.mem_of_find?_eq_some hf
   simp only [beq_iff_eq] at h1
   rw [(inj h2 hp h1).1]
 have G2:∀k,¬(look bl k).isSome=true→g2 k=g0 k:=by
  intro k hk
  rw [←hg2]
  simp only
  cases hf:(Z20 sig).find? (fun x=>ψ x.1==k) with
  | none=>rfl
  | some x =>
   obtain ⟨q,C⟩:=x
   have h1:=List.find?_some hf
   have h2:=List.mem_of_find?_eq_some hf
   simp only [beq_iff_eq] at h1
   exfalso
   apply hk
   rw [←h1,blook q C h2]
   rfl
 have hr2:∀v,v<outs.length→Z2 r id outs (v+id)=Z1 outs v:=by
  intro v hv
  simp only [Z2,Z1]
  rw [if_neg (by omega),Nat.add_sub_cancel,if_pos hv]
 have henv:R bd (·<id+64) s (Z2 r id outs) g0 a.tmps st w:=(h.env fun i hi=>by simp only [Z2];rw [if_pos (hN i hi)]).mono fun i hi=>by have:=hN i hi;omega
 have hsz:w.heap.size≤w'.heap.size:=by rw [←hw0];exact hWd.size
 have hkept:∀p j i,(p,j)∈Zn 0 sig.ps→Zp o.tg p=some i→cell w' (gf p).blk j=cell w (g0 i).blk j:=by
  intro p j i hp hi
  have:=hfin.kept (p,j) (by rw [←hbd];exact hp)
  rw [←hbd] at this
  simp only [ZE hi] at this
  exact this
 have main:=henv.replace (w':=w') (g':=g2) (Z29 o.ids ea) (fun k=>match look bl k with | some b=>some b | none=>bif ea.contains k then none else (s.heap k).map (Blk.map (Z29 o.ids ea))) s.base (fun k=>(look bl k).isSome=true∨k∈ea) ?_ ?_ ?_ ?_ ?_ hsz (by rw [←hw0];exact hWd.os) (by rw [←hw0];exact hWd.tape) (by rw [←hw0];exact hWd.output) ?_ ?_
 ·obtain ⟨hR,hkeep⟩:=main
  have hM2:sig.leaks=false∨∀b,Mt bd.Z (fun k=>match look bl k with | some b=>some b | none=>bif ea.contains k then none else (s.heap k).map (Blk.map (Z29 o.ids ea))) g2 b→Mt bd'.Z sig.fin.heap gf b:=by
   cases hl:sig.leaks with
   | false=>exact .inl rfl
   | true =>
    right
    have hrd:o.rd=[]:=by simpa [hl] using hleak
    rintro b (⟨k,C,hk,hb⟩ | hz)
    ·cases hT:look bl k with
     | some B' =>
      obtain ⟨p,B,h1,rfl,h3⟩:=blmem k B' hT
      rw [G1 p B h1] at hb
      exact .inl ⟨p,B,finl p B h1,hb⟩
     | none =>
      simp only [hT] at hk
      cases hke:ea.contains k
      case true=>rw [hke] at hk;cases hk
      rw [hke] at hk
      obtain ⟨C',hC',_⟩:=Ya.1 hk
      rw [G2 k (by simp [hT])] at hb
      refine .inr ((hZ b).2 (.inl ⟨k,C',hC',fun hi=>?_,by simp [hrd],hb⟩))
      rcases idsT k hi with h | h
      ·rw [hT] at h;cases h
      ·simp [h] at hke
    ·exact .inr ((hZ b).2 (.inr hz))
  have hflat:∀x∈sig.rs,∀c∈x.cs,c.flat=true∨∀b,Mt bd.Z (fun k=>match look bl k with | some b=>some b | none=>bif ea.contains k then none else (s.heap k).map (Blk.map (Z29 o.ids ea))) g2 b→Mt bd'.Z sig.fin.heap gf b:=by
   intro x hx c hc
   rcases hM2 with h1 | h1
   ·exact .inl ((ZaG h1).1 x hx c hc)
   ·exact .inr h1
  obtain ⟨hv,hvok⟩:=ZaD (w:=w') (ψ:=ψ) (d:=id) (FL:=Z20 sig) (r2:=Z2 r id outs) (g2:=g2) (h2:=fun k=>match look bl k with | some b=>some b | none=>bif ea.contains k then none else (s.heap k).map (Blk.map (Z29 o.ids ea))) hr2
   G1 (fun k B hk=>by simp only [blook k B hk];rfl) (l:=sig.rs) (v:=0) (p:=1000) (us:=vals) (fun k B hB=>Y3 _ hB) hflat
   (by rw [hlen];simp only [Sig.outs];omega) (by simpa [Sig.fin] using hfin.cur)
  obtain ⟨u,hu,hur⟩:=Z9e hv hsv
  have hpack:pack vals=u:=hu
  refine ⟨pack vals,g2,rfl,fun hby=>?_,hR,by rw [hpack];exact hur,SV.all_mono (fun b hb=>Atom.ok_mono (fun i hi=>by rw [hlen] at hi;omega) (fun _ h=>h) hb) (Z9f hvok hsv)⟩
  intro b hb
  rw [←hw0] at hb ⊢
  refine hWd.heap b hb fun hm0=>?_
  obtain ⟨i,hi,_⟩:=(hM0 b).1 hm0
  have:=ZaE hby hm
  simp [MO.ids,this] at hi
 ·-- atoms
  intro b hb
  unfold Z29
  cases hd0:((b.nst&&b.ids.any o.ids.contains)||b.ids.any ea.contains)
  ·simp only [Bool.or_eq_false_iff] at hd0
   obtain ⟨hd,hde⟩:=hd0
   refine .inr ⟨rfl,fun i hu hT=>?_⟩
   have hT:(look bl i).isSome=true:=by
    rcases hT with hT | hT
    ·exact hT
    ·exfalso
     have:b.ids.any ea.contains=true:=YQ.2 ⟨i,Zak hu,by simpa using hT⟩
     rw [this] at hde;cases hde
   obtain ⟨B',hB'⟩:=YE.1 hT
   obtain ⟨p,B,h1,h2,h3⟩:=blmem i B' hB'
   have hl:=hb.live hu
   have hplt:p<1000:=by
    rcases Nat.lt_or_ge p 1000 with h4 | h4
    ·exact h4
    ·have:=(F2 p B h1 (by omega)).1
     rw [h2] at this
     rw [this] at hl;cases hl
   obtain ⟨j,e1,e2,e3⟩:=F1 p B h1 hplt
   have hji:j=i:=by rw [←e3,h2]
   subst hji
   have hp0:=hfin.pin p (ZD (Zp o.tg) g0 p) (by rw [←hbd];simp [e2]) (by simpa [Sig.fin] using e2)
   rw [ZE e1] at hp0
   refine ⟨by simp only [hB'];rfl,?_,?_,fun hn=>?_⟩
   ·rw [←h2,G1 p B h1,h2];exact hp0.1
   ·rw [←h2,G1 p B h1,h2];exact hp0.2
   ·exfalso
    rw [hn] at hd
    simp only [Bool.true_and] at hd
    have:b.ids.any o.ids.contains=true:=YQ.2 ⟨j,Zak hu,by simpa using hid p j e1⟩
    rw [this] at hd;cases hd
  ·exact .inl rfl
 ·-- the rest
  intro i hi
  have hn:look bl i=none:=by cases hx:look bl i with
   | none=>rfl
   | some _=>exact (hi (.inl (by simp [hx]))).elim
  have hc:ea.contains i=false:=by
   cases hx:ea.contains i
   ·rfl
   ·exact (hi (.inr (by simpa using hx))).elim
  exact ⟨by simp only [hn,hc,cond_false],G2 i fun h=>hi (.inl h)⟩
 ·-- what stays
  intro b hb hT
  rw [←hw0] at hb ⊢
  refine hWd.heap b hb fun hm0=>?_
  obtain ⟨i,hi,hbi⟩:=(hM0 b).1 hm0
  obtain ⟨C,hC⟩:=hlive i hi
  exact hT i C (idsT i hi) hC hbi
 ·-- new blocks
  intro i B' hT hB'
  have hT:(look bl i).isSome=true:=by
   rcases hT with hT | hT
   ·exact hT
   ·have h1:=(eaN i hT).1
    simp only [h1] at hB'
    rw [show ea.contains i=true by simpa using hT] at hB'
    cases hB'
  obtain ⟨B2,hB2⟩:=YE.1 hT
  simp only [hB2,Y4] at hB'
  subst hB'
  obtain ⟨p,B,h1,h2,h3⟩:=blmem i B2 hB2
  subst h3
  obtain ⟨v,hv,hshape⟩:=ZaH h1
  have hbr:=hfin.heap p _ (finl p _ h1)
  have hgi:g2 i=gf p:=by rw [←h2,G1 p _ h1]
  have hok64:∀{b:Atom} {h':Nat→Option Blk},b.ok (·<id+outs.length) (fun _=>none)→b.ok (·<id+64) h':=fun hb=>Atom.ok_mono (fun i hi=>by rw [hlen] at hi;omega) (fun _ h=>by cases h) hb
  have hM2:sig.leaks=false∨∀b,Mt bd.Z (fun k=>match look bl k with | some b=>some b | none=>bif ea.contains k then none else (s.heap k).map (Blk.map (Z29 o.ids ea))) g2 b→Mt bd'.Z sig.fin.heap gf b:=by
   cases hl:sig.leaks with
   | false=>exact .inl rfl
   | true =>
    right
    have hrd:o.rd=[]:=by simpa [hl] using hleak
    rintro b (⟨k,C,hk,hb⟩ | hz)
    ·cases hT:look bl k with
     | some B' =>
      obtain ⟨p,B,h1,rfl,h3⟩:=blmem k B' hT
      rw [G1 p B h1] at hb
      exact .inl ⟨p,B,finl p B h1,hb⟩
     | none =>
      simp only [hT] at hk
      cases hke:ea.contains k
      case true=>rw [hke] at hk;cases hk
      rw [hke] at hk
      obtain ⟨C',hC',_⟩:=Ya.1 hk
      rw [G2 k (by simp [hT])] at hb
      refine .inr ((hZ b).2 (.inl ⟨k,C',hC',fun hi=>?_,by simp [hrd],hb⟩))
      rcases idsT k hi with h | h
      ·rw [hT] at h;cases h
      ·simp [h] at hke
    ·exact .inr ((hZ b).2 (.inr hz))
  have keyL:∀(p j0:Nat),Zp o.tg p=some j0→ψ p=j0→∀{cc:Array Value} {ty:TypeId},w'.heap[(gf p).blk]?=some (.cells cc ty (0,0))→∀(K:Nat→Prop),(∀j:Nat,K j→(p,j)∈Zn 0 sig.ps) →
    (Kept w (Mt bd.Z s.heap g0) w' (Mt bd.Z (fun k=>match look bl k with | some b=>some b | none=>bif ea.contains k then none else (s.heap k).map (Blk.map (Z29 o.ids ea))) g2)→∀j:Nat,K j→∀u,cc.toList[j]?=some u →
     Z7 w' (Mt bd.Z (fun k=>match look bl k with | some b=>some b | none=>bif ea.contains k then none else (s.heap k).map (Blk.map (Z29 o.ids ea))) g2) g2 (Z2 r id outs) (Z24 lv (match s.heap j0 with | some (.box l)=>l | _=>[]:List Atom)[j]?) u) ∧
    ∀j:Nat,(Z24 lv (match s.heap j0 with | some (.box l)=>l | _=>[]:List Atom)[j]?).ok (·<id+outs.length) (fun k=>match look bl k with | some b=>some b | none=>bif ea.contains k then none else (s.heap k).map (Blk.map (Z29 o.ids ea))):=by
   intro p j0 e1 e3 cc ty q2 K hK
   cases hC2:s.heap j0 with
   | none=>exact ⟨fun _ j _ u _=>trivial,fun j=>trivial⟩
   | some C2 =>
    cases C2 with
    | arr dp t e=>exact ⟨fun _ j _ u _=>trivial,fun j=>trivial⟩
    | hole t e k i j a=>exact ⟨fun _ j _ u _=>trivial,fun j=>trivial⟩
    | lent t e k i a=>exact ⟨fun _ j _ u _=>trivial,fun j=>trivial⟩
    | box l =>
     simp only
     have old:∀i,(s.heap i).isSome=true→i∉o.ids→look bl i=none∧ea.contains i=false:=by
      intro i hl hi
      refine ⟨?_,?_⟩
      ·cases hT:look bl i with
       | none=>rfl
       | some B' =>
        exfalso
        obtain ⟨p',B,h1',h2',h3'⟩:=blmem i B' hT
        rcases Nat.lt_or_ge p' 1000 with h4 | h4
        ·obtain ⟨j,e1',e2',e3'⟩:=F1 p' B h1' h4
         exact hi (by rw [←h2',e3'];exact hid p' j e1')
        ·have:=(F2 p' B h1' (by omega)).1
         rw [h2'] at this
         rw [this] at hl;cases hl
      ·cases hc:ea.contains i
       ·rfl
       ·exact (hi (eaI i (by simpa using hc))).elim
     refine ⟨fun hkp j hj u hu=>?_,fun j=>?_⟩
     ·cases hl:l[j]? with
      | none=>trivial
      | some a =>
       obtain ⟨z1,c0,ty0,z2,z3⟩:=henv.heap j0 _ hC2
       obtain ⟨u0,z4,z5⟩:=z3.get hl
       have z6:=hkept p j j0 (hK j hj) e1
       rw [Z0b,Z0b,q2,z2] at z6
       simp only at z6
       have:u0=u:=by
        have a1:c0[j]?=some u0:=by simpa using z4
        have a2:cc[j]?=some u:=by simpa using hu
        rw [a1,a2] at z6
        exact (Option.some.inj z6).symm
       subst this
       cases a with
       | x t e =>
        cases t with
        | sl c t=>exact Rep.keep hkp z5
        | _=>trivial
       | ref i =>
        simp only [Z24]
        cases hv:lv i with
        | false=>trivial
        | true =>
         have hli:(s.heap i).isSome=true:=h.nheap j0 _ hC2 _ (YD hl)
         have h5:=old i hli (lvI i hv)
         simp only [cond_true,Z7] at z5 ⊢
         rw [G2 i (by simp [h5.1])]
         exact z5
       | _=>trivial
     ·cases hl:l[j]? with
      | none=>trivial
      | some a =>
       have hn:a.ok N s.heap:=h.nheap j0 _ hC2 _ (YD hl)
       cases a with
       | x t e =>
        cases t with
        | sl c t=>exact E.vs_mono (fun i hi=>by have:=hN i hi;omega) _ hn
        | _=>trivial
       | ref i =>
        simp only [Z24]
        cases hv:lv i with
        | false=>trivial
        | true =>
         have h5:=old i hn (lvI i hv)
         simp only [cond_true,Atom.ok,h5.1,h5.2,cond_false,Option.isSome_map]
         exact hn
       | _=>trivial
  have hblk:(Kept w (Mt bd.Z s.heap g0) w' (Mt bd.Z (fun k=>match look bl k with | some b=>some b | none=>bif ea.contains k then none else (s.heap k).map (Blk.map (Z29 o.ids ea))) g2) →
    Zc w' (Mt bd.Z (fun k=>match look bl k with | some b=>some b | none=>bif ea.contains k then none else (s.heap k).map (Blk.map (Z29 o.ids ea))) g2) g2 (Z2 r id outs) i (Z27 lv s.heap i p (Z23 ψ id B))) ∧
    (Z27 lv s.heap i p (Z23 ψ id B)).ok (·<id+64) (fun k=>match look bl k with | some b=>some b | none=>bif ea.contains k then none else (s.heap k).map (Blk.map (Z29 o.ids ea))):=by
   rcases hshape with ⟨dp,t,ex,rfl,hpj,hx⟩ | ⟨t,rfl,hge,x,hx,hcc⟩ | ⟨t,rfl,hback,hkpt,hnl⟩ | ⟨rfl,hself⟩ | ⟨ob,nb,rfl,hrow,hwhere⟩
   ·have hsh:=Zar.pj (r2:=Z2 r id outs) (d:=id) hr2 (by rw [hlen];exact hv) hpj
    refine ⟨fun hkp=>?_,by simp only [Z23,Z27,Blk.ok];exact E.vs_mono (fun i hi=>by rw [hlen] at hi;omega) _ hsh.2⟩
    have hfl2:(dp||!t.hasSl)=true∨∀b,Mt bd.Z (fun k=>match look bl k with | some b=>some b | none=>bif ea.contains k then none else (s.heap k).map (Blk.map (Z29 o.ids ea))) g2 b→Mt bd'.Z sig.fin.heap gf b:=by
     rcases hM2 with h5 | h5
     ·exact .inl (hx h5)
     ·exact .inr h5
    simp only [Z23,Z27,Zc] at hbr ⊢
    rw [hgi,hsh.1]
    exact Zb.flat hfl2 hbr
   ·have hmx:Z27 lv s.heap i p (Z23 ψ id (.box (Zf t (.var t v))))=.box ((Zf t (.var t v)).map (Zq ψ id)):=by
     simp only [Z23,Z27]
     rw [if_neg (by omega)]
    have hok:=fun {M2:Nat→Prop} {us:List Value} (hf:t.hasSl=false∨∀b,M2 b→Mt bd'.Z sig.fin.heap gf b) (hus:Z8 w' (Mt bd'.Z sig.fin.heap gf) gf (Z1 outs) (Zf t (.var t v)) us) =>
     Zas (M2:=M2) (g2:=g2) (r2:=Z2 r id outs) (d:=id) (φ:=ψ) (h2:=fun _=>none) hf (Zar.var hr2 (by rw [hlen];exact hv)) hus
    simp only [Zc] at hbr
    obtain ⟨q1,cc,ty,q2,q3⟩:=hbr
    rw [hmx]
    refine ⟨fun hkp=>?_,fun b hb=>hok64 ((hok (M2:=Mt bd'.Z sig.fin.heap gf) (.inr fun _ h=>h) q3).2 b hb)⟩
    have hfl2:t.hasSl=false∨∀b,Mt bd.Z (fun k=>match look bl k with | some b=>some b | none=>bif ea.contains k then none else (s.heap k).map (Blk.map (Z29 o.ids ea))) g2 b→Mt bd'.Z sig.fin.heap gf b:=by
     rcases hM2 with h5 | h5
     ·have:=(ZaG h5).1 x hx _ hcc
      simp only [CS.flat,Yr] at this
      exact .inl this
     ·exact .inr h5
    simp only [Zc]
    rw [hgi]
    exact ⟨q1,cc,ty,q2,(hok hfl2 q3).1⟩
   ·have hplt:p<1000:=by
     have h4:=Z9X hback
     rw [Za5] at h4
     rcases Nat.lt_or_ge p 1000 with h5 | h5
     ·exact h5
     ·rcases h4 with h4 | h4
      ·omega
      ·exfalso
       have hpn:=Z9Z hback
       rw [Za5] at hpn
       omega
    obtain ⟨j0,e1,e2,e3⟩:=F1 p _ h1 hplt
    have hji:j0=i:=by rw [←e3,h2]
    subst hji
    obtain ⟨C,hC⟩:=hlive j0 (hid p j0 e1)
    simp only [Zc] at hbr
    obtain ⟨q1,cc,ty,q2,q3⟩:=hbr
    have hpin:=hfin.pin p (ZD (Zp o.tg) g0 p) (by rw [←hbd];simp [e2]) (by simpa [Sig.fin] using e2)
    rw [ZE e1] at hpin
    generalize hL:(match s.heap j0 with | some (.box l)=>l | _=>[]:List Atom)=L
    have hmx:Z27 lv s.heap j0 p (Z23 ψ id (.box (Zf t (.var t v))))=.box (Z26 lv L ((Zf t (.var t v)).map (Zq ψ id))):=by
     rw [←hL]
     simp only [Z23,Z27]
     rw [if_pos hplt]
     rfl
    obtain ⟨kk1,kk2⟩:=keyL p j0 e1 h2 q2 (fun j=>j∈Z1R t) hkpt
    rw [hL] at kk1 kk2
    rw [hmx]
    refine ⟨fun hkp=>?_,fun b hb=>Atom.ok_mono (fun i hi=>by rw [hlen] at hi;omega) (fun _ h=>h) (Zaw (l:=L) (Zar.var hr2 (by rw [hlen];exact hv)) (fun j hj=>kk2 j) b hb)⟩
    simp only [Zc]
    rw [hgi]
    exact ⟨q1,cc,ty,q2,Zav (l:=L) (hM2.imp_left hnl) (Zar.var hr2 (by rw [hlen];exact hv)) q3 (fun j hj u hu=>kk1 hkp j hj u hu)⟩
   ·-- a closure over itself
    have hplain:Z27 lv s.heap i p (Z23 ψ id (.box [.no]))=.box [.no]∨(p<1000∧(p,0)∈Zn 0 sig.ps∧∃f caps l,s.heap i=some (.box (.clo f caps::l))∧Z27 lv s.heap i p (Z23 ψ id (.box [.no]))=.box [.clo f caps]):=by
     simp only [Z23,Z27,List.map_cons,List.map_nil,Zq]
     split
     ·rename_i hplt
      have hk0:(p,0)∈Zn 0 sig.ps:=by
       rcases hself with h5 | ⟨_,h5⟩
       ·omega
       ·exact h5
      simp only [Z26,Z25]
      split
      ·rename_i f caps hhd
       right
       refine ⟨hplt,hk0,f,caps,?_⟩
       cases hC:s.heap i with
       | none=>rw [hC] at hhd;simp at hhd
       | some C =>
        cases C with
        | box l =>
         rw [hC] at hhd
         cases l with
         | nil=>simp at hhd
         | cons x l => 
          simp only [List.head?_cons,Y4] at hhd
          subst hhd
          exact ⟨l,rfl,rfl⟩
        | arr dp t e=>rw [hC] at hhd;simp at hhd
        | hole t e k i j a=>rw [hC] at hhd;simp at hhd
        | lent t e k i a=>rw [hC] at hhd;simp at hhd
      ·exact .inl rfl
     ·exact .inl rfl
    simp only [Zc] at hbr
    obtain ⟨q1,cc,ty,q2,q3⟩:=hbr
    rcases hplain with hpl1 | ⟨hplt,hk0,f,caps,l,hC,hpl1⟩
    ·rw [hpl1]
     refine ⟨fun hkp=>?_,fun b hb=>by rw [Y1.1 hb];trivial⟩
     simp only [Zc]
     rw [hgi]
     refine ⟨q1,cc,ty,q2,?_⟩
     generalize cc.toList=l at q3
     match l,q3 with
     | [u],_=>exact ⟨trivial,trivial⟩
    ·rw [hpl1]
     obtain ⟨j0,e1,e2,e3⟩:=F1 p _ h1 hplt
     have hji:j0=i:=by rw [←e3,h2]
     subst hji
     have hlivec:∀x∈caps,(s.heap x.1).isSome=true:=h.nheap j0 _ hC _ (Yd ..)
     have hnewl:∀x∈caps,(match look bl x.1 with | some b=>some b | none=>bif ea.contains x.1 then none else (s.heap x.1).map (Blk.map (Z29 o.ids ea)):Option Blk).isSome=true:=by
      intro x hx
      have:=hlivec x hx
      cases look bl x.1 with
      | some b=>rfl
      | none =>
       have hno:ea.contains x.1=false:=by
        simp only [YL,List.isEmpty_iff,YG] at hclo
        rcases hclo with h5 | h5
        ·rw [h5];rfl
        ·have h6:=h5 _ h1
         simp only [h2,hC,YG,Yr] at h6
         exact h6 x hx
       rw [hno]
       simp only [cond_false,Option.isSome_map]
       exact this
     have hblkc:∀x∈caps,(g2 x.1).blk=(g0 x.1).blk:=by
      intro x hx
      have hl:=hlivec x hx
      cases hT:look bl x.1 with
      | none=>rw [G2 x.1 (by simp [hT])]
      | some B' =>
       obtain ⟨p',B,h1',h2',h3'⟩:=blmem x.1 B' hT
       have hplt':p'<1000:=by
        rcases Nat.lt_or_ge p' 1000 with h4 | h4
        ·exact h4
        ·have:=(F2 p' B h1' (by omega)).1
         rw [h2'] at this
         rw [this] at hl;cases hl
       obtain ⟨j,e1',e2',e3'⟩:=F1 p' B h1' hplt'
       have hp0:=hfin.pin p' (ZD (Zp o.tg) g0 p') (by rw [←hbd];simp [e2']) (by simpa [Sig.fin] using e2')
       rw [ZE e1'] at hp0
       have hj:j=x.1:=by rw [←e3',h2']
       rw [←h2',G1 p' B h1',h2',←hj]
       exact hp0.1
     refine ⟨fun hkp=>?_,fun b hb=>?_⟩
     ·simp only [Zc]
      rw [hgi]
      refine ⟨q1,cc,ty,q2,?_⟩
      obtain ⟨z1,c0,ty0,z2,z3⟩:=h.heap j0 _ hC
      have z6:=hkept p 0 j0 hk0 e1
      rw [Z0b,Z0b,q2,z2] at z6
      simp only at z6
      generalize hcc:cc.toList=lc at q3
      match lc,q3 with
      | [u],_ =>
       generalize hc0:c0.toList=l0 at z3
       match l0,z3 with
       | u0::l0,z3 =>
        have:u=u0:=by
         have a1:cc[0]?=some u:=by rw [←Array.getElem?_toList,hcc];rfl
         have a2:c0[0]?=some u0:=by rw [←Array.getElem?_toList,hc0];rfl
         rw [a1,a2] at z6
         exact Option.some.inj z6
        subst this
        refine ⟨?_,trivial⟩
        have z4:=z3.1
        simp only [Z7] at z4 ⊢
        rw [z4]
        congr 2
        exact Ys fun x hx=>by rw [hblkc x hx]
     ·rw [Y1.1 hb]
      exact hnewl
   ·-- a box with rows of its own
    simp only [Zc] at hbr
    obtain ⟨q1,cc,ty,q2,q3⟩:=hbr
    have hsh:Zar (Z2 r id outs) id outs (.var ob.ty v):=Zar.var hr2 (by rw [hlen];exact hv)
    have hgo:∀k C,(k,C)∈Zj nb ob 0 (.var ob.ty v)→g2 (ψ k)=gf k:=fun k C hC=>by
     obtain ⟨C2,hC2⟩:=hrow k C hC
     exact G1 k C2 hC2
    have hho:∀k C,(k,C)∈Zj nb ob 0 (.var ob.ty v)→(match look bl (ψ k) with | some b=>some b | none=>bif ea.contains (ψ k) then none else (s.heap (ψ k)).map (Blk.map (Z29 o.ids ea)):Option Blk).isSome=true:=fun k C hC=>by
     obtain ⟨C2,hC2⟩:=hrow k C hC
     rw [blook k C2 hC2];rfl
    rcases hwhere with ⟨hge,hlk⟩ | ⟨hback,hkpt,hlk⟩
    ·have hmx:Z27 lv s.heap i p (Z23 ψ id (.box (Zi nb ob 0 (.var ob.ty v))))=.box ((Zi nb ob 0 (.var ob.ty v)).map (Zq ψ id)):=by
      simp only [Z23,Z27]
      rw [if_neg (by omega)]
     rw [hmx]
     refine ⟨fun hkp=>?_,fun b hb=>Atom.ok_mono (fun i hi=>by rw [hlen] at hi;omega) (fun _ h=>h) (Zaz (n:=nb) hsh hho b hb)⟩
     simp only [Zc]
     rw [hgi]
     exact ⟨q1,cc,ty,q2,Zay (n:=nb) (hM2.imp_left hlk) hsh hgo q3⟩
    ·have hplt:p<1000:=by
      have hpn:=Z9Z hback
      rw [Za5] at hpn
      omega
     obtain ⟨j0,e1,e2,e3⟩:=F1 p _ h1 hplt
     have hji:j0=i:=by rw [←e3,h2]
     subst hji
     obtain ⟨C,hC⟩:=hlive j0 (hid p j0 e1)
     generalize hL:(match s.heap j0 with | some (.box l)=>l | _=>[]:List Atom)=L
     have hmx:Z27 lv s.heap j0 p (Z23 ψ id (.box (Zi nb ob 0 (.var ob.ty v))))=.box (Z26 lv L ((Zi nb ob 0 (.var ob.ty v)).map (Zq ψ id))):=by
      rw [←hL]
      simp only [Z23,Z27]
      rw [if_pos hplt]
      rfl
     obtain ⟨kk1,kk2⟩:=keyL p j0 e1 h2 q2 (fun j=>j∈Z1N ob) hkpt
     rw [hL] at kk1 kk2
     rw [hmx]
     refine ⟨fun hkp=>?_,fun b hb=>Atom.ok_mono (fun i hi=>by rw [hlen] at hi;omega) (fun _ h=>h) (ZaB (n:=nb) hsh hho (fun j _=>kk2 j) b hb)⟩
     simp only [Zc]
     rw [hgi]
     exact ⟨q1,cc,ty,q2,ZaA (n:=nb) (hM2.imp_left hlk) hsh hgo q3 fun j hj u hu=>kk1 hkp j hj u hu⟩
  refine ⟨hblk.1,hblk.2,by rw [hgi];exact hfin.nodup p _ (finl p _ h1),fun b hb=>?_⟩
  ·rw [hgi] at hb
   rcases hfin.own p _ (finl p _ h1) b hb with h4 | h4
   ·obtain ⟨j,h5,h6⟩:=(hM0 b).1 h4
    obtain ⟨C,hC⟩:=hlive j h5
    exact .inr ⟨j,C,idsT j h5,hC,h6⟩
   ·rw [hw0] at h4
    exact .inl ⟨h4,hfin.lt p _ (finl p _ h1) b hb⟩
 ·-- each block once
  intro i j B C b hi hj hB hC hbi hbj
  have live:∀i B,((look bl i).isSome=true∨i∈ea)→(match look bl i with | some b=>some b | none=>bif ea.contains i then none else (s.heap i).map (Blk.map (Z29 o.ids ea)))=some B→(look bl i).isSome=true:=by
   intro i B hi hB
   rcases hi with hi | hi
   ·exact hi
   ·rw [(eaN i hi).1] at hB
    simp only [show ea.contains i=true by simpa using hi,cond_true] at hB
    cases hB
  have hi:=live i B hi hB
  have hj:=live j C hj hC
  obtain ⟨B2,hB2⟩:=YE.1 hi
  obtain ⟨C2,hC2⟩:=YE.1 hj
  obtain ⟨p,B3,h1,h2,_⟩:=blmem i B2 hB2
  obtain ⟨q,C3,h3,h4,_⟩:=blmem j C2 hC2
  rw [←h2,G1 p _ h1] at hbi
  rw [←h4,G1 q _ h3] at hbj
  have:=hfin.inj p q B3 C3 b (finl p _ h1) (finl q _ h3) hbi hbj
  subst this
  rw [←h2,←h4]
 ·-- what is not written
  intro cc hcc hT
  rw [←h.kp] at hcc
  have h1:=YG.1 hkps cc hcc
  rw [h.kp] at hcc
  have hkk:cc.1∈o.ids→∃q,q∈Zn 0 sig.ps∧Zp o.tg q.1=some cc.1∧q.2=cc.2:=by
   intro hi
   simp only [YN,hi,decide_true,Bool.not_true,Bool.false_or,YQ,Y5,Ye] at h1
   obtain ⟨q,h2,h3,h4⟩:=h1
   exact ⟨q,h2,h3,h4⟩
  obtain ⟨_,l,hl⟩:=h.kpl cc hcc
  have hin:cc.1∈o.ids:=by
   rcases hT with hT | hT
   case inr=>exact eaI _ hT
   obtain ⟨B2,hB2⟩:=YE.1 hT
   obtain ⟨p,B3,h2,h3,_⟩:=blmem cc.1 B2 hB2
   have hplt:p<1000:=by
    rcases Nat.lt_or_ge p 1000 with h4 | h4
    ·exact h4
    ·have:=(F2 p _ h2 (by omega)).1
     rw [h3,hl] at this;cases this
   obtain ⟨j,e1,e2,e3⟩:=F1 p _ h2 hplt
   rw [←h3,e3];exact hid p j e1
  obtain ⟨⟨p,j⟩,k1,k2,k3⟩:=hkk hin
  simp only at k2 k3
  obtain ⟨m,hm⟩:=Zab (v:=shN sig.rs) k1
  have hmf:(p,Blk.box m)∈Z20 sig:=Y0 _ hm
  have hp1:=(Za0 (v:=0) k1).1
  have hψp:ψ p=cc.1:=by rw [←hψ];simp only [Z2a];rw [if_pos (by omega),k2];rfl
  have hlk:=blook p _ hmf
  rw [hψp] at hlk
  have hG:=G1 p _ hmf
  rw [hψp] at hG
  refine ⟨?_,?_⟩
  ·simp only [hlk,Z23,Z27]
   rw [if_pos (show p<1000 by omega)]
   exact ⟨_,rfl⟩
  ·rw [hG,←k3]
   exact hkept p j cc.1 k1 k2
 ·-- pins
  intro k hk hT
  rcases hT with hT | hT
  case inr=>have:=(eaN k hT).2;omega
  obtain ⟨B2,hB2⟩:=YE.1 hT
  obtain ⟨p,B3,h2,h3,_⟩:=blmem k B2 hB2
  have hplt:p<1000:=by
   rcases Nat.lt_or_ge p 1000 with h4 | h4
   ·exact h4
   ·have:=(F2 p _ h2 (by omega)).2
    rw [h3] at this;omega
  obtain ⟨j,e1,e2,e3⟩:=F1 p _ h2 hplt
  have hp0:=hfin.pin p (ZD (Zp o.tg) g0 p) (by rw [←hbd];simp [e2]) (by simpa [Sig.fin] using e2)
  rw [ZE e1] at hp0
  rw [←h3,G1 p _ h2,e3]
  exact hp0
theorem ZaJ {s:St}:∀{l:List Sh} {m:List Operand} {t:Nat},Z2c s l m=some t→(l.all fun h=>!h.byRef)=false:=by
 intro l
 induction l with
 | nil=>intro m t h;simp [Z2c] at h
 | cons x l ih =>
  intro m t h
  rw [List.all_cons]
  cases x with
  | arr dp u=>simp [Sh.byRef,Sh.cs,CS.byRef]
  | p u =>
   cases m with
   | nil=>simp [Z2c] at h
   | cons y m=>simp only [Z2c] at h;rw [ih h];simp
  | box u =>
   cases m with
   | nil=>simp [Z2c] at h
   | cons y m=>simp only [Z2c] at h;rw [ih h];simp
  | eat dp u =>
   cases m with
   | nil=>simp [Z2c] at h
   | cons y m=>simp only [Z2c] at h;rw [ih h];simp
  | self u =>
   cases m with
   | nil=>simp [Z2c] at h
   | cons y m=>simp only [Z2c] at h;rw [ih h];simp
  | obj u =>
   cases m with
   | nil=>simp [Z2c] at h
   | cons y m=>simp only [Z2c] at h;rw [ih h];simp
  | agg u =>
   cases m with
   | nil=>simp [Z2c] at h
   | cons y m=>simp only [Z2c] at h;rw [ih h];simp
theorem ZaK {c:Cx} {K:Z4} (hI:Z7b c) (hK:KOK c K):Z7d c K:=by
 refine ⟨⟨hI,fun f sig ins outs h1 h2=>(hK f sig ins outs h1 h2).2.1⟩,?_⟩
 intro f sig s id ops gs ins sv s' outs bd N r g a st w hsg hsc h hN hgs hKo
 unfold Z2g at hsc
 split at hsc
 ·exact ZaI hK f sig s id ops gs ins sv s' outs bd N r g a st w hsg hsc h hN hgs hKo
 rename_i t hlt
 split at hsc
 case h_2=>cases hsc
 rename_i i s1 hl
 split at hsc
 case h_2=>cases hsc
 rename_i gs1 ins1 v1 s2 hc
 split at hsc
 case h_2=>cases hsc
 rename_i v' cur stk heap base np kp hu
 simp only [Y4,Y9] at hsc
 obtain ⟨rfl,rfl,rfl,rfl⟩:=hsc
 obtain ⟨g1,h1⟩:=Z6z h hl
 obtain ⟨hent,hcalls⟩:=ZaI hK f sig s1 id ops gs1 ins1 v1 s2 outs bd N r g1 a st w hsg hc h1 hN hgs hKo
 refine ⟨hent,hcalls.mono ?_⟩
 rintro e w' ⟨v,g2,rfl,_,h2,h3,h4⟩
 have hb:=ZaJ hlt
 have h5:=h2.slots (cur:=v1::s2.cur) (stk:=s2.stk) (tm':=(#[v]++a.tmps)) (st':=st) (by simpa using ⟨h3,h2.cur⟩) h2.stk (fun x hx=>by
  rcases Yl.1 hx with rfl | hx
  ·exact h4
  ·exact h2.ncur x hx) h2.nstk
 obtain ⟨g3,h6⟩:=Z6A (a:={ a with tmps:=#[v]++a.tmps }) h5 hu
 have hcur:Za w' (Mt bd.Z heap g3) g3 (Z2 r id outs) (v'::cur) (v::a.tmps.toList):=by simpa using h6.cur
 refine ⟨v,g3,rfl,fun hh=>(by rw [hb] at hh;cases hh),?_,hcur.1,h6.ncur v' (Yd ..)⟩
 exact h6.slots (cur:=cur) (stk:=stk) (tm':=a.tmps) (st':=st) hcur.2 h6.stk (fun x hx=>h6.ncur x (Yc _ hx)) h6.nstk
end Go.Sm
namespace Go.Sm
theorem ZaL:∀{l:List CS},∀x∈Zm l,(∃dp t,x=.arr dp t)∨(∃t,x=.box t)∨(∃f,x=.self f)∨∃o,x=.obj o
 | [],x,hx=>by cases hx
 | .p t::l,x,hx=>ZaL (l:=l) x hx
 | .eat _ _::l,x,hx=>ZaL (l:=l) x hx
 | .arr dp t::l,x,hx=>by
  rcases Yl.1 hx with rfl | hx
  ·exact .inl ⟨dp,t,rfl⟩
  ·exact ZaL (l:=l) x hx
 | .box t::l,x,hx=>by
  rcases Yl.1 hx with rfl | hx
  ·exact .inr (.inl ⟨t,rfl⟩)
  ·exact ZaL (l:=l) x hx
 | .self f::l,x,hx=>by
  rcases Yl.1 hx with rfl | hx
  ·exact .inr (.inr (.inl ⟨f,rfl⟩))
  ·exact ZaL (l:=l) x hx
 | .obj o::l,x,hx=>by
  rcases Yl.1 hx with rfl | hx
  ·exact .inr (.inr (.inr ⟨o,rfl⟩))
  ·exact ZaL (l:=l) x hx
theorem ZaM:∀{l:List Sh},∀x∈Z1P l,(∃dp t,x=.arr dp t)∨(∃t,x=.box t)∨(∃f,x=.self f)∨∃o,x=.obj o
 | [],x,hx=>by cases hx
 | c::l,x,hx=>by
  rcases Y6.1 hx with hx | hx
  ·exact ZaL x hx
  ·exact ZaM (l:=l) x hx
def ZaN (g:Nat→G):Nat→List Sh→List Value
 | _,[]=>[]
 | p,.box _::l=>.pointer (some ⟨(g p).blk,0,none⟩)::ZaN g (p+1) l
 | p,.self _::l=>.pointer (some ⟨(g p).blk,0,none⟩)::ZaN g (p+1) l
 | p,.obj _::l=>.pointer (some ⟨(g p).blk,0,none⟩)::ZaN g (p+1) l
 | p,_::l=>(g p).val::ZaN g (p+1) l
theorem ZaO {w:World} {M:Nat→Prop} {g:Nat→G} {r:Env}:∀{l:List Sh} {p:Nat},Za w M g r (Z1Q p l) (ZaN g p l)
 | [],_=>trivial
 | .box _::l,p=>⟨rfl,ZaO⟩
 | .self _::l,p=>⟨rfl,ZaO⟩
 | .obj _::l,p=>⟨rfl,ZaO⟩
 | .p _::l,p=>⟨rfl,ZaO⟩
 | .agg _::l,p=>⟨rfl,ZaO⟩
 | .arr _ _::l,p=>⟨rfl,ZaO⟩
 | .eat _ _::l,p=>⟨rfl,ZaO⟩
theorem ZaP {h0:Nat→Option Blk}:∀{l:List Sh} {v p:Nat} {o:MO},(∀x∈l,(∃dp t,x=.arr dp t)∨(∃t,x=.box t)∨(∃f,x=.self f)∨∃o,x=.obj o)→Z1X h0 v p l (Z1Q p l)=some o→∀k,p≤k→k<p+l.length→(k,some k)∈o.tg
 | [],v,p,o,_,_,k,h1,h2=>by simp at h2;omega
 | x::l,v,p,o,ha,hm,k,h1,h2=>by
  rcases ha x (Yd ..) with ⟨dp,t,rfl⟩ | ⟨t,rfl⟩ | ⟨f,rfl⟩ | ⟨ob,rfl⟩
  ·simp only [Z1Q] at hm
   unfold Z1X at hm
   split at hm
   case h_2=>cases hm
   rename_i y z hy hz
   cases hm
   simp only [MO.add,Y6]
   by_cases hk:k=p
   ·subst hk
    left
    simp only [Z1W,Zo,Z1V] at hy
    split at hy
    ·rename_i a b ha hb
     cases hy
     cases hb
     split at ha
     ·split at ha
      ·split at ha
       ·cases ha;exact Y3 _ (Y1.2 rfl)
       ·cases ha
      ·cases ha
     ·cases ha
    ·cases hy
   ·right
    have e:p+Zk (Sh.arr dp t).cs=p+1:=rfl
    rw [e] at hz
    exact ZaP (fun x hx=>ha x (Yc _ hx)) hz k (by omega) (by simp only [YA] at h2;omega)
  ·simp only [Z1Q] at hm
   unfold Z1X at hm
   split at hm
   case h_2=>cases hm
   rename_i y z hy hz
   cases hm
   simp only [MO.add,Y6]
   by_cases hk:k=p
   ·subst hk
    left
    simp only [Z1W,Zo,Z1V] at hy
    split at hy
    ·rename_i a b ha hb
     cases hy
     cases hb
     split at ha
     ·split at ha
      ·cases ha;exact Y3 _ (Y1.2 rfl)
      ·cases ha
     ·cases ha
    ·cases hy
   ·right
    have e:p+Zk (Sh.box t).cs=p+1:=rfl
    rw [e] at hz
    exact ZaP (fun x hx=>ha x (Yc _ hx)) hz k (by omega) (by simp only [YA] at h2;omega)
  ·simp only [Z1Q] at hm
   unfold Z1X at hm
   split at hm
   case h_2=>cases hm
   rename_i y z hy hz
   cases hm
   simp only [MO.add,Y6]
   by_cases hk:k=p
   ·subst hk
    left
    simp only [Z1W,Zo,Z1V] at hy
    split at hy
    ·rename_i a b ha hb
     cases hy
     cases hb
     split at ha
     ·cases ha;exact Y3 _ (Y1.2 rfl)
     ·cases ha
    ·cases hy
   ·right
    have e:p+Zk (Sh.self f).cs=p+1:=rfl
    rw [e] at hz
    exact ZaP (fun x hx=>ha x (Yc _ hx)) hz k (by omega) (by simp only [YA] at h2;omega)
  ·simp only [Z1Q] at hm
   unfold Z1X at hm
   split at hm
   case h_2=>cases hm
   rename_i y z hy hz
   cases hm
   simp only [MO.add,Y6]
   by_cases hk:k=p
   ·subst hk
    left
    simp only [Z1W,Zo,Z1V] at hy
    split at hy
    ·rename_i a b ha hb
     cases hy
     cases hb
     split at ha
     ·split at ha
      ·cases ha;exact Y3 _ (Yd ..)
      ·cases ha
     ·cases ha
    ·cases hy
   ·right
    have e:p+Zk (Sh.obj ob).cs=p+1:=rfl
    rw [e] at hz
    exact ZaP (fun x hx=>ha x (Yc _ hx)) hz k (by omega) (by simp only [YA] at h2;omega)
theorem ZaQ:∀{l:List Sh},(∀x∈l,(∃dp t,x=.arr dp t)∨(∃t,x=.box t)∨(∃f,x=.self f)∨∃o,x=.obj o)→l.length=Zl l
 | [],_=>rfl
 | x::l,h=>by
  rcases h x (Yd ..) with ⟨dp,t,rfl⟩ | ⟨t,rfl⟩ | ⟨f,rfl⟩ | ⟨ob,rfl⟩ <;>
  ·simp only [YA,Zl,ZaQ (l:=l) fun x hx=>h x (Yc _ hx)]
   show _=1+_
   omega
section
variable {c:Cx} {bd:Bd} {N:Nat→Prop} {s:St} {r:Env} {g:Nat→G} {w:World} {a:Act}
theorem ZaR (h:R bd N s r g a.tmps [] w) {sig:Sig} {fn:Func} {gs:List (E .bool)} {es:List AE} (hf:finish c sig fn.results.toList s=some (gs,es)) (hg:∀e∈gs,den e r=true) (hnp:bd.pins.length=Zl sig.ps) (hkp:bd.kp=Zn 0 sig.ps) :
  ∃vals g',(results fn a.tmps).run c.P w=.ok (pack vals) w∧es.length=sig.outs∧R bd (·<sig.outs) sig.fin (Z1 (es.map (Z0 · r))) g' vals.toArray [] w:=by
 unfold finish at hf
 split at hf
 case h_2=>cases hf
 rename_i l hl
 split at hf
 case h_2=>cases hf
 rename_i o1 o2 hm1 hm2
 split at hf
 case isFalse=>cases hf
 rename_i hok
 simp only [Y4,Y9] at hf
 obtain ⟨rfl,rfl⟩:=hf
 simp only [Y5,Ye] at hok
 obtain ⟨hok,hlt⟩:=hok
 generalize ho:o1.add o2=o at *
 simp only [MO.ok,Y5,YG,Yr,YN,YH] at hok
 obtain ⟨⟨hids,hnames⟩,hrd⟩:=hok
 obtain ⟨vals,hrun,hvals,hvok⟩:=Z9j h hl
 have hlen1:=Z9J hm1
 have hlen2:=Z9J hm2
 have htg:∀q t,((q,t)∈o1.tg∨(q,t)∈o2.tg)→(q,t)∈o.tg:=by
  intro q t hq
  rw [←ho]
  exact Y6.2 hq
 have hρ:∀q t,((q,t)∈o1.tg∨(q,t)∈o2.tg)→Zp o.tg q=t:=fun q t hq=>Zae hnames (htg q t hq)
 have hes:o.es=o1.es++o2.es:=by rw [←ho];rfl
 have hr:∀i x,o.es[i]?=some x→Z1 (o.es.map (Z0 · r)) (0+i)=Z0 x r:=fun i x hi=>Z8g (by simp [hi])
 have hr12:(∀i u,o1.es[i]?=some u→Z1 (o.es.map (Z0 · r)) (0+i)=Z0 u r)∧∀i u,o2.es[i]?=some u→Z1 (o.es.map (Z0 · r)) (shN sig.rs+i)=Z0 u r:=by
  have:=Z9E (x:=o1) (y:=o2) hlen1 (by rw [ho];exact hr)
  simpa only [Nat.zero_add] using this
 have hg1:∀e∈o1.gs,den e r=true:=fun e he=>hg e (by rw [←ho];exact Y3 _ he)
 have hg2:∀e∈o2.gs,den e r=true:=fun e he=>hg e (by rw [←ho];exact Y0 _ he)
 obtain ⟨nm1,hl1,-,-⟩:=Z9K (ρ:=Zp o.tg) (M':=fun _=>False) h (fun b hb=>hb.elim) hm1 hg1 hvals (fun q t hq=>hρ q t (.inl hq)) (fun i _ B _ x _ hx=>hx) hr12.1
 obtain ⟨nm2,hl2,-,-⟩:=Z9K (ρ:=Zp o.tg) (M':=fun _=>False) h (fun b hb=>hb.elim) hm2 hg2 ZaO (fun q t hq=>hρ q t (.inr hq)) (fun i _ B _ x _ hx=>hx) hr12.2
 have hlive:∀k i,Zp o.tg k=some i→i∈o.ids∧∃B,s.heap i=some B:=by
  intro k i hk
  have hk':=Zaf hk
  refine ⟨YO.2 ⟨_,hk',rfl⟩,?_⟩
  rw [←ho] at hk'
  rcases Y6.1 hk' with h1 | h1
  ·exact hl1 k i h1
  ·exact hl2 k i h1
 have hfoot:∀k b,b∈(ZD (Zp o.tg) g k).foot→∃i B,i∈o.ids∧s.heap i=some B∧b∈(g i).foot:=by
  intro k b hb
  cases hi:Zp o.tg k with
  | none=>simp [ZD,hi,Z7J] at hb
  | some i =>
   rw [ZE hi] at hb
   obtain ⟨h1,B,h2⟩:=hlive k i hi
   exact ⟨i,B,h1,h2,hb⟩
 have hM:∀b,Mt bd.Z sig.fin.heap (ZD (Zp o.tg) g) b→Mt bd.Z s.heap g b:=by
  rintro b (⟨k,B,hk,hb⟩ | hz)
  ·obtain ⟨i,C,_,h1,h2⟩:=hfoot k b hb
   exact .inl ⟨i,C,h1,h2⟩
  ·exact .inr hz
 have hrd':∀i∈o.rd,∀B,s.heap i=some B→∀x∈(g i).foot,¬Mt bd.Z sig.fin.heap (ZD (Zp o.tg) g) x:=by
  rintro i hi B hB x hx (⟨k,C,hk,hb⟩ | hz)
  ·obtain ⟨j,D,h1,h2,h3⟩:=hfoot k x hb
   have:=h.inj i j B D x hB h2 hx h3
   subst this
   exact hrd i hi h1
  ·exact h.notZ hB hx hz
 obtain ⟨-,-,hcur,hb1⟩:=Z9K (ρ:=Zp o.tg) h hM hm1 hg1 hvals (fun q t hq=>hρ q t (.inl hq)) (fun i hi=>hrd' i (by rw [←ho];exact Y3 _ hi)) hr12.1
 obtain ⟨-,-,-,hb2⟩:=Z9K (ρ:=Zp o.tg) h hM hm2 hg2 ZaO (fun q t hq=>hρ q t (.inr hq)) (fun i hi=>hrd' i (by rw [←ho];exact Y0 _ hi)) hr12.2
 have hpins:=ZaP ZaM hm2
 rw [ZaQ ZaM,Za5] at hpins
 have hpin:∀k,k<Zl sig.ps→Zp o.tg k=some k:=fun k hk=>hρ k _ (.inr (hpins k (Yf _) (by omega)))
 have hout:o.es.length=sig.outs:=by rw [hes,Y7,hlen1,hlen2];rfl
 refine ⟨vals,ZD (Zp o.tg) g,?_,hout,?_⟩
 ·rw [Z9h,Array.mapM_eq_mapM_toList,map_eq_pure_bind,bind_assoc,run_bind_ok hrun]
  simp only [pure_bind]
  rfl
 ·refine h.view (ρ:=Zp o.tg) (bd':=bd) (s':=sig.fin) ?_ ?_ ?_ ?_ trivial ?_ h.world ?_ ?_ ?_ ?_ ?_ ?_ ?_ ?_
  ·intro k B' _ i hi
   exact (hlive k i hi).2
  ·intro k k' i _ _ h1 h2
   exact Zah hids (Zaf h1) (Zaf h2)
  ·intro k B' hk
   rcases Y6.1 (Zac hk) with h1 | h1
   ·exact hb1 k B' h1
   ·exact hb2 k B' h1
  ·simpa [Sig.fin] using hcur
  ·intro k B _ b hb
   obtain ⟨i,C,_,h1,h2⟩:=hfoot k b hb
   exact h.own i C h1 b h2
  ·intro k p hp hk
   rw [ZE (hpin k (by simpa [Sig.fin] using hk))]
   exact h.pin k p hp (by rw [h.np,hnp];simpa [Sig.fin] using hk)
  ·rw [hnp];rfl
  ·rw [hkp];rfl
  ·intro c hc
   have h1:=(Za0 (v:=0) (by rw [←hkp];exact hc)).1
   rw [ZE (hpin c.1 (by omega))]
   exact h.kept c hc
  ·intro c hc
   rw [hkp] at hc
   refine ⟨?_,?_⟩
   ·have h1:=(Za0 (v:=0) hc).1
    simpa [Sig.fin] using h1
   ·obtain ⟨m,hm⟩:=Zab (v:=shN sig.rs) hc
    refine ⟨m,Zai ?_ (Y0 _ hm)⟩
    have hn:(Z20 sig).map (·.1)=o.tg.map (·.1):=by
     rw [←ho]
     simp only [Z20,MO.add,YK,nm1,nm2]
    rw [hn]
    exact hnames
  ·exact Z9T (fun i _ h2=>by simp only [Sig.outs];omega) (fun k B hB=>Zad (Y3 _ hB))
  ·intro f hf;simp [Sig.fin] at hf
  ·intro k B hk
   rcases Y6.1 (Zac hk) with h1 | h1
   ·exact Z9V (fun i _ h2=>by simp only [Sig.outs];omega) (fun k B hB=>Zad (Y3 _ hB)) k B h1
   ·exact Z9V (fun i _ h2=>by simp only [Sig.outs];omega) (fun k B hB=>Zad (Y0 _ hB)) k B h1
end
theorem ZaS {c:Cx} {K:Z4} {m:Nat} (hm:c.P.follows .mixedOrders=true) (hcall:Z7d c K) {f:FuncId} {sig:Sig} {t:Tr} (hsg:c.sg f=some sig) (ht:Zs c f=some t) {ins outs:List AV} (hrun:run K m t (Z1 ins)=some (.ret outs)):Zag c.P f sig ins outs:=by
 unfold Zs at ht
 split at ht
 case h_2=>cases ht
 rename_i fn g hfn hg
 rw [hsg] at hg
 cases hg
 split at ht
 case h_2=>cases ht
 rename_i b hb
 split at ht
 case isFalse=>cases ht
 rename_i hcond
 simp only [Y4] at ht
 subst ht
 have hleafy:=Z9o (c:=c) (fn:=f) (Z9u (c:=c) (K:=K) (m:=m) 12) b (sig.init fn.ntmps)
 have hclosed:∀(x:Ex) (s:St),Closed K m (match x with
   | .exit _=>.bad
   | _=>match finish c sig fn.results.toList s with
    | some (gs,vs)=>.guards gs (.ret vs)
    | none=>.bad):=by
  intro x s
  split
  ·exact Closed.bad
  ·split
   ·exact Closed.guards fun r l vs h=>by simp only [run] at h;cases h
   ·exact Closed.bad
 rcases run_bind hclosed _ _ _ hrun with ⟨l,us,h1,h2⟩ | ⟨us,h1,h2⟩ | ⟨x,s1,r1,h1,h2⟩
 ·cases h2
 ·obtain ⟨_,_,_,h3⟩:=hleafy _ _ h1;cases h3
 have hx:∃gs vs,finish c sig fn.results.toList s1=some (gs,vs)∧run K m (.guards gs (.ret vs)) r1=some (.ret outs):=by
  split at h2
  ·simp only [run] at h2;cases h2
  ·split at h2
   ·rename_i gs vs hf;exact ⟨gs,vs,hf,h2⟩
   ·simp only [run] at h2;cases h2
 have hxe:∀j,x≠.exit j:=by
  rintro j rfl
  simp only [run] at h2;cases h2
 obtain ⟨gs,vs,hfin,hr⟩:=hx
 obtain ⟨hgs,hr⟩:=Z71 hr
 simp only [run,Y4,Out.ret.injEq] at hr
 have hlen:vs.length=sig.outs:=by
  unfold finish at hfin
  split at hfin
  case h_2=>cases hfin
  split at hfin
  case h_2=>cases hfin
  rename_i o1 o2 hm1 hm2
  split at hfin
  case isFalse=>cases hfin
  simp only [Y4,Y9] at hfin
  obtain ⟨-,rfl⟩:=hfin
  simp only [MO.add,Y7,Z9J hm1,Z9J hm2]
  rfl
 refine ⟨⟨fn,hfn,hcond.2.2,by rw [hb];rfl⟩,by rw [←hr,YF,hlen],?_⟩
 intro bd g args w hini hw0
 have hal:sig.ps.length=args.length:=by
  have h3:=hini.cur.length
  have:∀(l:List Sh) (v p:Nat),(Z1O v p l).length=l.length:=by
   intro l
   induction l with
   | nil=>intro v p;rfl
   | cons x l ih=>intro v p;simp [Z1O,ih]
  simpa [Sig.ini1,this] using h3
 have hR:R bd (·<100000) (sig.init fn.ntmps) (Z1 ins) g (args.toArray++Array.replicate (fn.ntmps - args.toArray.size) undef) [] w:=by
  refine (hini.mono fun i hi=>YP (YP hi hcond.2.1) (show 90000≤100000 by omega)).slots (cur:=Z1O 0 0 sig.ps++List.replicate (fn.ntmps - sig.ps.length) (.a .un)) (stk:=[]) (st':=[]) ?_ trivial (fun v hv=>?_) (fun f hf=>by cases hf)
  ·rw [Array.toList_append,Array.toList_replicate,List.size_toArray,←hal]
   exact hini.cur.app (Za.uns _)
  ·rcases Y6.1 hv with hv | hv
   ·exact SV.all_mono (fun b hb=>Atom.ok_mono (fun i hi=>YP (YP hi hcond.2.1) (show 90000≤100000 by omega)) (fun _ h=>h) hb) (hini.ncur v hv)
   ·rw [(List.mem_replicate.1 hv).2];trivial
 have hcode:=Z9t hm hcall (Z9v hm hcall 12) (Z9u 12) b _ (Z1 ins) g { tmps:=args.toArray++Array.replicate (fn.ntmps - args.toArray.size) undef,defers:=[] } w _ hR h1
 refine calls_of_wp hfn hb (Code.wp_mono ?_ hcode)
 rintro e' a' w' ⟨hd,x',s',r',g',heq,hR',he⟩
 cases heq
 obtain ⟨vals,g2,e1,_,e3⟩:=ZaR (c:=c) (fn:=fn) hR' hfin hgs (by rw [←hini.np];rfl) hini.kp.symm
 rw [hr] at e3
 cases x with
 | exit j=>exact (hxe j rfl).elim
 | normal=>subst he;exact ⟨hd,pack vals,e1,vals,g2,rfl,e3⟩
 | ret=>subst he;exact ⟨hd,pack vals,e1,vals,g2,rfl,e3⟩
theorem ZaT {c:Cx} {F:FuncId→Option Tr} {H:Z4} (hI:Z7b c) (hm:c.P.follows .mixedOrders=true) (hF:∀f t,F f=some t→Zs c f=some t)
  (hH:∀f sig ins outs,F f=none→c.sg f=some sig→H f ins=some outs→Zag c.P f sig ins outs):∀n,KOK c (Z09 F H n)
 | 0=>fun f sig ins outs _ h=>by simp only [Z09] at h;cases h
 | n+1=>fun f sig ins outs hsg h=>by
  simp only [Z09] at h
  split at h
  ·rename_i t ht
   split at h
   ·rename_i vs hr
    cases h
    exact ZaS hm (ZaK hI (ZaT hI hm hF hH n)) hsg (hF f t ht) hr
   ·cases h
  ·rename_i ht
   exact hH f sig ins outs ht hsg h
end Go.Sm
namespace Go.Sm.Q
open Go.Sm
abbrev I:Ty:=.int .i64
abbrev U:Ty:=.int .u8
abbrev B:Ty:=.bool
abbrev S:Ty:=.str
abbrev L (t:Ty):Ty:=.sl false t
abbrev N (t:Ty):Ty:=.sl true t
abbrev P (a b:Ty):Ty:=.pr a b
abbrev V3:Ty:=.pr I (.pr I I)
abbrev T4:Ty:=.pr I (.pr I (.pr I I))
abbrev TR:Ty:=.pr (L T4) (.pr (L I) (L (L T4)))
abbrev v (t:Ty) (n:Nat):E t:=.var t n
abbrev c (n:Int):E I:=.int .i64 n
abbrev k (b:Bool):E B:=.bool b
abbrev ar (o:BinOp) {k:IntKind} (x y:E (.int k)):E (.int k):=.o2 (.ar o k) x y
abbrev add (x y:E I):E I:=.o2 (.ar .add .i64) x y
abbrev sub (x y:E I):E I:=.o2 (.ar .sub .i64) x y
abbrev mul (x y:E I):E I:=.o2 (.ar .mul .i64) x y
abbrev quo (x y:E I):E I:=.o2 (.ar .quo .i64) x y
abbrev rem (x y:E I):E I:=.o2 (.ar .rem .i64) x y
abbrev cm (o:BinOp) {k j:IntKind} (x:E (.int k)) (y:E (.int j)):E B:=.o2 (.cm o k j) x y
abbrev lt (x y:E I):E B:=.o2 (.cm .lss .i64 .i64) x y
abbrev le (x y:E I):E B:=.o2 (.cm .leq .i64 .i64) x y
abbrev gt (x y:E I):E B:=.o2 (.cm .gtr .i64 .i64) x y
abbrev ge (x y:E I):E B:=.o2 (.cm .geq .i64 .i64) x y
abbrev eq (x y:E I):E B:=.o2 (.cm .eql .i64 .i64) x y
abbrev ne (x y:E I):E B:=.o2 (.cm .neq .i64 .i64) x y
abbrev nt (x:E B):E B:=.o1 .not x
abbrev ln {t:Ty} (x:E (L t)):E I:=.o1 (.len false t) x
abbrev lm {b:Bool} {t:Ty} (x:E (.sl b t)):E I:=.o1 (.len b t) x
abbrev emp {b:Bool} {t:Ty} (x:E (.sl b t)):E B:=.o1 (.emp b t) x
abbrev re {b:Bool} (d:Bool) {t:Ty} (x:E (.sl b t)):E (.sl d t):=.o1 (.re b d t) x
abbrev f {a b:Ty} (x:E (.pr a b)):E a:=.o1 (.fst a b) x
abbrev s {a b:Ty} (x:E (.pr a b)):E b:=.o1 (.snd a b) x
abbrev one {t:Ty} (x:E t):E (L t):=.o1 (.one t) x
abbrev ix {t:Ty} (x:E (L t)) (y:E I):E t:=.o2 (.idx false t .i64) x y
abbrev im {b:Bool} {t:Ty} {k:IntKind} (x:E (.sl b t)) (y:E (.int k)):E t:=.o2 (.idx b t k) x y
abbrev app {t:Ty} (x y:E (L t)):E (L t):=.o2 (.app t) x y
abbrev take {t:Ty} (x:E (L t)) (y:E I):E (L t):=.o2 (.take t .i64) x y
abbrev drop {t:Ty} (x:E (L t)) (y:E I):E (L t):=.o2 (.drop t .i64) x y
abbrev rep {t:Ty} (x:E I) (y:E t):E (L t):=.o2 (.rep t .i64) x y
abbrev over {t:Ty} (x y:E (L t)):E (L t):=.o2 (.over t) x y
abbrev pr {a b:Ty} (x:E a) (y:E b):E (.pr a b):=.o2 (.pair a b) x y
abbrev st {t:Ty} (x:E (L t)) (i:E I) (y:E t):E (L t):=.o3 (.set t .i64) x i y
abbrev sm {t:Ty} {k:IntKind} (x:E (L t)) (i:E (.int k)) (y:E t):E (L t):=.o3 (.set t k) x i y
abbrev nl (t:Ty):E (L t):=.nil false t
abbrev z (t:Ty):E t:=.z t
abbrev pk {t:Ty} (b:E B) (x y:E t):E t:=.o3 (.pick t) b x y
abbrev a {t:Ty} (x:E t):AE:=⟨t,x⟩
end Go.Sm.Q
namespace Go.Sm
open Go.ChangeShapes Go.WideShapes Go.ChangeAt Go.RowKit
def Wf:(t:Ty)→t.D→Prop
 | .int k,n=>(Lit.int k n).wf=true
 | .bool,_=>True
 | .str,s=>s.size≤maxLen
 | .sl _ e,xs=>List.length (α:=e.D) xs≤maxLen∧∀x∈(xs:List e.D),Wf e x
 | .pr a b,p=>Wf a p.1∧Wf b p.2
def ZaU (P:Program) (r:TypeId→Ty→Bool):Nat→List Field→Ty→Bool
 | o,f::l,t =>
  match l,t with
  | [],t=>decide (f.offset=o)&&r f.type t&&decide (P.cellsOf f.type=t.size)
  | l,.pr a b=>decide (f.offset=o)&&r f.type a&&decide (P.cellsOf f.type=a.size)&&ZaU P r (o+a.size) l b
  | _,_=>false
 | _,[],_=>false
def ZaV (P:Program):Nat→TypeId→Ty→Bool
 | 0,_,_=>false
 | n+1,t,ty =>
  match P.underlying t,ty with
  | some (.int k),.int k'=>decide (k=k')
  | some .bool,.bool=>true
  | some .string,.str=>true
  | some (.slice e),.sl false u=>ZaV P n e u&&decide (P.cellsOf e=u.size)
  | some (.struct fs),ty=>ZaU P (ZaV P n) 0 fs.toList ty&&decide (P.cellsOf t=ty.size)
  | _,_=>false
section
variable {H:Type} {enc:TypeId×Value→H} {P:Program} {w:World} {spare:Nat→Bool} {held:Bool}
theorem cell_spot {a:Addr} {v:Value} (h:w.cell? a=some v):a.spot=none:=by
 unfold World.cell? at h
 split at h
 ·split at h
  ·cases h
  ·rename_i hs;simpa using hs
 ·cases h
theorem ZaW:∀(n:Nat) {t:TypeId} {ty:Ty} {fuel:Nat} {cs:List Value} {x:DataW H×List MemPlace},ZaV P n t ty=true→DataW.trod enc P w 0 spare held fuel t cs=some x→∃d,Rep w (fun _=>False) ty d cs∧Wf ty d
 | 0,t,ty,fuel,cs,x,hl,_=>by simp [ZaV] at hl
 | n+1,t,ty,fuel,cs,x,hl,h=>by
  unfold ZaV at hl
  split at hl
  ·rename_i k k' ht
   simp only [Ye] at hl
   subst hl
   obtain ⟨m,rfl,_,hw⟩:=DataW.trod_int ht h
   exact ⟨m,rfl,hw⟩
  ·rename_i ht
   obtain ⟨b,rfl,_⟩:=DataW.trod_bool ht h
   exact ⟨b,rfl,trivial⟩
  ·rename_i ht
   obtain ⟨s,rfl,_,hs⟩:=DataW.trod_string ht h
   exact ⟨s,rfl,hs⟩
  ·rename_i e u ht
   simp only [Y5,Ye] at hl
   rcases DataW.trod_slice ht h with ⟨rfl,_⟩ | ⟨a,len,cap,elems,rest,m,_,rfl,_,_,hlc,hcm,hel,hget,_,_⟩
   ·exact ⟨([]:List u.D),⟨none,0,rfl,Yh _,fun h=>(by cases h),fun _=>rfl,fun p hp=>by cases hp⟩,by simp [Wf]⟩
   ·have each:∀i,i<len→∃d:u.D,∃us,w.cells? 0 (a.add (i * P.cellsOf e)) (P.cellsOf e)=some us∧Rep w (fun _=>False) u d us∧Wf u d:=by
     intro i hi
     have h1:=hget i hi
     rw [List.getElem?_eq_getElem (by omega)] at h1
     obtain ⟨us,h2,h3⟩:=Option.bind_eq_some_iff.1 h1
     obtain ⟨d,h4,h5⟩:=ZaW n hl.1 h3
     exact ⟨d,us,h2,h4,h5⟩
    have hex:∃ds:List u.D,ds.length=len∧∀i (hi:i<ds.length),∃us,w.cells? 0 (a.add (i * P.cellsOf e)) (P.cellsOf e)=some us∧Rep w (fun _=>False) u ds[i] us∧Wf u ds[i]:=by
     have:∀k,k≤len→∃ds:List u.D,ds.length=k∧∀i (hi:i<ds.length),∃us,w.cells? 0 (a.add (i * P.cellsOf e)) (P.cellsOf e)=some us∧Rep w (fun _=>False) u ds[i] us∧Wf u ds[i]:=by
      intro k
      induction k with
      | zero=>intro _;exact ⟨[],rfl,fun i hi=>by simp at hi⟩
      | succ k ih =>
       intro hk
       obtain ⟨ds,h1,h2⟩:=ih (by omega)
       obtain ⟨d,us,h3,h4,h5⟩:=each k (by omega)
       refine ⟨ds++[d],by simp [h1],fun i hi=>?_⟩
       by_cases hik:i<ds.length
       ·rw [List.getElem_append_left hik];exact h2 i hik
       ·have:i=k:=by simp at hi;omega
        subst this
        rw [List.getElem_append_right (by omega)]
        simp only [h1,Nat.sub_self,List.getElem_cons_zero]
        exact ⟨us,h3,h4,h5⟩
     exact this len (Yh _)
    obtain ⟨ds,hlen,hds⟩:=hex
    refine ⟨ds,⟨some a,cap,by rw [hlen],by rw [hlen];exact hlc,fun h=>(by cases h),fun h=>(by cases h),?_⟩,?_⟩
    ·intro p hp hne
     cases hp
     have h0:0<ds.length:=YJ.2 hne
     have hspot:a.spot=none:=by
      obtain ⟨us,h1,h2,_⟩:=hds 0 h0
      have h3:=(World.cells?_some h1).2.2 0 (by rw [hl.2];exact u.size_pos)
      have hl':=h2.len
      rw [List.getElem?_eq_getElem (by rw [hl'];exact u.size_pos)] at h3
      have:=cell_spot h3
      simp only [Nat.zero_mul] at this
      simp only [Addr.add] at this
      cases hs:a.spot with
      | none=>rfl
      | some sp=>simp [hs] at this
     refine ⟨hspot,fun h=>h,fun i hi=>?_⟩
     obtain ⟨us,h1,h2,_⟩:=hds i hi
     have hl':=h2.len
     refine ⟨us,hl',fun j v hj=>?_,h2⟩
     have hjl:j<us.length:=(Yn.1 hj).1
     have h3:=(World.cells?_some h1).2.2 j (by rw [hl.2,←hl'];exact hjl)
     rw [hj,hl.2,Z0e hspot,Addr.add_lit] at h3
     show cell w a.block (a.off+(i * u.size+j))=some v
     rw [←Nat.add_assoc]
     exact h3
    ·refine ⟨by rw [hlen];omega,fun y hy=>?_⟩
     obtain ⟨i,hi,rfl⟩:=List.getElem_of_mem hy
     obtain ⟨us,_,_,h3⟩:=hds i hi
     exact h3
  ·rename_i ty2 fs ht
   simp only [Y5,Ye] at hl
   obtain ⟨xs,m,_,_,hcl,hxl,hf⟩:=DataW.trod_struct ht h
   have key:∀(l:List Field) (o:Nat) (ty:Ty) (k:Nat),ZaU P (ZaV P n) o l ty=true→o+ty.size=cs.length→(∀i f,l[i]?=some f→fs[k+i]?=some f)→∃d,Rep w (fun _=>False) ty d (cs.drop o)∧Wf ty d:=by
    intro l
    induction l with
    | nil=>intro o ty k hlay;simp [ZaU] at hlay
    | cons f l ih =>
     intro o ty k hlay ho hfs
     have hfk:=hf k f (by simpa using hfs 0 f rfl)
     have hkl:k<xs.length:=by
      have:=hfs 0 f rfl
      have:=(Array.getElem?_eq_some_iff.1 this).1
      simpa [hxl] using this
     rw [List.getElem?_eq_getElem hkl] at hfk
     unfold ZaU at hlay
     split at hlay
     ·simp only [Y5,Ye] at hlay
      obtain ⟨⟨h1,h2⟩,h3⟩:=hlay
      subst h1
      rw [h3] at hfk
      obtain ⟨d,h4,h5⟩:=ZaW n h2 hfk
      rw [YI (by rw [Yq];omega)] at h4
      exact ⟨d,h4,h5⟩
     ·rename_i l' a b hne
      simp only [Y5,Ye] at hlay
      obtain ⟨⟨⟨h1,h2⟩,h3⟩,h4⟩:=hlay
      subst h1
      rw [h3] at hfk
      obtain ⟨d,h5,h6⟩:=ZaW n h2 hfk
      simp only [Ty.size] at ho
      obtain ⟨d2,h7,h8⟩:=ih (f.offset+a.size) b (k+1) h4 (by omega) (fun i g hg=>by have:=hfs (i+1) g (by simpa using hg);rwa [show k+1+i=k+(i+1) by omega])
      refine ⟨(d,d2),⟨(cs.drop f.offset).take a.size,cs.drop (f.offset+a.size),?_,h5,h7⟩,h6,h8⟩
      rw [←List.drop_drop,List.take_append_drop]
     ·cases hlay
   have:=key fs.toList 0 _ 0 hl.1 (by rw [Nat.zero_add,←hl.2,hcl]) (fun i f hi=>by simpa using hi)
   rwa [List.drop_zero] at this
  ·cases hl
end
theorem ZaX {P:Program} {W:World} {g:Nat→G} {sig:Sig} (hB:shB 0 0 sig.ps=[]) (hp:Zl sig.ps=0) {ins:List AV} {args:List Value} (hc:Za W (fun _=>False) g (Z1 ins) (Z1O 0 0 sig.ps) args) :
  R ⟨fun _=>False,W,[],[],fun _ _=>none,fun _=>False⟩ (·<shN sig.ps) sig.ini (Z1 ins) g args.toArray [] W:=by
 have hlook:∀k,sig.ini.heap k=none:=by intro k;simp [Sig.ini,hB,look]
 have hM:Mt (fun _=>False) sig.ini.heap g=fun _=>False:=by
  funext b
  apply propext
  constructor
  ·rintro (⟨k,B,hk,_⟩ | h)
   ·rw [hlook] at hk;cases hk
   ·exact h
  ·exact fun h=>h.elim
 refine { cur:=?_,stk:=trivial,heap:=?_,inj:=?_,nodup:=?_,own:=?_,lt:=?_,world:=⟨rfl,rfl,rfl,Yh _,fun _ _ _=>rfl,fun _ h=>h.elim⟩,pin:=?_,np:=hp,kp:=?_,kept:=fun c hc=>(by cases hc),kpl:=fun c hc=>(by cases hc),ncur:=?_,nstk:=fun f hf=>(by simp [Sig.ini] at hf),nheap:=?_ }
 ·show Za W (Mt (fun _=>False) sig.ini.heap g) g (Z1 ins) sig.ini.cur args.toArray.toList
  rw [hM];simpa [Sig.ini] using hc
 ·intro id B h;rw [hlook] at h;cases h
 ·intro id id' B B' b h;rw [hlook] at h;cases h
 ·intro id B h;rw [hlook] at h;cases h
 ·intro id B h;rw [hlook] at h;cases h
 ·intro id B h;rw [hlook] at h;cases h
 ·intro k p hp;simp at hp
 ·show Zn 0 sig.ps=[]
  cases hk:Zn 0 sig.ps with
  | nil=>rfl
  | cons c l =>
   have h1:=(Za0 (v:=0) (l:=sig.ps) (p:=0) (c:=c) (by rw [hk];exact Yd ..)).1
   omega
 ·exact Z9T (fun i _ h2=>by simpa using h2) (fun k B hB'=>by rw [hB] at hB';cases hB')
 ·intro id B h;rw [hlook] at h;cases h
theorem ZaY {P:Program} {f:FuncId} {sig:Sig} {ins:List AV} (hrs:sig.rs=[.p .bool]) (hB:shB 0 0 sig.ps=[]) (hp:Zl sig.ps=0) (hcon:Zag P f sig ins [⟨.bool,true⟩])
  {W:World} {args:List Value} (hc:Za W (fun _=>False) (fun _=>Z7J) (Z1 ins) (Z1O 0 0 sig.ps) args) :
  Calls P f args.toArray W fun e W'=>e=.returned (.bool true)∧Below W.heap.size W W':=by
 obtain ⟨_,_,h⟩:=hcon
 have hini1:sig.ini1=sig.ini:=by
  unfold Sig.ini1 Sig.ini Z1Z
  cases hso:Z1Y 0 sig.ps with
  | none=>rfl
  | some pf =>
   have:=(Zam (v:=0) hso).2
   rw [hB] at this;cases this
 refine (h _ _ args W (by rw [hini1];exact ZaX (P:=P) hB hp hc) rfl).mono ?_
 rintro e W' ⟨vals,g',rfl,hR⟩
 have hcur:=hR.cur
 simp only [Sig.fin,hrs,Z1O,Sh.sv] at hcur
 match vals,hcur with
 | [v],hcur =>
  have hv:v=.bool true:=by
   have:=hcur.1
   simp only [Z9,Z7,Rep] at this
   have h2:[v]=[Value.bool true]:=this
   simpa using h2
  subst hv
  exact ⟨rfl,hR.world.os,hR.world.tape,hR.world.output,hR.world.size,fun k hk=>hR.world.heap k hk fun h=>h⟩
 | [],hcur=>exact hcur.elim
 | _::_::_,hcur=>exact hcur.2.elim
def flT:Ty→List Ty
 | .pr a b=>flT a++flT b
 | .int k=>[.int k]
 | .bool=>[.bool]
 | .str=>[.str]
 | .sl c t=>[.sl c t]
def flV:(t:Ty)→t.D→List AV
 | .pr a b,d=>flV a d.1++flV b d.2
 | .int k,d=>[⟨.int k,d⟩]
 | .bool,d=>[⟨.bool,d⟩]
 | .str,d=>[⟨.str,d⟩]
 | .sl c t,d=>[⟨.sl c t,d⟩]
theorem ZaZ:∀(t:Ty) (d:t.D),(flV t d).length=(flT t).length:=by
 intro t
 induction t with
 | pr a b iha ihb=>intro d;simp only [flV,flT,Y7,iha,ihb]
 | _=>intro d;rfl
theorem Za_:∀(l m:List CS) (v p:Nat),csA v p (l++m)=csA v p l++csA (v+l.length) (p+Zk l) m
 | [],m,v,p=>by simp [csA,Zk]
 | c::l,m,v,p=>by
  simp only [List.cons_append,csA,Za_ l m,YA,Zk]
  rw [show v+1+l.length=v+(l.length+1) by omega,Nat.add_assoc]
theorem Zb0:∀(l:List Ty),Zk (l.map .p)=0
 | []=>rfl
 | t::l=>by simp only [List.map_cons,Zk,CS.pins,Zb0 l]
theorem Zb1 {w:World} {M:Nat→Prop} {g:Nat→G} {r:Env}:∀{t:Ty} {d:t.D} {us:List Value} {v p:Nat},Rep w M t d us→(∀i x,(flV t d)[i]?=some x→r (v+i)=x)→Z8 w M g r (csA v p ((flT t).map .p)) us:=by
 have leaf:∀{t:Ty} {d:t.D} {us:List Value} {v p:Nat},us.length=1→Rep w M t d us→r (v+0)=⟨t,d⟩→Z8 w M g r (csA v p [.p t]) us:=by
  intro t d us v p hl h hr
  obtain ⟨u,rfl⟩:=List.length_eq_one_iff.1 hl
  refine ⟨?_,trivial⟩
  simp only [CS.at,Z7,den]
  rw [Nat.add_zero] at hr
  rw [hr,AV.as_mk]
  exact h
 intro t
 induction t with
 | pr a b iha ihb =>
  intro d us v p h hr
  obtain ⟨l,m,rfl,h1,h2⟩:=h
  simp only [flT,YK,Za_]
  refine (iha h1 fun i x hi=>hr i x ?_).append (ihb h2 fun i x hi=>?_)
  ·simp only [flV]
   rw [Yw (Yn.1 hi).1];exact hi
  ·rw [YF,Nat.add_assoc]
   refine hr _ x ?_
   simp only [flV]
   rw [Yt (by rw [ZaZ];omega),ZaZ,Nat.add_sub_cancel_left]
   exact hi
 | _=>intro d us v p h hr;exact leaf h.len h (hr 0 _ rfl)
theorem Zb2 {α:Type} {l m:List α} {i:Nat} {x:α} (h:l[i]?=some x):(l++m)[i]?=some x:=by
 rw [Yw (Yn.1 h).1];exact h
end Go.Sm
namespace Go.Sm
structure Mc where
 F:FuncId→Option Tr
 H:Z4
def Mc.Ends (M:Mc) (f:FuncId) (ins outs:List AV):Prop:=∃n0,∀n,n0≤n→Z09 M.F M.H n f ins=some outs
def Mc.C (M:Mc) (f:FuncId) (ins:List AV) (Q:List AV→Prop):Prop:=∃outs,M.Ends f ins outs∧Q outs
def onJ (X:List AV→Prop) (Q:Out→Prop):Out→Prop
 | .jump 0 us=>X us
 | .jump (l+1) us=>Q (.jump l us)
 | .ret us=>Q (.ret us)
 | .leaf _ _ _=>False
def lp (w:Env→(Out→Prop)→Prop) (us:List AV) (Q:Out→Prop):Prop :=
 ∀X:List AV→Prop,(∀us,w (Z1 us) (onJ X Q)→X us)→X us
def It (c A B:Prop):Prop:=(c→A)∧(¬c→B)
def Gd (c A:Prop):Prop:=c∧A
theorem It.congr {c c' A A' B B':Prop} (h:c=c') (ha:c'→A=A') (hb:¬c'→B=B'):It c A B=It c' A' B':=by
 subst h;exact propext ⟨fun h=>⟨fun hc=>ha hc▸h.1 hc,fun hc=>hb hc▸h.2 hc⟩,fun h=>⟨fun hc=>(ha hc).symm▸h.1 hc,fun hc=>(hb hc).symm▸h.2 hc⟩⟩
theorem Gd.congr {c c' A A':Prop} (h:c=c') (ha:c'→A=A'):Gd c A=Gd c' A':=by
 subst h;exact propext ⟨fun h=>⟨h.1,ha h.1▸h.2⟩,fun h=>⟨h.1,(ha h.1).symm▸h.2⟩⟩
theorem It.pos {c A B:Prop} (h:c):It c A B=A:=propext ⟨fun h1=>h1.1 h,fun h1=>⟨fun _=>h1,fun h2=>(h2 h).elim⟩⟩
theorem It.neg {c A B:Prop} (h:¬c):It c A B=B:=propext ⟨fun h1=>h1.2 h,fun h1=>⟨fun h2=>(h h2).elim,fun _=>h1⟩⟩
theorem Gd.pos {c A:Prop} (h:c):Gd c A=A:=propext ⟨fun h1=>h1.2,fun h1=>⟨h,h1⟩⟩
theorem ZF {c A:Prop} (h:c):(c→A)=A:=propext ⟨fun f=>f h,fun a _=>a⟩
theorem ZG {c A:Prop} (h:¬c):(c→A)=True:=eq_true fun h1=>(h h1).elim
theorem It.tt {A B:Prop}:It True A B=A:=It.pos trivial
theorem It.ff {A B:Prop}:It False A B=B:=It.neg id
theorem Gd.tt {A:Prop}:Gd True A=A:=Gd.pos trivial
theorem It.same {c A:Prop}:It c A A=A:=propext ⟨fun h=>Classical.byCases h.1 h.2,fun h=>⟨fun _=>h,fun _=>h⟩⟩
def Mc.wp (M:Mc):Tr→Env→(Out→Prop)→Prop
 | .leaf _ _,_,_=>False
 | .bad,_,_=>False
 | .ite c a b,r,Q=>It (den c r=true) (M.wp a r Q) (M.wp b r Q)
 | .guard c t,r,Q=>Gd (den c r=true) (M.wp t r Q)
 | .call f ins b t,r,Q=>M.C f (ins.map (Z0 · r)) fun vs=>M.wp t (Z2 r b vs) Q
 | .jump l vs,r,Q=>Q (.jump l (vs.map (Z0 · r)))
 | .ret vs,r,Q=>Q (.ret (vs.map (Z0 · r)))
 | .join t k,r,Q=>M.wp t r (onJ (fun us=>M.wp k (Z1 us) Q) Q)
 | .loop init body,r,Q=>lp (M.wp body) (init.map (Z0 · r)) Q
def Mc.LP (M:Mc) (body:Tr) (us:List AV) (Q:Out→Prop):Prop:=lp (M.wp body) us Q
@[congr] theorem Mc.C.congr {M:Mc} {f:FuncId} {ins ins':List AV} {Q:List AV→Prop} (h:ins=ins'):M.C f ins Q=M.C f ins' Q:=h▸rfl
@[congr] theorem Mc.LP.congr {M:Mc} {b:Tr} {us us':List AV} {Q:Out→Prop} (h:us=us'):M.LP b us Q=M.LP b us' Q:=h▸rfl
def Mc.K (M:Mc) (t:Tr) (r:Env) (b:Nat) (Q:Out→Prop) (vs:List AV):Prop:=M.wp t (Z2 r b vs) Q
section
variable {M:Mc} {r:Env} {Q:Out→Prop}
theorem wpK {t:Tr} {b:Nat} {vs:List AV}:M.K t r b Q vs=M.wp t (Z2 r b vs) Q:=rfl
theorem Zb3:M.wp .bad r Q=False:=rfl
theorem Zb4 {c:E .bool} {a b:Tr}:M.wp (.ite c a b) r Q=((den c r=true→M.wp a r Q)∧(¬den c r=true→M.wp b r Q)):=rfl
theorem Zb5 {c:E .bool} {a:Tr}:M.wp (.guard c a) r Q=Gd (den c r=true) (M.wp a r Q):=rfl
theorem Zb6 {f:FuncId} {ins:List AE} {b:Nat} {t:Tr}:M.wp (.call f ins b t) r Q=M.C f (ins.map (Z0 · r)) (M.K t r b Q):=rfl
theorem Zb7 {l:Nat} {vs:List AE}:M.wp (.jump l vs) r Q=Q (.jump l (vs.map (Z0 · r))):=rfl
theorem Zb8 {vs:List AE}:M.wp (.ret vs) r Q=Q (.ret (vs.map (Z0 · r))):=rfl
theorem ZH {t k:Tr}:M.wp (.join t k) r Q=M.wp t r (onJ (fun us=>M.wp k (Z1 us) Q) Q):=rfl
theorem Zb9 {init:List AE} {b:Tr}:M.wp (.loop init b) r Q=M.LP b (init.map (Z0 · r)) Q:=rfl
theorem Zba {X:List AV→Prop} {us:List AV}:onJ X Q (.jump 0 us)=X us:=rfl
theorem Zbb {X:List AV→Prop} {us:List AV} {l:Nat}:onJ X Q (.jump (l+1) us)=Q (.jump l us):=rfl
theorem Zbc {X:List AV→Prop} {us:List AV}:onJ X Q (.ret us)=Q (.ret us):=rfl
end
def Zbd (w:Env→(Out→Prop)→Prop):Prop:=∀r (Q Q':Out→Prop),(∀o,Q o→Q' o)→w r Q→w r Q'
theorem Zbe {X X':List AV→Prop} {Q Q':Out→Prop} (hx:∀us,X us→X' us) (hq:∀o,Q o→Q' o):∀o,onJ X Q o→onJ X' Q' o
 | .jump 0 us,h=>hx us h
 | .jump (l+1) us,h=>hq _ h
 | .ret us,h=>hq _ h
 | .leaf _ _ _,h=>h
theorem Mc.wp_mono (M:Mc):∀t,Zbd (M.wp t)
 | .leaf _ _=>fun _ _ _ _ h=>h
 | .bad=>fun _ _ _ _ h=>h
 | .ite c a b=>fun r Q Q' hq h=>by
  exact ⟨fun hc=>M.wp_mono a r Q Q' hq (h.1 hc),fun hc=>M.wp_mono b r Q Q' hq (h.2 hc)⟩
 | .guard c t=>fun r Q Q' hq h=>⟨h.1,M.wp_mono t r Q Q' hq h.2⟩
 | .call f ins b t=>fun r Q Q' hq h=>by
  obtain ⟨o,h1,h2⟩:=h
  exact ⟨o,h1,M.wp_mono t _ Q Q' hq h2⟩
 | .jump l vs=>fun r Q Q' hq h=>hq _ h
 | .ret vs=>fun r Q Q' hq h=>hq _ h
 | .join t k=>fun r Q Q' hq h=>M.wp_mono t r _ _ (Zbe (fun us h=>M.wp_mono k _ Q Q' hq h) hq) h
 | .loop init body=>fun r Q Q' hq h=>fun X hX=>h X fun us hu=>hX us (M.wp_mono body _ _ _ (Zbe (fun _ h=>h) hq) hu)
theorem lp_step {w:Env→(Out→Prop)→Prop} (hw:Zbd w) {us:List AV} {Q:Out→Prop} (h:w (Z1 us) (onJ (fun us'=>lp w us' Q) Q)):lp w us Q:=fun X hX=>hX us (hw _ _ _ (Zbe (fun us' h'=>h' X hX) fun _ h=>h) h)
theorem lp_inv {w:Env→(Out→Prop)→Prop} (hw:Zbd w) {Q:Out→Prop} (P:Nat→List AV→Prop)
  (h:∀k us,P k us→w (Z1 us) (onJ (fun us'=>∃k',k'<k∧P k' us') Q)):∀k us,P k us→lp w us Q:=by
 intro k
 induction k using Nat.strongRecOn with
 | ind k ih =>
  intro us hp
  exact lp_step hw (hw _ _ _ (Zbe (fun us' ⟨k',h1,h2⟩=>ih k' h1 us' h2) fun _ h=>h) (h k us hp))
theorem lp_for {σ:Type} {w:Env→(Out→Prop)→Prop} (hw:Zbd w) {Q:Out→Prop} (mk:Nat→σ→List AV) (Inv:Nat→σ→Prop) (N:Nat)
  (hb:∀i s,i<N→Inv i s→w (Z1 (mk i s)) (onJ (fun us=>∃s',us=mk (i+1) s'∧Inv (i+1) s') Q))
  (he:∀s,Inv N s→w (Z1 (mk N s)) (onJ (fun _=>False) Q)) (i:Nat) (s:σ) (hi:i≤N) (h:Inv i s):lp w (mk i s) Q:=by
 refine lp_inv hw (fun k us=>∃i s,k=N - i∧i≤N∧us=mk i s∧Inv i s) ?_ (N - i) (mk i s) ⟨i,s,rfl,hi,rfl,h⟩
 rintro k us ⟨i,s,rfl,hi,rfl,h⟩
 by_cases hN:i=N
 ·subst hN
  exact hw _ _ _ (Zbe (fun _ h=>h.elim) fun _ h=>h) (he s h)
 ·refine hw _ _ _ (Zbe (fun us h=>?_) fun _ h=>h) (hb i s (by omega) h)
  obtain ⟨s',rfl,h2⟩:=h
  exact ⟨N - (i+1),by omega,i+1,s',rfl,by omega,rfl,h2⟩
theorem lp_down {σ:Type} {w:Env→(Out→Prop)→Prop} (hw:Zbd w) {Q:Out→Prop} (mk:Nat→σ→List AV) (Inv:Nat→σ→Prop)
  (hb:∀i s,Inv (i+1) s→w (Z1 (mk (i+1) s)) (onJ (fun us=>∃s',us=mk i s'∧Inv i s') Q))
  (he:∀s,Inv 0 s→w (Z1 (mk 0 s)) (onJ (fun _=>False) Q)) (i:Nat) (s:σ) (h:Inv i s):lp w (mk i s) Q:=by
 refine lp_inv hw (fun k us=>∃s,us=mk k s∧Inv k s) ?_ i (mk i s) ⟨s,rfl,h⟩
 rintro k us ⟨s,rfl,h⟩
 cases k with
 | zero=>exact hw _ _ _ (Zbe (fun _ h=>h.elim) fun _ h=>h) (he s h)
 | succ k =>
  refine hw _ _ _ (Zbe (fun us h=>?_) fun _ h=>h) (hb k s h)
  obtain ⟨s',rfl,h2⟩:=h
  exact ⟨k,by omega,s',rfl,h2⟩
theorem Mc.wp_join (M:Mc) {t k:Tr} {r:Env} {Q:Out→Prop} (X:List AV→Prop) (h1:M.wp t r (onJ X Q)) (h2:∀us,X us→M.wp k (Z1 us) Q):M.wp (.join t k) r Q :=
 M.wp_mono t r _ _ (Zbe h2 fun _ h=>h) h1
theorem Mc.lp_for (M:Mc) (σ:Type) {b:Tr} {Q:Out→Prop} (mk:Nat→σ→List AV) (Inv:Nat→σ→Prop) (N i:Nat) (s:σ) (us:List AV) (hus:us=mk i s) (hi:i≤N) (h:Inv i s)
  (hb:∀i s,i<N→Inv i s→M.wp b (Z1 (mk i s)) (onJ (fun us=>∃s',us=mk (i+1) s'∧Inv (i+1) s') Q))
  (he:∀s,Inv N s→M.wp b (Z1 (mk N s)) (onJ (fun _=>False) Q)):M.LP b us Q:=hus▸Go.Sm.lp_for (M.wp_mono b) mk Inv N hb he i s hi h
theorem Mc.lp_down (M:Mc) (σ:Type) {b:Tr} {Q:Out→Prop} (mk:Nat→σ→List AV) (Inv:Nat→σ→Prop) (i:Nat) (s:σ) (us:List AV) (hus:us=mk i s) (h:Inv i s)
  (hb:∀i s,Inv (i+1) s→M.wp b (Z1 (mk (i+1) s)) (onJ (fun us=>∃s',us=mk i s'∧Inv i s') Q))
  (he:∀s,Inv 0 s→M.wp b (Z1 (mk 0 s)) (onJ (fun _=>False) Q)):M.LP b us Q:=hus▸Go.Sm.lp_down (M.wp_mono b) mk Inv hb he i s h
theorem Mc.lp_inv (M:Mc) {b:Tr} {Q:Out→Prop} (P:Nat→List AV→Prop) (k:Nat) (us:List AV) (hp:P k us)
  (h:∀k us,P k us→M.wp b (Z1 us) (onJ (fun us'=>∃k',k'<k∧P k' us') Q)):M.LP b us Q:=Go.Sm.lp_inv (M.wp_mono b) P h k us hp
theorem Mc.lp_step (M:Mc) {b:Tr} {Q:Out→Prop} {us:List AV} (h:M.wp b (Z1 us) (onJ (fun us'=>M.LP b us' Q) Q)):M.LP b us Q:=Go.Sm.lp_step (M.wp_mono b) h
def Mc.Fin (M:Mc) (t:Tr) (r:Env) (o:Out):Prop:=∃n0,∀n,n0≤n→∀m,n0≤m→run (Z09 M.F M.H n) m t r=some o
def Mc.LFin (M:Mc) (t:Tr) (us:List AV) (o:Out):Prop:=∃n0,∀n,n0≤n→∀m,n0≤m→∀k,n0≤k→Z3 (run (Z09 M.F M.H n) m t) k us=some o
theorem Mc.wp_ok (M:Mc):∀(t:Tr) (r:Env) (Q:Out→Prop),M.wp t r Q→∃o,M.Fin t r o∧Q o
 | .leaf _ _,_,_,h=>h.elim
 | .bad,_,_,h=>h.elim
 | .ite c a b,r,Q,h=>by
  by_cases hc:den c r=true
  ·obtain ⟨o,⟨n0,h1⟩,h2⟩:=M.wp_ok a r Q (h.1 hc)
   exact ⟨o,⟨n0,fun n hn m hm=>by simp only [run,hc,if_true];exact h1 n hn m hm⟩,h2⟩
  ·obtain ⟨o,⟨n0,h1⟩,h2⟩:=M.wp_ok b r Q (h.2 hc)
   exact ⟨o,⟨n0,fun n hn m hm=>by simp only [run,if_neg hc];exact h1 n hn m hm⟩,h2⟩
 | .guard c t,r,Q,h=>by
  obtain ⟨hc,h⟩:=h
  obtain ⟨o,⟨n0,h1⟩,h2⟩:=M.wp_ok t r Q h
  exact ⟨o,⟨n0,fun n hn m hm=>by simp only [run,hc,if_true];exact h1 n hn m hm⟩,h2⟩
 | .call f ins b t,r,Q,h=>by
  obtain ⟨vs,⟨n1,hc⟩,h⟩:=h
  obtain ⟨o,⟨n0,h1⟩,h2⟩:=M.wp_ok t _ Q h
  exact ⟨o,⟨n0+n1,fun n hn m hm=>by simp only [run,hc n (by omega)];exact h1 n (by omega) m (by omega)⟩,h2⟩
 | .jump l vs,r,Q,h=>⟨_,⟨0,fun _ _ _ _=>rfl⟩,h⟩
 | .ret vs,r,Q,h=>⟨_,⟨0,fun _ _ _ _=>rfl⟩,h⟩
 | .join t k,r,Q,h=>by
  obtain ⟨o,⟨n0,h1⟩,h2⟩:=M.wp_ok t r _ h
  match o,h1,h2 with
  | .jump 0 us,h1,h2 =>
   obtain ⟨o,⟨n1,h3⟩,h4⟩:=M.wp_ok k _ Q h2
   exact ⟨o,⟨n0+n1,fun n hn m hm=>by simp only [run,h1 n (by omega) m (by omega)];exact h3 n (by omega) m (by omega)⟩,h4⟩
  | .jump (l+1) us,h1,h2=>exact ⟨_,⟨n0,fun n hn m hm=>by simp only [run,h1 n hn m hm]⟩,h2⟩
  | .ret us,h1,h2=>exact ⟨_,⟨n0,fun n hn m hm=>by simp only [run,h1 n hn m hm]⟩,h2⟩
  | .leaf _ _ _,h1,h2=>exact h2.elim
 | .loop init body,r,Q,h=>by
  have key:∃o,M.LFin body (init.map (Z0 · r)) o∧Q o:=by
   refine h (fun us=>∃o,M.LFin body us o∧Q o) fun us hu=>?_
   obtain ⟨o,⟨n0,h1⟩,h2⟩:=M.wp_ok body _ _ hu
   match o,h1,h2 with
   | .jump 0 us',h1,h2 =>
    obtain ⟨o,⟨n1,h3⟩,h4⟩:=h2
    refine ⟨o,⟨n0+n1+1,fun n hn m hm k hk=>?_⟩,h4⟩
    obtain ⟨k,rfl⟩:∃k',k=k'+1:=⟨k - 1,by omega⟩
    simp only [Z3,h1 n (by omega) m (by omega)]
    exact h3 n (by omega) m (by omega) k (by omega)
   | .jump (l+1) us',h1,h2 =>
    refine ⟨_,⟨n0+1,fun n hn m hm k hk=>?_⟩,h2⟩
    obtain ⟨k,rfl⟩:∃k',k=k'+1:=⟨k - 1,by omega⟩
    simp only [Z3,h1 n (by omega) m (by omega)]
   | .ret us',h1,h2 =>
    refine ⟨_,⟨n0+1,fun n hn m hm k hk=>?_⟩,h2⟩
    obtain ⟨k,rfl⟩:∃k',k=k'+1:=⟨k - 1,by omega⟩
    simp only [Z3,h1 n (by omega) m (by omega)]
   | .leaf _ _ _,h1,h2=>exact h2.elim
  obtain ⟨o,⟨n0,h1⟩,h2⟩:=key
  exact ⟨o,⟨n0,fun n hn m hm=>by simp only [run];exact h1 n hn m hm m hm⟩,h2⟩
theorem Mc.ends (M:Mc) {f:FuncId} {t:Tr} (hf:M.F f=some t) {ins outs:List AV} (h:M.wp t (Z1 ins) (·=.ret outs)):M.Ends f ins outs:=by
 obtain ⟨o,⟨n0,h1⟩,rfl⟩:=M.wp_ok t _ _ h
 refine ⟨n0+1,fun n hn=>?_⟩
 obtain ⟨k,rfl⟩:∃k,n=k+1:=⟨n - 1,by omega⟩
 simp only [Z09,hf,h1 k (by omega) k (by omega)]
def Zbf (Q:List AV→Prop):Out→Prop
 | .ret vs=>Q vs
 | _=>False
theorem Zbg {Q:List AV→Prop} {vs:List AV}:Zbf Q (.ret vs)=Q vs:=rfl
theorem Zbh {Q:List AV→Prop} {l:Nat} {vs:List AV}:Zbf Q (.jump l vs)=False:=rfl
theorem Mc.c_of (M:Mc) {f:FuncId} {t:Tr} (hf:M.F f=some t) {ins:List AV} {Q:List AV→Prop} (h:M.wp t (Z1 ins) (Zbf Q)):M.C f ins Q:=by
 obtain ⟨o,h1,h2⟩:=M.wp_ok t _ _ h
 match o,h1,h2 with
 | .ret vs,⟨n0,h1⟩,h2 =>
  refine ⟨vs,⟨n0+1,fun n hn=>?_⟩,h2⟩
  obtain ⟨k,rfl⟩:∃k,n=k+1:=⟨n - 1,by omega⟩
  simp only [Z09,hf,h1 k (by omega) k (by omega)]
theorem Mc.ends_hand (M:Mc) {f:FuncId} (hf:M.F f=none) {ins outs:List AV} (h:M.H f ins=some outs):M.Ends f ins outs:=by
 refine ⟨1,fun n hn=>?_⟩
 obtain ⟨k,rfl⟩:∃k,n=k+1:=⟨n - 1,by omega⟩
 simp only [Z09,hf,h]
theorem Mc.Ends.fin {M:Mc} {f:FuncId} {ins outs:List AV} (h:M.Ends f ins outs):∃n,Z09 M.F M.H n f ins=some outs:=h.elim fun n0 h=>⟨n0,h n0 (Yh _)⟩
theorem Mc.Ends.c {M:Mc} {f:FuncId} {ins outs:List AV} (h:M.Ends f ins outs) {Q:List AV→Prop}:M.C f ins Q=Q outs:=by
 refine propext ⟨?_,fun hq=>⟨outs,h,hq⟩⟩
 rintro ⟨o,⟨n1,h1⟩,h2⟩
 obtain ⟨n0,h0⟩:=h
 have e1:=h1 (n0+n1) (by omega)
 rw [h0 (n0+n1) (by omega)] at e1
 cases e1
 exact h2
theorem Zbi {x:Int} (h1 : -9223372036854775808≤x) (h2:x≤9223372036854775807):IntKind.i64.wrap x=x:=by rw [IntKind.wrap_i64];omega
theorem cS {a b:Nat}:((a+b:Nat):Int)=(a:Int)+(b:Int):=rfl
theorem c1:((1:Nat):Int)=1:=rfl
theorem c0:((0:Nat):Int)=0:=rfl
theorem pN {n:Nat}:((n:Int) - 1).toNat=n - 1:=by omega
theorem zI {k:IntKind}:(Ty.int k).z=(0:Int):=rfl
theorem zP {a b:Ty}:(Ty.pr a b).z=(a.z,b.z):=rfl
theorem zB:Ty.bool.z=false:=rfl
theorem zL {c:Bool} {t:Ty}:(Ty.sl c t).z=([]:List t.D):=rfl
theorem sh1 {x:Int} {k:IntKind} (h:k.bits=64):shI false k x 1=x / 2:=by
 unfold shI
 rw [h]
 exact Int.fdiv_eq_ediv_of_nonneg _ (by decide)
theorem Zbj {x:Int}:shI false .u64 x 1=x / 2:=sh1 rfl
theorem Zbk {x:Int} (h1:0≤x) (h2:x≤9223372036854775807):IntKind.u64.wrap x=x:=by
 simp only [IntKind.wrap,IntKind.bits,IntKind.signed]
 simp
 omega
theorem Zbl {a b:List AV}:(Out.ret a=Out.ret b)=(a=b):=propext ⟨fun h=>by cases h;rfl,fun h=>by rw [h]⟩
theorem Zbm {t:Ty} {x y:t.D}:((⟨t,x⟩:AV)=⟨t,y⟩)=(x=y):=propext ⟨fun h=>by cases h;rfl,fun h=>by rw [h]⟩
theorem Zbn {l:Nat} {a b:List AV}:(Out.jump l a=Out.ret b)=False:=eq_false fun h=>nomatch h
theorem Sd {M:Mc} {r:Env} {Q:Out→Prop} :
  (M.wp .bad r Q=False)∧(∀{c:E .bool} {a b:Tr},M.wp (.ite c a b) r Q=((den c r=true→M.wp a r Q)∧(¬den c r=true→M.wp b r Q))) ∧
  (∀{c:E .bool} {a:Tr},M.wp (.guard c a) r Q=Gd (den c r=true) (M.wp a r Q)) ∧
  (∀{f:FuncId} {ins:List AE} {b:Nat} {t:Tr},M.wp (.call f ins b t) r Q=M.C f (ins.map (Z0 · r)) (M.K t r b Q)) ∧
  (∀{l:Nat} {vs:List AE},M.wp (.jump l vs) r Q=Q (.jump l (vs.map (Z0 · r))))∧(∀{vs:List AE},M.wp (.ret vs) r Q=Q (.ret (vs.map (Z0 · r)))) ∧
  (∀{init:List AE} {b:Tr},M.wp (.loop init b) r Q=M.LP b (init.map (Z0 · r)) Q):=⟨rfl,rfl,rfl,rfl,rfl,rfl,rfl⟩
theorem So {Q:Out→Prop}:(∀{X:List AV→Prop} {us:List AV},onJ X Q (.jump 0 us)=X us)∧(∀{X:List AV→Prop} {us:List AV} {l:Nat},onJ X Q (.jump (l+1) us)=Q (.jump l us))∧(∀{X:List AV→Prop} {us:List AV},onJ X Q (.ret us)=Q (.ret us)) :=
 ⟨rfl,rfl,rfl⟩
theorem Sk {M:Mc} {r:Env} {Q:Out→Prop} {t:Tr} {b:Nat} {vs:List AV}:M.K t r b Q vs=M.wp t (Z2 r b vs) Q:=rfl
theorem Sa:(∀{α β:Type} {f:α→β} {a:α} {l:List α},(a::l).map f=f a::l.map f)∧(∀{α β:Type} {f:α→β},([]:List α).map f=[])∧(∀{t:Ty} {d:t.D},AV.as t ⟨t,d⟩=d) ∧
  (∀{α:Type} {x d:α} {l:List α},(x::l).getD 0 d=x)∧(∀{α:Type} {x d:α} {l:List α} {n:Nat},(x::l).getD (n+1) d=l.getD n d) ∧
  (∀{α:Type} {x:α} {l:List α},(x::l).length=l.length+1)∧(∀{α:Type},([]:List α).length=0)∧(∀{α:Type} {l m:List α},(l++m).length=l.length+m.length) ∧
  (∀{α:Type} {x y:α} {l m:List α},(x::l=y::m)=(x=y∧l=m)) ∧
  (∀{Q:List AV→Prop} {vs:List AV},Zbf Q (.ret vs)=Q vs)∧(∀{Q:List AV→Prop} {l:Nat} {vs:List AV},Zbf Q (.jump l vs)=False) :=
 ⟨rfl,rfl,fun {t d}=>AV.as_mk t d,rfl,rfl,rfl,rfl,Y7,by simp,rfl,rfl⟩
theorem Sb:(∀{a b:List AV},(Out.ret a=Out.ret b)=(a=b))∧(∀{t:Ty} {x y:t.D},((⟨t,x⟩:AV)=⟨t,y⟩)=(x=y))∧(∀{l:Nat} {a b:List AV},(Out.jump l a=Out.ret b)=False) ∧
  (∀{p:Prop} [Decidable p],(decide p=true)=p)∧(∀{a b:Int},((a==b)=true)=(a=b))∧(∀{a b:Int},((a != b)=true)=¬a=b)∧(∀{b:Bool},((!b)=true)=(b=false))∧(∀{p:Prop} [Decidable p],(decide p=false)=¬p) ∧
  (∀{a b:Bool},((a==b)=true)=(a=b))∧(∀{a b:Bool},((a != b)=true)=¬a=b) :=
 ⟨Zbl,Zbm,Zbn,by simp,by simp,by simp,by simp,by simp,by simp,by simp⟩
theorem Sc:(∀{n:Nat},((n:Int)).toNat=n)∧((0:Int).toNat=0)∧((1:Int).toNat=1)∧(∀{a b:Int},a+b - b=a)∧(∀{a b:Nat},((a+b:Nat):Int)=(a:Int)+(b:Int))∧(((1:Nat):Int)=1)∧(((0:Nat):Int)=0)∧(∀{n:Nat},((n:Int) - 1).toNat=n - 1) ∧
  (∀{k:IntKind},(Ty.int k).z=(0:Int))∧(∀{a b:Ty},(Ty.pr a b).z=(a.z,b.z))∧(Ty.bool.z=false)∧(∀{c:Bool} {t:Ty},(Ty.sl c t).z=([]:List t.D)) ∧
  (∀{x:Int},-9223372036854775808≤x→x≤9223372036854775807→IntKind.i64.wrap x=x)∧(∀{x:Int},0≤x→x≤9223372036854775807→IntKind.u64.wrap x=x)∧(∀{x:Int},shI false .u64 x 1=x / 2) ∧
  (∀{a b:Int},0≤a→a.tdiv b=a / b)∧(∀{a b:Int},0≤a→a.tmod b=a % b)∧(∀{A:Prop},Gd True A=A)∧(∀{c A:Prop},c→Gd c A=A) :=
 ⟨Yv _,rfl,rfl,by omega,rfl,rfl,rfl,pN,rfl,rfl,rfl,rfl,Zbi,Zbk,Zbj,Int.tdiv_eq_ediv_of_nonneg,Int.tmod_eq_emod_of_nonneg,Gd.tt,Gd.pos⟩
theorem Se:(∀{a:Prop},(a∧True)=a)∧(∀{a:Prop},(True∧a)=a)∧(∀{a:Prop},(a∧False)=False)∧(∀{a:Prop},(False∧a)=False) ∧
  (∀{α:Type} {a':α} {p:α→Prop},(∃a,a=a'∧p a)=p a')∧(∀{α:Type} {a':α} {p:α→Prop},(∃a,a'=a∧p a)=p a')∧(∀{α:Type} [Nonempty α] {b:Prop},(∃_:α,b)=b) ∧
  ((false=true)=False)∧((true=false)=False)∧((¬True)=False)∧((¬False)=True)∧(∀{p:Prop},(False→p)=True)∧(∀{p:Prop},(p→True)=True)∧(∀{p:Prop},(True→p)=p) ∧
  (∀{α:Type} {a b:α},(if True then a else b)=a)∧(∀{α:Type} {a b:α},(if False then a else b)=b)∧(∀{p:Prop},(¬ ¬p)=p)∧(∀{α:Type} {a b:α},(a≠b)=¬a=b) :=
 ⟨and_true _,true_and _,and_false _,false_and _,propext ⟨fun ⟨_,h,h2⟩=>h▸h2,fun h=>⟨_,rfl,h⟩⟩,propext ⟨fun ⟨_,h,h2⟩=>h▸h2,fun h=>⟨_,rfl,h⟩⟩,propext ⟨fun ⟨_,h⟩=>h,fun h=>Nonempty.elim ‹_› fun x=>⟨x,h⟩⟩,by simp,by simp,by simp,by simp,by simp,by simp,by simp,by simp,by simp,propext Classical.not_not,rfl⟩
end Go.Sm
