/- A machine over symbols for loaded functions, and that it tells the truth; no condition. -/
import Derived.Calls
import Derived.Below
import Derived.Laws.OwnMore
import Derived.OrdersHeld
import Derived.KernelRfl
namespace Go.Sm
inductive Ty where
 | int (k:IntKind) | bool | str | sl (c:Bool) (e:Ty) | pr (a b:Ty)
def Ty.beq:Ty→Ty→Bool
 | .int k,.int k'=>decide (k=k')
 | .bool,.bool=>true
 | .str,.str=>true
 | .sl c e,.sl c' e'=>(c==c')&&Ty.beq e e'
 | .pr a b,.pr a' b'=>Ty.beq a a'&&Ty.beq b b'
 | _,_=>false
theorem Ty.eq_of_beq:∀{a b:Ty},Ty.beq a b=true→a=b:=by
 intro a
 induction a with
 | int k=>intro b h;cases b<;>simp_all [Ty.beq]
 | bool=>intro b h;cases b<;>simp_all [Ty.beq]
 | str=>intro b h;cases b<;>simp_all [Ty.beq]
 | sl c e ih=>intro b h;cases b<;>simp_all [Ty.beq];exact ih h.2
 | pr a b iha ihb=>intro b' h;cases b'<;>simp_all [Ty.beq];exact ⟨iha h.1,ihb h.2⟩
theorem Ty.beq_refl:∀a:Ty,Ty.beq a a=true:=by
 intro a
 induction a<;>simp_all [Ty.beq]
instance : DecidableEq Ty := fun a b =>
 if h:Ty.beq a b=true then .isTrue (Ty.eq_of_beq h) else .isFalse fun e=>h (e▸Ty.beq_refl a)
@[reducible] def Ty.D:Ty→Type
 | .int _=>Int
 | .bool=>Bool
 | .str=>ByteArray
 | .sl _ e=>List e.D
 | .pr a b=>a.D×b.D
def Ty.z:(t:Ty)→t.D
 | .int _=>(0:Int)
 | .bool=>false
 | .str=>ByteArray.empty
 | .sl _ e=>([]:List e.D)
 | .pr a b=>(a.z,b.z)
def Ty.size:Ty→Nat
 | .pr a b=>a.size+b.size
 | _=>1
theorem Ty.size_pos:∀t:Ty,0<t.size
 | .int _=>Nat.one_pos
 | .bool=>Nat.one_pos
 | .str=>Nat.one_pos
 | .sl _ _=>Nat.one_pos
 | .pr a b=>Nat.add_pos_left a.size_pos b.size
def arI (o:BinOp) (k:IntKind) (x y:Int):Int :=
 match o with
 | .add=>k.wrap (x+y)
 | .sub=>k.wrap (x - y)
 | .mul=>k.wrap (x * y)
 | .quo=>k.wrap (x.tdiv y)
 | .rem=>x.tmod y
 | .and=>k.wrap ((BitVec.ofInt k.bits x &&& BitVec.ofInt k.bits y).toNat)
 | .or=>k.wrap ((BitVec.ofInt k.bits x ||| BitVec.ofInt k.bits y).toNat)
 | .xor=>k.wrap ((BitVec.ofInt k.bits x ^^^ BitVec.ofInt k.bits y).toNat)
 | .andNot=>k.wrap ((BitVec.ofInt k.bits x &&& ~~~BitVec.ofInt k.bits y).toNat)
 | _=>0
def cmI (o:BinOp) (x y:Int):Bool :=
 match o with
 | .eql=>x==y
 | .neq=>x != y
 | .lss=>decide (x<y)
 | .leq=>decide (x≤y)
 | .gtr=>decide (x > y)
 | .geq=>decide (x≥y)
 | _=>false
def shI (left:Bool) (k:IntKind) (x y:Int):Int :=
 if left then k.wrap (x * 2 ^ min y.toNat k.bits) else x.fdiv (2 ^ min y.toNat k.bits)
inductive O1:Ty→Ty→Type
 | neg (k:IntKind):O1 (.int k) (.int k)
 | not:O1 .bool .bool
 | len (c:Bool) (e:Ty):O1 (.sl c e) (.int .i64)
 | slen:O1 .str (.int .i64)
 | fst (a b:Ty):O1 (.pr a b) a
 | snd (a b:Ty):O1 (.pr a b) b
 | re (c c':Bool) (e:Ty):O1 (.sl c e) (.sl c' e)
 | emp (c:Bool) (e:Ty):O1 (.sl c e) .bool
 | conv (k k':IntKind):O1 (.int k) (.int k')
 | one (e:Ty):O1 e (.sl false e)
 | hnd (k:Nat):O1 (.sl false (.int .i64)) (.sl false (.int .i64))
inductive O2:Ty→Ty→Ty→Type
 | ar (o:BinOp) (k:IntKind):O2 (.int k) (.int k) (.int k)
 | sh (left:Bool) (k k':IntKind):O2 (.int k) (.int k') (.int k)
 | cm (o:BinOp) (k k':IntKind):O2 (.int k) (.int k') .bool
 | mx (k:IntKind):O2 (.int k) (.int k) (.int k)
 | mn (k:IntKind):O2 (.int k) (.int k) (.int k)
 | beq:O2 .bool .bool .bool
 | bne:O2 .bool .bool .bool
 | and:O2 .bool .bool .bool
 | or:O2 .bool .bool .bool
 | seq:O2 .str .str .bool
 | sne:O2 .str .str .bool
 | scat:O2 .str .str .str
 | sidx (k:IntKind):O2 .str (.int k) (.int .u8)
 | idx (c:Bool) (e:Ty) (k:IntKind):O2 (.sl c e) (.int k) e
 | app (e:Ty):O2 (.sl false e) (.sl false e) (.sl false e)
 | take (e:Ty) (k:IntKind):O2 (.sl false e) (.int k) (.sl false e)
 | drop (e:Ty) (k:IntKind):O2 (.sl false e) (.int k) (.sl false e)
 | rep (e:Ty) (k:IntKind):O2 (.int k) e (.sl false e)
 | over (e:Ty):O2 (.sl false e) (.sl false e) (.sl false e)
 | pair (a b:Ty):O2 a b (.pr a b)
inductive O3:Ty→Ty→Ty→Ty→Type
 | pick (e:Ty):O3 .bool e e e
 | set (e:Ty) (k:IntKind):O3 (.sl false e) (.int k) e (.sl false e)
def overL {α:Type} (a b:List α):List α:=b.take a.length++a.drop b.length
def insZ (x:Int):List Int→List Int
 | []=>[x]
 | y::l=>if x≤y then x::y::l else y::insZ x l
def srtZ:List Int→List Int
 | []=>[]
 | x::l=>insZ x (srtZ l)
def cptZ:List Int→List Int
 | []=>[]
 | [x]=>[x]
 | x::y::l=>if x=y then cptZ (y::l) else x::cptZ (y::l)
def hndZ (k:Nat) (l:List Int):List Int:=if k=0 then srtZ l else cptZ l
def O1.d:{a b:Ty}→O1 a b→a.D→b.D
 | _,_,.neg k,x=>k.wrap (0 - x)
 | _,_,.not,x=>!x
 | _,_,.len _ _,x=>(x.length:Int)
 | _,_,.slen,x=>(x.size:Int)
 | _,_,.fst _ _,x=>x.1
 | _,_,.snd _ _,x=>x.2
 | _,_,.re _ _ _,x=>x
 | _,_,.emp _ _,x=>x.isEmpty
 | _,_,.conv _ k',x=>k'.wrap x
 | _,_,.one _,x=>[x]
 | _,_,.hnd k,x=>hndZ k x
def O2.d:{a b c:Ty}→O2 a b c→a.D→b.D→c.D
 | _,_,_,.ar o k,x,y=>arI o k x y
 | _,_,_,.sh l k _,x,y=>shI l k x y
 | _,_,_,.cm o _ _,x,y=>cmI o x y
 | _,_,_,.mx _,x,y=>if (y:Int) > x then y else x
 | _,_,_,.mn _,x,y=>if (y:Int)<x then y else x
 | _,_,_,.beq,x,y=>x==y
 | _,_,_,.bne,x,y=>x != y
 | _,_,_,.and,x,y=>x&&y
 | _,_,_,.or,x,y=>x||y
 | _,_,_,.seq,x,y=>x.toList==y.toList
 | _,_,_,.sne,x,y=>!(x.toList==y.toList)
 | _,_,_,.scat,x,y=>x++y
 | _,_,_,.sidx _,x,y=>((x.data.getD (Int.toNat y) 0).toNat:Int)
 | _,_,_,.idx _ e _,x,y=>x.getD (Int.toNat y) e.z
 | _,_,_,.app _,x,y=>x++y
 | _,_,_,.take _ _,x,y=>x.take (Int.toNat y)
 | _,_,_,.drop _ _,x,y=>x.drop (Int.toNat y)
 | _,_,_,.rep _ _,x,y=>List.replicate (Int.toNat x) y
 | _,_,_,.over _,x,y=>overL x y
 | _,_,_,.pair _ _,x,y=>(x,y)
def O3.d:{a b c d:Ty}→O3 a b c d→a.D→b.D→c.D→d.D
 | _,_,_,_,.pick _,c,x,y=>if c=true then x else y
 | _,_,_,_,.set _ _,l,i,x=>l.set (Int.toNat i) x
inductive E:Ty→Type
 | var (t:Ty) (i:Nat):E t
 | int (k:IntKind) (n:Int):E (.int k)
 | bool (b:Bool):E .bool
 | str (s:ByteArray):E .str
 | nil (c:Bool) (e:Ty):E (.sl c e)
 | z (t:Ty):E t
 | o1 {a b:Ty} (o:O1 a b) (x:E a):E b
 | o2 {a b c:Ty} (o:O2 a b c) (x:E a) (y:E b):E c
 | o3 {a b c d:Ty} (o:O3 a b c d) (x:E a) (y:E b) (z:E c):E d
abbrev AV:=(t:Ty)×t.D
abbrev AE:=(t:Ty)×E t
abbrev Env:=Nat→AV
def AV.as (t:Ty) (v:AV):t.D:=if h:v.1=t then h▸v.2 else t.z
def dflt:AV:=⟨.bool,false⟩
theorem AV.as_mk (t:Ty) (d:t.D):AV.as t ⟨t,d⟩=d:=by simp [AV.as]
def den:{t:Ty}→E t→Env→t.D
 | _,.var t i,r=>(r i).as t
 | _,.int _ n,_=>n
 | _,.bool b,_=>b
 | _,.str s,_=>s
 | _,.nil _ e,_=>([]:List e.D)
 | t,.z _,_=>t.z
 | _,.o1 o x,r=>o.d (den x r)
 | _,.o2 o x y,r=>o.d (den x r) (den y r)
 | _,.o3 o x y z,r=>o.d (den x r) (den y r) (den z r)
def denA (a:AE) (r:Env):AV:=⟨a.1,den a.2 r⟩
def eqO1:{a b a' b':Ty}→O1 a b→O1 a' b'→Bool
 | _,_,_,_,.neg k,.neg k'=>decide (k=k')
 | _,_,_,_,.not,.not=>true
 | _,_,_,_,.len c e,.len c' e'=>decide (c=c')&&decide (e=e')
 | _,_,_,_,.slen,.slen=>true
 | _,_,_,_,.fst a b,.fst a' b'=>decide (a=a')&&decide (b=b')
 | _,_,_,_,.snd a b,.snd a' b'=>decide (a=a')&&decide (b=b')
 | _,_,_,_,.re c d e,.re c' d' e'=>decide (c=c')&&decide (d=d')&&decide (e=e')
 | _,_,_,_,.emp c e,.emp c' e'=>decide (c=c')&&decide (e=e')
 | _,_,_,_,.conv a b,.conv a' b'=>decide (a=a')&&decide (b=b')
 | _,_,_,_,.one e,.one e'=>decide (e=e')
 | _,_,_,_,.hnd k,.hnd k'=>decide (k=k')
 | _,_,_,_,_,_=>false
def eqO2:{a b c a' b' c':Ty}→O2 a b c→O2 a' b' c'→Bool
 | _,_,_,_,_,_,.ar o k,.ar o' k'=>decide (o=o')&&decide (k=k')
 | _,_,_,_,_,_,.cm o k j,.cm o' k' j'=>decide (o=o')&&decide (k=k')&&decide (j=j')
 | _,_,_,_,_,_,.idx c e k,.idx c' e' k'=>decide (c=c')&&decide (e=e')&&decide (k=k')
 | _,_,_,_,_,_,.mx k,.mx k'=>decide (k=k')
 | _,_,_,_,_,_,.mn k,.mn k'=>decide (k=k')
 | _,_,_,_,_,_,.beq,.beq=>true
 | _,_,_,_,_,_,.bne,.bne=>true
 | _,_,_,_,_,_,.and,.and=>true
 | _,_,_,_,_,_,.or,.or=>true
 | _,_,_,_,_,_,.seq,.seq=>true
 | _,_,_,_,_,_,.sne,.sne=>true
 | _,_,_,_,_,_,.sidx k,.sidx k'=>decide (k=k')
 | _,_,_,_,_,_,_,_=>false
def eqE:{a b:Ty}→E a→E b→Bool
 | _,_,.var t i,.var t' j=>decide (t=t')&&decide (i=j)
 | _,_,.int k n,.int k' m=>decide (k=k')&&decide (n=m)
 | _,_,.bool a,.bool b=>a==b
 | _,_,.o1 o x,.o1 p y=>eqO1 o p&&eqE x y
 | _,_,.o2 o x y,.o2 p u v=>eqO2 o p&&eqE x u&&eqE y v
 | _,_,_,_=>false
def litZ:{t:Ty}→E t→Option Int
 | _,.int _ n=>some n
 | _,_=>none
def litB:E .bool→Option Bool
 | .bool b=>some b
 | .o1 .not x=>match litB1 x with
  | some b=>some (!b)
  | none=>none
 | .o2 (.cm o _ _) x y =>
  match litZ x,litZ y with
  | some a,some b=>some (cmI o a b)
  | _,_=>if eqE x y then (match o with | .leq=>some true | .geq=>some true | .eql=>some true | _=>none) else none
 | _=>none
where
 litB1:{t:Ty}→E t→Option Bool
 | _,.bool b=>some b
 | _,_=>none
inductive Atom where
 | no
 | un
 | nil
 | x (t:Ty) (e:E t)
 | xc (t:Ty) (e:E (.sl false t))
 | ref (id:Nat)
 | ptr (id j:Nat)
 | eptr (id:Nat) (t:Ty) (k:IntKind) (i:E (.int k)) (j:Nat)
 | xptr (c:Bool) (t:Ty) (l:E (.sl c t)) (k:IntKind) (i:E (.int k)) (j:Nat)
 | clo (f:FuncId) (caps:List (Nat×Nat))
 | nref (id:Nat) (t:Ty) (k:IntKind) (i:E (.int k)) (j:Nat)
 | nptr (id:Nat) (t:Ty) (k:IntKind) (i:E (.int k)) (j:Nat) (u:Ty) (k':IntKind) (i':E (.int k')) (j':Nat)
 | vw (id:Nat) (t:Ty) (lo hi:E (.int .i64))
inductive SV where
 | a (x:Atom)
 | agg (l:List Atom)
 | tup (l:List (Bool×List Atom))
inductive Blk where
 | box (l:List Atom)
 | arr (dp:Bool) (t:Ty) (e:E (.sl false t))
 | hole (t:Ty) (e:E (.sl false t)) (k:IntKind) (i:E (.int k)) (j:Nat) (a:Atom)
 | lent (t:Ty) (e:E (.sl false t)) (k:IntKind) (i:E (.int k)) (a:Atom)
structure St where
 cur:List SV
 stk:List (List SV)
 heap:Nat→Option Blk
 base:Nat
 np:Nat
 kp:List (Nat×Nat)
inductive Ex where
 | normal | exit (id:Nat) | ret
 deriving DecidableEq
inductive Tr where
 | leaf (x:Ex) (s:St)
 | bad
 | ite (c:E .bool) (a b:Tr)
 | guard (c:E .bool) (t:Tr)
 | call (f:FuncId) (ins:List AE) (b:Nat) (t:Tr)
 | jump (l:Nat) (vs:List AE)
 | ret (vs:List AE)
 | join (t k:Tr)
 | loop (init:List AE) (body:Tr)
inductive Out where
 | leaf (x:Ex) (s:St) (r:Env)
 | jump (l:Nat) (vs:List AV)
 | ret (vs:List AV)
def envOf (vs:List AV):Env:=fun i=>vs.getD i dflt
def putN (r:Env) (b:Nat) (vs:List AV):Env:=fun i=>if i<b then r i else if i - b<vs.length then vs.getD (i - b) dflt else r i
def loopN (f:Env→Option Out):Nat→List AV→Option Out
 | 0,_=>none
 | n+1,vs =>
  match f (envOf vs) with
  | some (.jump 0 us)=>loopN f n us
  | some (.jump (l+1) us)=>some (.jump l us)
  | some (.leaf x s r)=>some (.leaf x s r)
  | some (.ret us)=>some (.ret us)
  | none=>none
abbrev Sem1:=FuncId→List AV→Option (List AV)
def run (K:Sem1) (m:Nat):Tr→Env→Option Out
 | .leaf x s,r=>some (.leaf x s r)
 | .bad,_=>none
 | .ite c a b,r=>if den c r=true then run K m a r else run K m b r
 | .guard c t,r=>if den c r=true then run K m t r else none
 | .call f ins b t,r =>
  match K f (ins.map (denA · r)) with
  | some vs=>run K m t (putN r b vs)
  | none=>none
 | .jump l vs,r=>some (.jump l (vs.map (denA · r)))
 | .ret vs,r=>some (.ret (vs.map (denA · r)))
 | .join t k,r =>
  match run K m t r with
  | some (.jump 0 us)=>run K m k (envOf us)
  | some (.jump (l+1) us)=>some (.jump l us)
  | some (.leaf x s r)=>some (.leaf x s r)
  | some (.ret us)=>some (.ret us)
  | none=>none
 | .loop init body,r=>loopN (run K m body) m (init.map (denA · r))
def runF (F:FuncId→Option Tr) (H:Sem1):Nat→Sem1
 | 0=>fun _ _=>none
 | n+1=>fun f ins =>
  match F f with
  | some t=>match run (runF F H n) n t (envOf ins) with
   | some (.ret vs)=>some vs
   | _=>none
  | none=>H f ins
end Go.Sm
namespace Go.Sm
set_option linter.unusedVariables false
def E.vs (N:Nat→Prop):{t:Ty}→E t→Prop
 | _,.var _ i=>N i
 | _,.int _ _=>True
 | _,.bool _=>True
 | _,.str _=>True
 | _,.nil _ _=>True
 | _,.z _=>True
 | _,.o1 _ x=>x.vs N
 | _,.o2 _ x y=>x.vs N∧y.vs N
 | _,.o3 _ x y u=>x.vs N∧y.vs N∧u.vs N
theorem E.vs_mono {N N':Nat→Prop} (h:∀i,N i→N' i):∀{t:Ty} (e:E t),e.vs N→e.vs N':=by
 intro t e
 induction e with
 | var t i=>exact h i
 | o1 o x ih=>exact ih
 | o2 o x y ihx ihy=>exact fun ⟨a,b⟩=>⟨ihx a,ihy b⟩
 | o3 o x y z ihx ihy ihz=>exact fun ⟨a,b,c⟩=>⟨ihx a,ihy b,ihz c⟩
 | _=>exact fun _=>trivial
theorem den_congr {N:Nat→Prop} {r r':Env} (h:∀i,N i→r' i=r i):∀{t:Ty} (e:E t),e.vs N→den e r'=den e r:=by
 intro t e
 induction e with
 | var t i=>intro hv;simp only [den];rw [h i hv]
 | o1 o x ih=>intro hv;simp only [den];rw [ih hv]
 | o2 o x y ihx ihy=>intro hv;simp only [den];rw [ihx hv.1,ihy hv.2]
 | o3 o x y z ihx ihy ihz=>intro hv;simp only [den];rw [ihx hv.1,ihy hv.2.1,ihz hv.2.2]
 | _=>intro _;simp only [den]
def Atom.vs (N:Nat→Prop):Atom→Prop
 | .x _ e=>e.vs N
 | .xc _ e=>e.vs N
 | .eptr _ _ _ i _=>i.vs N
 | .xptr _ _ l _ i _=>l.vs N∧i.vs N
 | .nref _ _ _ i _=>i.vs N
 | .nptr _ _ _ i _ _ _ i' _=>i.vs N∧i'.vs N
 | .vw _ _ lo hi=>lo.vs N∧hi.vs N
 | _=>True
theorem Atom.vs_mono {N N':Nat→Prop} (h:∀i,N i→N' i) (a:Atom):a.vs N→a.vs N':=by
 cases a<;>simp only [Atom.vs]<;>first | exact E.vs_mono h _ | exact fun ⟨a,b⟩=>⟨E.vs_mono h _ a,E.vs_mono h _ b⟩ | exact id
def Atom.uses (id:Nat):Atom→Bool
 | .ref i=>i==id
 | .ptr i _=>i==id
 | .eptr i _ _ _ _=>i==id
 | .clo _ caps=>caps.any (·.1==id)
 | .nref i _ _ _ _=>i==id
 | .nptr i _ _ _ _ _ _ _ _=>i==id
 | .vw i _ _ _=>i==id
 | _=>false
def SV.all (p:Atom→Prop):SV→Prop
 | .a x=>p x
 | .agg l=>∀a∈l,p a
 | .tup l=>∀c∈l,∀a∈c.2,p a
def Atom.nst:Atom→Bool
 | .nref _ _ _ _ _=>true
 | .nptr _ _ _ _ _ _ _ _ _=>true
 | _=>false
def Atom.ok (N:Nat→Prop) (h:Nat→Option Blk):Atom→Prop
 | .no=>True
 | .un=>True
 | .nil=>True
 | .x _ e=>e.vs N
 | .xc _ e=>e.vs N
 | .ref id=>(h id).isSome=true
 | .ptr id _=>(h id).isSome=true
 | .eptr id _ _ i _=>i.vs N∧(h id).isSome=true
 | .xptr _ _ l _ i _=>l.vs N∧i.vs N
 | .clo _ caps=>∀c∈caps,(h c.1).isSome=true
 | .nref id _ _ i _=>i.vs N∧(h id).isSome=true
 | .nptr id _ _ i _ _ _ i' _=>(i.vs N∧i'.vs N)∧(h id).isSome=true
 | .vw id _ lo hi=>(lo.vs N∧hi.vs N)∧(h id).isSome=true
theorem Atom.ok.vs {N:Nat→Prop} {h:Nat→Option Blk} {a:Atom} (ha:a.ok N h):a.vs N:=by
 cases a<;>first | exact ha | exact ha.1 | trivial
theorem Atom.ok.live {N:Nat→Prop} {h:Nat→Option Blk} {a:Atom} (ha:a.ok N h) {i:Nat} (hu:a.uses i=true):(h i).isSome=true:=by
 cases a<;>simp only [Atom.uses,beq_iff_eq,Bool.false_eq_true,List.any_eq_true] at hu <;>
  first
  | (subst hu;first | exact ha | exact ha.2)
  | (obtain ⟨c,hc,rfl⟩:=hu;exact ha c hc)
theorem Atom.ok_mk {N:Nat→Prop} {h:Nat→Option Blk} {a:Atom} (hv:a.vs N) (hl:∀i,a.uses i=true→(h i).isSome=true):a.ok N h:=by
 cases a<;>simp only [Atom.uses,Atom.vs,Atom.ok] at * <;>
  first
  | trivial
  | exact hv
  | exact hl _ (by simp)
  | exact ⟨hv,hl _ (by simp)⟩
  | exact fun c hc=>hl c.1 (List.any_eq_true.2 ⟨c,hc,by simp⟩)
theorem Atom.ok_mono {N N':Nat→Prop} {h h':Nat→Option Blk} (hN:∀i,N i→N' i) (hh:∀i,(h i).isSome=true→(h' i).isSome=true) {a:Atom} (ha:a.ok N h):a.ok N' h' :=
 Atom.ok_mk (Atom.vs_mono hN a ha.vs) fun i hu=>hh i (ha.live hu)
def Blk.ok (N:Nat→Prop) (h:Nat→Option Blk):Blk→Prop
 | .box l=>∀a∈l,a.ok N h
 | .arr _ _ e=>e.vs N
 | .hole _ e _ i _ a=>e.vs N∧i.vs N∧a.ok N h
 | .lent _ e _ i a=>e.vs N∧i.vs N∧a.ok N h
def Blk.vs (N:Nat→Prop):Blk→Prop
 | .box l=>∀a∈l,a.vs N
 | .arr _ _ e=>e.vs N
 | .hole _ e _ i _ a=>e.vs N∧i.vs N∧a.vs N
 | .lent _ e _ i a=>e.vs N∧i.vs N∧a.vs N
abbrev cell (w:World) (b o:Nat):Option Value:=w.cell? ⟨b,o,none⟩
theorem cell_eq (w:World) (b o:Nat):cell w b o=match w.heap[b]? with | some (.cells c _ _)=>c[o]? | _=>none:=by
 simp only [cell,World.cell?];cases w.heap[b]? with
 | none=>rfl
 | some o=>cases o<;>simp
theorem cell_congr {w w':World} {b:Nat} (h:w'.heap[b]?=w.heap[b]?) (o:Nat):cell w' b o=cell w b o:=by
 rw [cell_eq,cell_eq,h]
theorem cell_lt {w:World} {b o:Nat} {v:Value} (h:cell w b o=some v):b<w.heap.size:=by
 rw [cell_eq] at h
 rcases Nat.lt_or_ge b w.heap.size with hl | hl
 ·exact hl
 ·simp [Array.getElem?_eq_none hl] at h
theorem add_eq {a:Addr} (h:a.spot=none) (n:Nat):a.add n=⟨a.block,a.off+n,none⟩:=by
 cases a with
 | mk b o s =>
  simp only at h;subst h
  simp only [Addr.add];split<;>simp_all
def Rows (f:Nat→Option Value) (sz:Nat) {α:Type} (rep:α→List Value→Prop) (ds:List α):Prop :=
 ∀i (h:i<ds.length),∃us,us.length=sz∧(∀j u,us[j]?=some u→f (i * sz+j)=some u)∧rep ds[i] us
def Rep (w:World) (M:Nat→Prop):(t:Ty)→t.D→List Value→Prop
 | .int k,n,vs=>vs=[.int k n]
 | .bool,b,vs=>vs=[.bool b]
 | .str,s,vs=>vs=[.string s]
 | .sl c e,xs,vs=>∃(a:Option Addr) (cap:Nat),vs=[.slice a xs.length cap]∧xs.length≤cap∧(c=true→(a=none↔xs=[]))∧(a=none→cap=0) ∧
   ∀p,a=some p→xs≠[]→p.spot=none∧¬M p.block∧Rows (fun k=>cell w p.block (p.off+k)) e.size (Rep w M e) xs
 | .pr s t,p,vs=>∃l r,vs=l++r∧Rep w M s p.1 l∧Rep w M t p.2 r
theorem Rep.len {w:World} {M:Nat→Prop}:∀{t:Ty} {d:t.D} {vs:List Value},Rep w M t d vs→vs.length=t.size:=by
 intro t
 induction t with
 | int k=>intro d vs h;simp only [Rep] at h;simp [h,Ty.size]
 | bool=>intro d vs h;simp only [Rep] at h;simp [h,Ty.size]
 | str=>intro d vs h;simp only [Rep] at h;simp [h,Ty.size]
 | sl c e ih=>intro d vs h;obtain ⟨a,cap,h,_⟩:=h;simp [h,Ty.size]
 | pr s t ihs iht=>intro d vs h;obtain ⟨l,r,rfl,hl,hr⟩:=h;simp [Ty.size,ihs hl,iht hr]
structure Kept (w:World) (M:Nat→Prop) (w':World) (M':Nat→Prop):Prop where
 heap:∀b,b<w.heap.size→¬M b→w'.heap[b]?=w.heap[b]?
 less:∀b,b<w.heap.size→M' b→M b
theorem Kept.refl (w:World) (M:Nat→Prop):Kept w M w M:=⟨fun _ _ _=>rfl,fun _ _ h=>h⟩
theorem Rep.keep {w w':World} {M M':Nat→Prop} (hk:Kept w M w' M'):∀{t:Ty} {d:t.D} {vs:List Value},Rep w M t d vs→Rep w' M' t d vs:=by
 intro t
 induction t with
 | int k=>intro d vs h;exact h
 | bool=>intro d vs h;exact h
 | str=>intro d vs h;exact h
 | sl c e ih =>
  intro d vs h
  obtain ⟨a,cap,h1,h2,h3,h4,h5⟩:=h
  refine ⟨a,cap,h1,h2,h3,h4,?_⟩
  intro p hp hne
  obtain ⟨hs,hm,hr⟩:=h5 p hp hne
  have h0:0<d.length:=List.length_pos_iff.2 hne
  have hb:p.block<w.heap.size:=by
   obtain ⟨us,hl,hc,_⟩:=hr 0 h0
   have hpos:=e.size_pos
   have hlt:0<us.length:=by omega
   exact cell_lt (hc 0 us[0] (List.getElem?_eq_getElem hlt))
  refine ⟨hs,fun hM=>hm (hk.less _ hb hM),?_⟩
  intro i hi
  obtain ⟨us,hl,hc,hrep⟩:=hr i hi
  exact ⟨us,hl,fun j u hu=>(cell_congr (hk.heap _ hb hm) _).trans (hc j u hu),ih hrep⟩
 | pr s t ihs iht =>
  intro d vs h
  obtain ⟨l,r,h1,hl,hr⟩:=h
  exact ⟨l,r,h1,ihs hl,iht hr⟩
structure G where
 blk:Nat
 val:Value
 foot:List Nat
def OwnV (w:World) (v:Value) (o:Option Nat) (sz n:Nat) (xs:List Value):Prop :=
 xs.length=n * sz∧((∃a,v=.slice a 0 0∧n=0∧o=none) ∨
  ∃b off cap cur ety,o=some b∧v=.slice (some ⟨b,off,none⟩) n cap∧w.heap[b]?=some (.cells cur ety (0,0))∧n≤cap∧cap≤maxLen∧off+cap * sz≤cur.size∧(cur.toList.drop off).take (n * sz)=xs)
theorem OwnV.keep {w w':World} {v:Value} {o:Option Nat} {sz n:Nat} {xs:List Value} (hb:∀b,o=some b→w'.heap[b]?=w.heap[b]?) (h:OwnV w v o sz n xs):OwnV w' v o sz n xs:=by
 refine ⟨h.1,?_⟩
 rcases h.2 with h | ⟨b,off,cap,cur,ety,h1,h2,h3,h4⟩
 ·exact .inl h
 ·exact .inr ⟨b,off,cap,cur,ety,h1,h2,(hb b h1).trans h3,h4⟩
def DRep (w:World):(t:Ty)→Option Nat→List Nat→t.D→List Value→Prop
 | .int k,ho,F,n,vs=>F=[]∧if ho=some 0 then vs.length=1 else vs=[.int k n]
 | .bool,ho,F,b,vs=>F=[]∧if ho=some 0 then vs.length=1 else vs=[.bool b]
 | .str,ho,F,s,vs=>F=[]∧if ho=some 0 then vs.length=1 else vs=[.string s]
 | .sl c e,ho,F,xs,vs=>if ho=some 0 then F=[]∧vs.length=1 else
   ∃(v:Value) (o:Option Nat) (us:List Value) (Fs:List (List Nat)),vs=[v]∧OwnV w v o e.size xs.length us∧(c=true→(v=.slice none 0 0↔xs=[]))∧F=o.toList++Fs.flatten∧Fs.length=xs.length ∧
    ∀i (h:i<xs.length),∃cs,cs.length=e.size∧(∀j u,cs[j]?=some u→us[i * e.size+j]?=some u)∧DRep w e none (Fs.getD i []) (xs[i]) cs
 | .pr s t,ho,F,p,vs=>∃F1 F2 l r,F=F1++F2∧vs=l++r∧DRep w s (match ho with | some j=>if j<s.size then some j else none | none=>none) F1 p.1 l ∧
   DRep w t (match ho with | some j=>if j<s.size then none else some (j - s.size) | none=>none) F2 p.2 r
theorem getD_mem_flatten {Fs:List (List Nat)} {i b:Nat} (h:b∈Fs.getD i []):b∈Fs.flatten:=by
 rw [List.getD_eq_getElem?_getD] at h
 cases hi:Fs[i]? with
 | none=>simp [hi] at h
 | some l=>simp [hi] at h;exact List.mem_flatten.2 ⟨l,List.mem_of_getElem? hi,h⟩
theorem DRep.keep {w w':World}:∀{t:Ty} {ho:Option Nat} {F:List Nat} {d:t.D} {vs:List Value},(∀b∈F,w'.heap[b]?=w.heap[b]?)→DRep w t ho F d vs→DRep w' t ho F d vs:=by
 intro t
 induction t with
 | int k=>intro ho F d vs _ h;exact h
 | bool=>intro ho F d vs _ h;exact h
 | str=>intro ho F d vs _ h;exact h
 | sl c e ih =>
  intro ho F d vs hb h
  simp only [DRep] at h ⊢
  split
  ·rename_i hh;simpa [hh] using h
  ·rename_i hh
   simp only [hh,if_false] at h
   obtain ⟨v,o,us,Fs,h1,h2,h3,h4,h5,h6⟩:=h
   subst h4
   refine ⟨v,o,us,Fs,h1,h2.keep fun b hb'=>hb b (by simp [hb']),h3,rfl,h5,fun i hi=>?_⟩
   obtain ⟨cs,a1,a2,a3⟩:=h6 i hi
   exact ⟨cs,a1,a2,ih (fun b hb'=>hb b (List.mem_append_right _ (getD_mem_flatten hb'))) a3⟩
 | pr s t ihs iht =>
  intro ho F d vs hb h
  simp only [DRep] at h ⊢
  obtain ⟨F1,F2,l,r,h1,h2,h3,h4⟩:=h
  subst h1
  exact ⟨F1,F2,l,r,rfl,h2,ihs (fun b hb'=>hb b (List.mem_append_left _ hb')) h3,iht (fun b hb'=>hb b (List.mem_append_right _ hb')) h4⟩
def ARep (w:World) (M:Nat→Prop) (g:Nat→G) (r:Env):Atom→Value→Prop
 | .no,_=>True
 | .un,v=>v=undef
 | .nil,v=>v=.slice none 0 0
 | .x t e,v=>Rep w M t (den e r) [v]
 | .xc t e,v=>Rep w M (.sl false t) (den e r) [v]∧∃a,v=.slice a (den e r).length (den e r).length
 | .ref id,v=>v=(g id).val
 | .ptr id j,v=>v=.pointer (some ⟨(g id).blk,j,none⟩)
 | .eptr id t _ i j,v=>∃p n c,(g id).val=.slice (some p) n c∧p.spot=none∧(0:Int)≤den i r∧Int.toNat (den i r)<n∧v=.pointer (some ⟨p.block,p.off+(Int.toNat (den i r) * t.size+j),none⟩)
 | .xptr c t l _ i j,v=>∃p n cp,Rep w M (.sl c t) (den l r) [.slice (some p) n cp]∧p.spot=none∧(0:Int)≤den i r∧Int.toNat (den i r)<n∧v=.pointer (some ⟨p.block,p.off+(Int.toNat (den i r) * t.size+j),none⟩)
 | .clo f caps,v=>v=.func (.func f) #[] (caps.map fun c=>Value.pointer (some ⟨(g c.1).blk,c.2,none⟩)).toArray
 | .nref id t _ i j,v=>∃p n c,(g id).val=.slice (some p) n c∧p.block∈(g id).foot∧(0:Int)≤den i r∧Int.toNat (den i r)<n∧cell w p.block (p.off+(Int.toNat (den i r) * t.size+j))=some v
 | .nptr id t _ i j u _ i' j',v=>∃p n c q n' c',(g id).val=.slice (some p) n c∧p.block∈(g id).foot∧(0:Int)≤den i r∧Int.toNat (den i r)<n∧cell w p.block (p.off+(Int.toNat (den i r) * t.size+j))=some (.slice (some q) n' c') ∧
   q.spot=none∧(0:Int)≤den i' r∧Int.toNat (den i' r)<n'∧v=.pointer (some ⟨q.block,q.off+(Int.toNat (den i' r) * u.size+j'),none⟩)
 | .vw id t lo hi,v=>∃(x:Option Addr) (n c l h:Nat),(g id).val=.slice x n c∧l≤h∧h≤n∧(den lo r:Int)=l∧(den hi r:Int)=h∧v=.slice (if c=l then x else x.map (·.add (l * t.size))) (h - l) (c - l)
def AReps (w:World) (M:Nat→Prop) (g:Nat→G) (r:Env):List Atom→List Value→Prop
 | [],[]=>True
 | a::l,v::vs=>ARep w M g r a v∧AReps w M g r l vs
 | _,_=>False
def CRep (w:World) (M:Nat→Prop) (g:Nat→G) (r:Env) (c:Bool×List Atom) (v:Value):Prop :=
 if c.1=true then ∃cs,v=.agg cs∧AReps w M g r c.2 cs.toList else AReps w M g r c.2 [v]
def CReps (w:World) (M:Nat→Prop) (g:Nat→G) (r:Env):List (Bool×List Atom)→List Value→Prop
 | [],[]=>True
 | a::l,v::vs=>CRep w M g r a v∧CReps w M g r l vs
 | _,_=>False
def SRep (w:World) (M:Nat→Prop) (g:Nat→G) (r:Env):SV→Value→Prop
 | .a x,v=>ARep w M g r x v
 | .agg l,v=>∃cs,v=.agg cs∧AReps w M g r l cs.toList
 | .tup l,v=>∃cs,v=.tuple cs∧CReps w M g r l cs.toList
def SReps (w:World) (M:Nat→Prop) (g:Nat→G) (r:Env):List SV→List Value→Prop
 | [],[]=>True
 | a::l,v::vs=>SRep w M g r a v∧SReps w M g r l vs
 | _,_=>False
def SRepss (w:World) (M:Nat→Prop) (g:Nat→G) (r:Env):List (List SV)→List (Array Value)→Prop
 | [],[]=>True
 | a::l,v::vs=>SReps w M g r a v.toList∧SRepss w M g r l vs
 | _,_=>False
def Row (w:World) (M:Nat→Prop) (dp:Bool) (t:Ty) (ho:Option Nat) (F:List Nat) (d:t.D) (us:List Value):Prop :=
 if dp=true then DRep w t ho F d us else F=[]∧Rep w M t d us
def OwnA (w:World) (M:Nat→Prop) (g:G) (dp:Bool) (t:Ty) (ho:Nat→Option Nat) (ds:List t.D):Prop :=
 ∃(o:Option Nat) (xs:List Value) (Fs:List (List Nat)),OwnV w g.val o t.size ds.length xs∧g.foot=o.toList++Fs.flatten∧Fs.length=ds.length ∧
  ∀i (h:i<ds.length),∃us,us.length=t.size∧(∀j u,us[j]?=some u→xs[i * t.size+j]?=some u)∧Row w M dp t (ho i) (Fs.getD i []) ds[i] us
def OwnL (w:World) (M:Nat→Prop) (g:G) (t:Ty) (n:Nat) (ds:List t.D) (v:Value):Prop :=
 t.size=1∧∃(o:Option Nat) (xs:List Value),OwnV w g.val o t.size ds.length xs∧g.foot=o.toList∧n<ds.length∧xs[n]?=some v ∧
  ∀m (h:m<ds.length),m≠n→∃us,us.length=t.size∧(∀j u,us[j]?=some u→xs[m * t.size+j]?=some u)∧Rep w M t ds[m] us
def BRep (w:World) (M:Nat→Prop) (g:Nat→G) (r:Env) (id:Nat):Blk→Prop
 | .box l=>(g id).foot=[(g id).blk]∧∃c ty,w.heap[(g id).blk]?=some (.cells c ty (0,0))∧AReps w M g r l c.toList
 | .arr dp t e=>OwnA w M (g id) dp t (fun _=>none) (den e r)
 | .hole t e k i j a=>OwnA w M (g id) true t (fun k=>if k=Int.toNat (den i r) then some j else none) (den e r)∧∃v,ARep w M g r (.nref id t k i j) v∧ARep w M g r a v
 | .lent t e k i a=>∃v,OwnL w M (g id) t (Int.toNat (den i r)) (den e r) v∧ARep w M g r a v
def Mt (Z:Nat→Prop) (h:Nat→Option Blk) (g:Nat→G) (b:Nat):Prop:=(∃id B,h id=some B∧b∈(g id).foot)∨Z b
structure Bd where
 M0:Nat→Prop
 w0:World
 pins:List G
 kp:List (Nat×Nat)
 kept:Nat→Nat→Option Value
 Z:Nat→Prop
structure Wd (b:Bd) (w:World):Prop where
 os:w.os=b.w0.os
 tape:w.tape=b.w0.tape
 output:w.output=b.w0.output
 size:b.w0.heap.size≤w.heap.size
 heap:∀k,k<b.w0.heap.size→¬b.M0 k→w.heap[k]?=b.w0.heap[k]?
 zone:∀k,b.Z k→k<b.w0.heap.size∧¬b.M0 k
structure R (bd:Bd) (N:Nat→Prop) (s:St) (r:Env) (g:Nat→G) (tm:Array Value) (st:List (Array Value)) (w:World):Prop where
 cur:SReps w (Mt bd.Z s.heap g) g r s.cur tm.toList
 stk:SRepss w (Mt bd.Z s.heap g) g r s.stk st
 heap:∀id B,s.heap id=some B→BRep w (Mt bd.Z s.heap g) g r id B
 inj:∀id id' B B' b,s.heap id=some B→s.heap id'=some B'→b∈(g id).foot→b∈(g id').foot→id=id'
 nodup:∀id B,s.heap id=some B→(g id).foot.Nodup
 own:∀id B,s.heap id=some B→∀b∈(g id).foot,bd.M0 b∨bd.w0.heap.size≤b
 lt:∀id B,s.heap id=some B→∀b∈(g id).foot,b<w.heap.size
 world:Wd bd w
 pin:∀k p,bd.pins[k]?=some p→k<s.np→(g k).blk=p.blk∧(g k).val=p.val
 np:s.np=bd.pins.length
 kp:s.kp=bd.kp
 kept:∀c∈bd.kp,cell w (g c.1).blk c.2=bd.kept c.1 c.2
 kpl:∀c∈bd.kp,c.1<s.np∧∃l,s.heap c.1=some (.box l)
 ncur:∀v∈s.cur,v.all (Atom.ok N s.heap)
 nstk:∀f∈s.stk,∀v∈f,v.all (Atom.ok N s.heap)
 nheap:∀id B,s.heap id=some B→B.ok N s.heap
theorem ARep.keep {w w':World} {M M':Nat→Prop} {g g':Nat→G} {r r':Env} (hk:Kept w M w' M') {N:Nat→Prop} (hr:∀i,N i→r' i=r i) {a:Atom} (hn:a.vs N)
  (hg:∀id,a.uses id=true→(g' id).blk=(g id).blk∧(g' id).val=(g id).val)
  (hs:∀id,a.nst=true→a.uses id=true→g' id=g id∧∀p n c,(g id).val=.slice (some p) n c→p.block∈(g id).foot→w'.heap[p.block]?=w.heap[p.block]?) {v:Value} (h:ARep w M g r a v):ARep w' M' g' r' a v:=by
 cases a with
 | no=>trivial
 | un=>exact h
 | nil=>exact h
 | x t e=>simp only [ARep] at h ⊢;rw [den_congr hr e hn];exact h.keep hk
 | xc t e=>simp only [ARep] at h ⊢;rw [den_congr hr e hn];exact ⟨h.1.keep hk,h.2⟩
 | ref id=>simp only [ARep] at h ⊢;rw [(hg id (by simp [Atom.uses])).2];exact h
 | ptr id j=>simp only [ARep] at h ⊢;rw [(hg id (by simp [Atom.uses])).1];exact h
 | eptr id t k i j=>simp only [ARep] at h ⊢;rw [(hg id (by simp [Atom.uses])).2,den_congr hr i hn];exact h
 | xptr c t l k i j =>
  simp only [ARep] at h ⊢
  rw [den_congr hr i hn.2,den_congr hr l hn.1]
  obtain ⟨p,n,cp,h1,h2⟩:=h
  exact ⟨p,n,cp,h1.keep hk,h2⟩
 | clo f caps =>
  simp only [ARep] at h ⊢
  rw [h]
  congr 2
  refine List.map_congr_left fun c hc=>?_
  rw [(hg c.1 (by simp only [Atom.uses,List.any_eq_true];exact ⟨c,hc,by simp⟩)).1]
 | nref id t k i j =>
  simp only [ARep] at h ⊢
  obtain ⟨e1,e2⟩:=hs id rfl (by simp [Atom.uses])
  rw [e1,den_congr hr i hn]
  obtain ⟨p,n,c,h1,h2,h3,h4,h5⟩:=h
  exact ⟨p,n,c,h1,h2,h3,h4,(cell_congr (e2 p n c h1 h2) _).trans h5⟩
 | nptr id t k i j u k' i' j' =>
  simp only [ARep] at h ⊢
  obtain ⟨e1,e2⟩:=hs id rfl (by simp [Atom.uses])
  rw [e1,den_congr hr i hn.1,den_congr hr i' hn.2]
  obtain ⟨p,n,c,q,n',c',h1,h2,h3,h4,h5,h6⟩:=h
  exact ⟨p,n,c,q,n',c',h1,h2,h3,h4,(cell_congr (e2 p n c h1 h2) _).trans h5,h6⟩
 | vw id t lo hi =>
  simp only [ARep] at h ⊢
  rw [(hg id (by simp [Atom.uses])).2,den_congr hr lo hn.1,den_congr hr hi hn.2]
  exact h
theorem AReps.imp {w w':World} {M M':Nat→Prop} {g g':Nat→G} {r r':Env}:∀{l l':List Atom} {vs:List Value},AReps w M g r l vs→l'.length=l.length →
  (∀(i:Nat) a a' v,l[i]?=some a→l'[i]?=some a'→vs[i]?=some v→ARep w M g r a v→ARep w' M' g' r' a' v)→AReps w' M' g' r' l' vs
 | [],[],[],_,_,_=>trivial
 | a::l,a'::l',v::vs,h,hl,hi=>⟨hi 0 a a' v rfl rfl rfl h.1,AReps.imp h.2 (by simpa using hl) fun i b b' u hb hb' hu=>hi (i+1) b b' u hb hb' hu⟩
 | [],[],_::_,h,_,_=>h.elim
 | _::_,_,[],h,_,_=>h.elim
 | [],_::_,_,_,hl,_=>by simp at hl
 | _::_,[],_,_,hl,_=>by simp at hl
def SV.map (f:Atom→Atom):SV→SV
 | .a x=>.a (f x)
 | .agg l=>.agg (l.map f)
 | .tup l=>.tup (l.map fun c=>(c.1,c.2.map f))
def Blk.map (f:Atom→Atom):Blk→Blk
 | .box l=>.box (l.map f)
 | .arr dp t e=>.arr dp t e
 | .hole t e k i j a=>.hole t e k i j (f a)
 | .lent t e k i a=>.lent t e k i (f a)
section
variable {w w':World} {M M':Nat→Prop} {g g':Nat→G} {r r':Env} {f:Atom→Atom} {N N':Nat→Prop} {p p':Atom→Prop}
theorem AReps.map (hf:∀a v,p a→ARep w M g r a v→ARep w' M' g' r' (f a) v):∀{l:List Atom} {vs:List Value},(∀a∈l,p a)→AReps w M g r l vs→AReps w' M' g' r' (l.map f) vs
 | [],[],_,_=>trivial
 | a::l,v::vs,hn,h=>⟨hf a v (hn a (List.mem_cons_self ..)) h.1,AReps.map hf (fun b hb=>hn b (List.mem_cons_of_mem _ hb)) h.2⟩
 | [],_::_,_,h=>h.elim
 | _::_,[],_,h=>h.elim
theorem CReps.map (hf:∀a v,p a→ARep w M g r a v→ARep w' M' g' r' (f a) v):∀{l:List (Bool×List Atom)} {vs:List Value},(∀c∈l,∀a∈c.2,p a)→CReps w M g r l vs →
  CReps w' M' g' r' (l.map fun c=>(c.1,c.2.map f)) vs
 | [],[],_,_=>trivial
 | (true,l)::t,v::vs,hn,⟨⟨cs,h1,h2⟩,h3⟩=>⟨⟨cs,h1,AReps.map hf (hn _ (List.mem_cons_self ..)) h2⟩,CReps.map hf (fun c hc=>hn c (List.mem_cons_of_mem _ hc)) h3⟩
 | (false,l)::t,v::vs,hn,⟨h,h3⟩=>⟨AReps.map hf (hn _ (List.mem_cons_self ..)) h,CReps.map hf (fun c hc=>hn c (List.mem_cons_of_mem _ hc)) h3⟩
 | [],_::_,_,h=>h.elim
 | _::_,[],_,h=>h.elim
theorem SRep.map (hf:∀a v,p a→ARep w M g r a v→ARep w' M' g' r' (f a) v) {s:SV} {v:Value} (hn:s.all p) (h:SRep w M g r s v):SRep w' M' g' r' (s.map f) v:=by
 cases s with
 | a x=>exact hf x v hn h
 | agg l=>obtain ⟨cs,h1,h2⟩:=h;exact ⟨cs,h1,h2.map hf hn⟩
 | tup l=>obtain ⟨cs,h1,h2⟩:=h;exact ⟨cs,h1,h2.map hf hn⟩
theorem SReps.map (hf:∀a v,p a→ARep w M g r a v→ARep w' M' g' r' (f a) v):∀{l:List SV} {vs:List Value},(∀c∈l,c.all p)→SReps w M g r l vs →
  SReps w' M' g' r' (l.map (SV.map f)) vs
 | [],[],_,_=>trivial
 | a::l,v::vs,hn,h=>⟨h.1.map hf (hn a (List.mem_cons_self ..)),SReps.map hf (fun b hb=>hn b (List.mem_cons_of_mem _ hb)) h.2⟩
 | [],_::_,_,h=>h.elim
 | _::_,[],_,h=>h.elim
theorem SRepss.map (hf:∀a v,p a→ARep w M g r a v→ARep w' M' g' r' (f a) v):∀{l:List (List SV)} {vs:List (Array Value)},(∀c∈l,∀v∈c,v.all p)→SRepss w M g r l vs →
  SRepss w' M' g' r' (l.map (List.map (SV.map f))) vs
 | [],[],_,_=>trivial
 | a::l,v::vs,hn,h=>⟨h.1.map hf (hn a (List.mem_cons_self ..)),SRepss.map hf (fun b hb=>hn b (List.mem_cons_of_mem _ hb)) h.2⟩
 | [],_::_,_,h=>h.elim
 | _::_,[],_,h=>h.elim
theorem SV.all_map {s:SV} (h:s.all p) (hf:∀a,p a→p' (f a)):(s.map f).all p':=by
 cases s with
 | a x=>exact hf x h
 | agg l=>intro a ha;obtain ⟨b,hb,rfl⟩:=List.mem_map.1 ha;exact hf b (h b hb)
 | tup l =>
  intro c hc a ha
  obtain ⟨c',hc',rfl⟩:=List.mem_map.1 hc
  obtain ⟨b,hb,rfl⟩:=List.mem_map.1 ha
  exact hf b (h c' hc' b hb)
theorem SReps.length:∀{l:List SV} {vs:List Value},SReps w M g r l vs→l.length=vs.length
 | [],[],_=>rfl
 | _::_,_::_,h=>congrArg (·+1) (SReps.length h.2)
 | [],_::_,h=>h.elim
 | _::_,[],h=>h.elim
theorem SReps.get:∀{l:List SV} {vs:List Value} {i:Nat} {s:SV},SReps w M g r l vs→l[i]?=some s→∃v,vs[i]?=some v∧SRep w M g r s v
 | [],[],_,_,_,h=>by simp at h
 | _::_,v::_,0,s,h,hs=>⟨v,rfl,by simp at hs;exact hs▸h.1⟩
 | a::l,b::bs,i+1,s,h,hs=>let ⟨u,hu,hr⟩:=SReps.get (l:=l) (vs:=bs) (i:=i) h.2 (by simpa using hs);⟨u,by simpa using hu,hr⟩
 | [],_::_,_,_,h,_=>h.elim
 | _::_,[],_,_,h,_=>h.elim
theorem SReps.set:∀{l:List SV} {vs:List Value} {i:Nat} {s:SV} {v:Value},SReps w M g r l vs→SRep w M g r s v→SReps w M g r (l.set i s) (vs.set i v)
 | [],[],_,_,_,_,_=>trivial
 | _::_,_::_,0,_,_,h,hs=>⟨hs,h.2⟩
 | _::_,_::_,i+1,_,_,h,hs=>⟨h.1,SReps.set h.2 hs⟩
 | [],_::_,_,_,_,h,_=>h.elim
 | _::_,[],_,_,_,h,_=>h.elim
theorem AReps.length:∀{l:List Atom} {vs:List Value},AReps w M g r l vs→l.length=vs.length
 | [],[],_=>rfl
 | _::_,_::_,h=>congrArg (·+1) (AReps.length h.2)
 | [],_::_,h=>h.elim
 | _::_,[],h=>h.elim
theorem AReps.get:∀{l:List Atom} {vs:List Value} {i:Nat} {s:Atom},AReps w M g r l vs→l[i]?=some s→∃v,vs[i]?=some v∧ARep w M g r s v
 | [],[],_,_,_,h=>by simp at h
 | _::_,v::_,0,s,h,hs=>⟨v,rfl,by simp at hs;exact hs▸h.1⟩
 | a::l,b::bs,i+1,s,h,hs=>let ⟨u,hu,hr⟩:=AReps.get (l:=l) (vs:=bs) (i:=i) h.2 (by simpa using hs);⟨u,by simpa using hu,hr⟩
 | [],_::_,_,_,h,_=>h.elim
 | _::_,[],_,_,h,_=>h.elim
theorem AReps.set:∀{l:List Atom} {vs:List Value} {i:Nat} {s:Atom} {v:Value},AReps w M g r l vs→ARep w M g r s v→AReps w M g r (l.set i s) (vs.set i v)
 | [],[],_,_,_,_,_=>trivial
 | _::_,_::_,0,_,_,h,hs=>⟨hs,h.2⟩
 | _::_,_::_,i+1,_,_,h,hs=>⟨h.1,AReps.set h.2 hs⟩
 | [],_::_,_,_,_,h,_=>h.elim
 | _::_,[],_,_,_,h,_=>h.elim
theorem AReps.append:∀{l l':List Atom} {vs vs':List Value},AReps w M g r l vs→AReps w M g r l' vs'→AReps w M g r (l++l') (vs++vs')
 | [],_,[],_,_,h'=>h'
 | _::_,_,_::_,_,h,h'=>⟨h.1,AReps.append h.2 h'⟩
 | [],_,_::_,_,h,_=>h.elim
 | _::_,_,[],_,h,_=>h.elim
theorem AReps.take:∀{l:List Atom} {vs:List Value} (n:Nat),AReps w M g r l vs→AReps w M g r (l.take n) (vs.take n)
 | [],[],_,_=>by simp [AReps]
 | _::_,_::_,0,_=>trivial
 | _::_,_::_,n+1,h=>⟨h.1,AReps.take n h.2⟩
 | [],_::_,_,h=>h.elim
 | _::_,[],_,h=>h.elim
theorem AReps.drop:∀{l:List Atom} {vs:List Value} (n:Nat),AReps w M g r l vs→AReps w M g r (l.drop n) (vs.drop n)
 | [],[],_,_=>by simp [AReps]
 | _::_,_::_,0,h=>h
 | _::_,_::_,n+1,h=>AReps.drop n h.2
 | [],_::_,_,h=>h.elim
 | _::_,[],_,h=>h.elim
theorem Row.keep (hk:Kept w M w' M') {dp:Bool} {t:Ty} {ho:Option Nat} {F:List Nat} {d:t.D} {us:List Value} (hF:∀b∈F,w'.heap[b]?=w.heap[b]?)
  (h:Row w M dp t ho F d us):Row w' M' dp t ho F d us:=by
 unfold Row at *
 split
 ·rename_i hd;simp only [hd,if_true] at h;exact h.keep hF
 ·rename_i hd;simp only [hd,if_false,Bool.false_eq_true] at h;exact ⟨h.1,h.2.keep hk⟩
theorem OwnA.keep (hk:Kept w M w' M') {g0:G} {dp:Bool} {t:Ty} {ho:Nat→Option Nat} {ds:List t.D} (hb:∀b∈g0.foot,w'.heap[b]?=w.heap[b]?)
  (h:OwnA w M g0 dp t ho ds):OwnA w' M' g0 dp t ho ds:=by
 obtain ⟨o,xs,Fs,h1,h2,h3,h4⟩:=h
 refine ⟨o,xs,Fs,h1.keep fun b ho=>hb b (by rw [h2];simp [ho]),h2,h3,fun i hi=>?_⟩
 obtain ⟨us,a1,a2,a3⟩:=h4 i hi
 exact ⟨us,a1,a2,a3.keep hk fun b hb'=>hb b (by rw [h2];exact List.mem_append_right _ (getD_mem_flatten hb'))⟩
theorem OwnL.keep (hk:Kept w M w' M') {g0:G} {t:Ty} {n:Nat} {ds:List t.D} {v:Value} (hb:∀b∈g0.foot,w'.heap[b]?=w.heap[b]?)
  (h:OwnL w M g0 t n ds v):OwnL w' M' g0 t n ds v:=by
 obtain ⟨h0,o,xs,h1,h2,h3,h4,h5⟩:=h
 refine ⟨h0,o,xs,h1.keep fun b ho=>hb b (by rw [h2];simp [ho]),h2,h3,h4,fun i hi hn=>?_⟩
 obtain ⟨us,a1,a2,a3⟩:=h5 i hi hn
 exact ⟨us,a1,a2,a3.keep hk⟩
theorem BRep.keep {h0:Nat→Option Blk} (hk:Kept w M w' M') (hr:∀i,N i→r' i=r i) (hf:∀a v,a.ok N h0→ARep w M g r a v→ARep w' M' g' r' (f a) v) {id:Nat} {B:Blk}
  (hn:B.ok N h0) (hg:g' id=g id) (hb:∀b∈(g id).foot,w'.heap[b]?=w.heap[b]?) (h:BRep w M g r id B):BRep w' M' g' r' id (B.map f):=by
 cases B with
 | box l =>
  obtain ⟨h0,c,ty,h1,h2⟩:=h
  refine ⟨by rw [hg];exact h0,c,ty,?_,h2.map hf hn⟩
  rw [hg,hb _ (by rw [h0];simp)]
  exact h1
 | arr dp t e =>
  simp only [BRep,Blk.map] at h ⊢
  rw [hg,den_congr hr e hn]
  exact h.keep hk hb
 | hole t e k i j a =>
  simp only [BRep,Blk.map] at h ⊢
  obtain ⟨h1,v,h2,h3⟩:=h
  refine ⟨?_,v,?_,hf a v hn.2.2 h3⟩
  ·rw [hg,den_congr hr e hn.1,den_congr hr i hn.2.1]
   exact h1.keep hk hb
  ·refine ARep.keep hk hr (N:=N) (a:=.nref id t k i j) hn.2.1 (fun m hm=>?_) (fun m _ hm=>?_) h2
   ·simp only [Atom.uses,beq_iff_eq] at hm;subst hm;rw [hg];exact ⟨rfl,rfl⟩
   ·simp only [Atom.uses,beq_iff_eq] at hm;subst hm;exact ⟨hg,fun p n c _ hp=>hb _ hp⟩
 | lent t e k i a =>
  simp only [BRep,Blk.map] at h ⊢
  obtain ⟨v,h1,h3⟩:=h
  refine ⟨v,?_,hf a v hn.2.2 h3⟩
  rw [hg,den_congr hr e hn.1,den_congr hr i hn.2.1]
  exact h1.keep hk hb
end
theorem R.step {bd:Bd} {N N':Nat→Prop} {s:St} {r r':Env} {g g':Nat→G} {tm:Array Value} {st:List (Array Value)} {w w':World} (h:R bd N s r g tm st w)
  (f:Atom→Atom) (h':Nat→Option Blk) (b':Nat)
  (hf:∀a v,a.ok N s.heap→ARep w (Mt bd.Z s.heap g) g r a v→ARep w' (Mt bd.Z h' g') g' r' (f a) v) (hfn:∀a,a.ok N s.heap→(f a).ok N' h')
  (heap:∀id B,h' id=some B→BRep w' (Mt bd.Z h' g') g' r' id B)
  (inj:∀id id' B B' b,h' id=some B→h' id'=some B'→b∈(g' id).foot→b∈(g' id').foot→id=id')
  (nodup:∀id B,h' id=some B→(g' id).foot.Nodup)
  (own:∀id B,h' id=some B→∀b∈(g' id).foot,bd.M0 b∨bd.w0.heap.size≤b)
  (lt:∀id B,h' id=some B→∀b∈(g' id).foot,b<w'.heap.size)
  (world:Wd bd w') (kept:∀c∈bd.kp,cell w' (g' c.1).blk c.2=bd.kept c.1 c.2) (pin:∀k,k<s.np→(g' k).blk=(g k).blk∧(g' k).val=(g k).val) (kpl:∀c∈bd.kp,∃l,h' c.1=some (.box l)) (nheap:∀id B,h' id=some B→B.ok N' h') :
  R bd N' ⟨s.cur.map (SV.map f),s.stk.map (List.map (SV.map f)),h',b',s.np,s.kp⟩ r' g' tm st w' where
 cur:=h.cur.map hf h.ncur
 stk:=h.stk.map hf h.nstk
 heap:=heap
 inj:=inj
 nodup:=nodup
 own:=own
 lt:=lt
 world:=world
 pin:=fun k p hp hk=>by
  obtain ⟨h1,h2⟩:=h.pin k p hp hk
  obtain ⟨h3,h4⟩:=pin k hk
  exact ⟨h3.trans h1,h4.trans h2⟩
 np:=h.np
 kp:=h.kp
 kept:=kept
 kpl:=fun c hc=>⟨(h.kpl c hc).1,kpl c hc⟩
 ncur:=by
  intro v hv
  obtain ⟨u,hu,rfl⟩:=List.mem_map.1 hv
  exact SV.all_map (h.ncur u hu) hfn
 nstk:=by
  intro fr hfr v hv
  obtain ⟨fr',hfr',rfl⟩:=List.mem_map.1 hfr
  obtain ⟨u,hu,rfl⟩:=List.mem_map.1 hv
  exact SV.all_map (h.nstk fr' hfr' u hu) hfn
 nheap:=nheap
theorem R.put {bd:Bd} {N:Nat→Prop} {s:St} {r:Env} {g:Nat→G} {tm:Array Value} {st:List (Array Value)} {w:World} (h:R bd N s r g tm st w)
  {d:Nat} {sv:SV} {v:Value} (hv:SRep w (Mt bd.Z s.heap g) g r sv v) (hn:sv.all (Atom.ok N s.heap)) :
  R bd N { s with cur:=s.cur.set d sv } r g (tm.setIfInBounds d v) st w where
 cur:=by rw [Array.toList_setIfInBounds];exact h.cur.set hv
 stk:=h.stk
 heap:=h.heap
 inj:=h.inj
 nodup:=h.nodup
 own:=h.own
 lt:=h.lt
 world:=h.world
 pin:=h.pin
 np:=h.np
 kp:=h.kp
 kept:=h.kept
 kpl:=h.kpl
 ncur:=by
  intro u hu
  rcases List.mem_or_eq_of_mem_set hu with hu | rfl
  ·exact h.ncur u hu
  ·exact hn
 nstk:=h.nstk
 nheap:=h.nheap
theorem R.notZ {bd:Bd} {N:Nat→Prop} {s:St} {r:Env} {g:Nat→G} {tm:Array Value} {st:List (Array Value)} {w:World} (h:R bd N s r g tm st w) {id:Nat} {B:Blk} (hB:s.heap id=some B) {b:Nat} (hb:b∈(g id).foot):¬bd.Z b:=by
 intro hz
 obtain ⟨h1,h2⟩:=h.world.zone b hz
 rcases h.own id B hB b hb with h3 | h3
 ·exact h2 h3
 ·omega
theorem Bd.newZ {bd:Bd} {w:World} (h:Wd bd w) {b:Nat} (hb:w.heap.size≤b):¬bd.Z b:=by
 intro hz
 have h1:=(h.zone b hz).1
 have h2:=h.size
 omega
end Go.Sm
namespace Go.Sm
set_option linter.unusedVariables false
inductive CS where
 | p (t:Ty) | arr (dp:Bool) (t:Ty)
 | box (t:Ty) | eat (dp:Bool) (t:Ty)
 | self (f:FuncId) | rbx (dp:Bool) (t:Ty)
inductive Sh where
 | p (t:Ty) | agg (l:List CS) | arr (dp:Bool) (t:Ty) | box (t:Ty) | eat (dp:Bool) (t:Ty) | self (f:FuncId) | rbx (dp:Bool) (t:Ty)
structure Sig where
 ps:List Sh
 rs:List Sh
inductive Trn where
 | own (dp:Bool) (t:Ty) | pure (t:Ty) | shal | nul (t:Ty) | back
structure Hint where
 live:List (Nat×List Nat×List Nat):=[]
 acts:List (Nat×List (Nat×Option Nat×Trn)):=[]
 frz:List (Nat×Nat):=[]
 vws:List (Nat×Nat):=[]
 dup:List Nat:=[]
structure Cx where
 P:Program
 sg:FuncId→Option Sig
 hint:FuncId→Hint
 ins:FuncId→Option Ty:=fun _=>none
def coe (s t:Ty) (e:E s):Option (E t) :=
 if h:s=t then some (h▸e) else
 match s,t,e with
 | .sl true a,.sl false b,e=>if h:a=b then some (h▸(.o1 (.re true false a) e)) else none
 | _,_,_=>none
def Ty.hasSl:Ty→Bool
 | .sl _ _=>true
 | .pr a b=>a.hasSl||b.hasSl
 | _=>false
def projE:(t:Ty)→Nat→E t→Option AE
 | .pr a b,j,e=>if j<a.size then projE a j (.o1 (.fst a b) e) else projE b (j - a.size) (.o1 (.snd a b) e)
 | .int k,0,e=>some ⟨.int k,e⟩
 | .bool,0,e=>some ⟨.bool,e⟩
 | .str,0,e=>some ⟨.str,e⟩
 | .sl c t,0,e=>some ⟨.sl c t,e⟩
 | _,_+1,_=>none
def nestE (h:Nat→Option Blk) (id:Nat) (t:Ty) (k:IntKind) (i:E (.int k)) (j:Nat):Option AE :=
 match h id with
 | some (.arr true t' e)=>if hh:t'=t then projE t j (.o2 (.idx false t k) (hh▸e) i) else none
 | _=>none
def Atom.toE (h:Nat→Option Blk) (t:Ty):Atom→Option (E t)
 | .x s e=>coe s t e
 | .xc s e=>coe (.sl false s) t e
 | .nil=>match t with
  | .sl c e=>some (.nil c e)
  | _=>none
 | .ref id=>match h id with
  | some (.arr _ s e)=>coe (.sl false s) t e
  | _=>none
 | .nref id s k i j=>(nestE h id s k i j).bind fun a=>coe a.1 t a.2
 | _=>none
def atomLit:Value→Atom
 | .int k n=>.x (.int k) (.int k n)
 | .bool b=>.x .bool (.bool b)
 | .string s=>.x .str (.str s)
 | .slice none 0 0=>.nil
 | _=>.no
def St.get (s:St):Operand→SV
 | .tmp t=>s.cur.getD t (.a .no)
 | .const v=>.a (atomLit v)
 | .func f=>.a (.clo f [])
 | .global _=>.a .no
def SV.cells:SV→List Atom
 | .a x=>[x]
 | .agg l=>l
 | .tup _=>[]
def SV.atom:SV→Atom
 | .a x=>x
 | _=>.no
def upd (h:Nat→Option Blk) (id:Nat) (b:Option Blk):Nat→Option Blk:=fun k=>bif k==id then b else h k
def free (s:St) (id:Nat):Bool:=(s.heap id).isNone&&decide (s.np≤id)
def St.new (s:St) (id:Nat) (b:Blk):St:={ s with heap:=upd s.heap id (some b) }
def killA (id:Nat) (a:Atom):Atom:=bif a.uses id then .no else a
def killB (id:Nat) (h:Nat→Option Blk):Nat→Option Blk:=fun k=>bif k==id then none else (h k).map (Blk.map (killA id))
def St.kill (s:St) (id:Nat):St:=⟨s.cur.map (SV.map (killA id)),s.stk.map (List.map (SV.map (killA id))),killB id s.heap,s.base,s.np,s.kp⟩
def frzA (id:Nat) (t:Ty) (e:E (.sl false t)) (a:Atom):Atom :=
 bif a.uses id then
  match a with
  | .ref _=>.x (.sl false t) e
  | .eptr _ t' k i j=>if h:t'=t then .xptr false t e k i j else .no
  | .nref _ t' k i j=>if h:t'=t then (match projE t j (.o2 (.idx false t k) e i) with | some a=>.x a.1 a.2 | none=>.no) else .no
  | .vw _ t' lo hi=>if t'=t then .x (.sl false t) (.o2 (.drop t .i64) (.o2 (.take t .i64) e hi) lo) else .no
  | _=>.no
 else a
def St.freeze (s:St) (id:Nat):St :=
 match s.heap id with
 | some (.arr _ t e)=>⟨s.cur.map (SV.map (frzA id t e)),s.stk.map (List.map (SV.map (frzA id t e))),fun k=>bif k==id then none else (s.heap k).map (Blk.map (frzA id t e)),s.base,s.np,s.kp⟩
 | _=>s
def shlA (id:Nat) (t:Ty) (e:E (.sl false t)) (a:Atom):Atom :=
 bif a.nst&&a.uses id then
  match a with
  | .nref _ t' k i j=>if h:t'=t then (match projE t j (.o2 (.idx false t k) e i) with | some a=>.x a.1 a.2 | none=>.no) else .no
  | _=>.no
 else a
def St.shallow (s:St) (id:Nat):St :=
 match s.heap id with
 | some (.arr true t e)=>⟨s.cur.map (SV.map (shlA id t e)),s.stk.map (List.map (SV.map (shlA id t e))),fun k=>bif k==id then some (.arr false t e) else (s.heap k).map (Blk.map (shlA id t e)),s.base,s.np,s.kp⟩
 | _=>s
def nstA (id:Nat) (a:Atom):Atom:=bif a.nst&&a.uses id then .no else a
def St.unnest (s:St) (id:Nat):St:=⟨s.cur.map (SV.map (nstA id)),s.stk.map (List.map (SV.map (nstA id))),fun k=>(s.heap k).map (Blk.map (nstA id)),s.base,s.np,s.kp⟩
def refsOf (l:List Atom):List Nat:=l.filterMap fun | .ref id=>some id | .nref id _ _ _ _=>some id | .vw id _ _ _=>some id | _=>none
def St.solid (s:St) (x:Operand):St:=(refsOf (s.get x).cells).foldl St.freeze s
def St.solids (s:St) (l:List Operand):St:=l.foldl St.solid s
def isAggT (P:Program) (t:TypeId):Option Bool :=
 match P.underlying t with
 | some (.struct _)=>some true
 | some (.array _ _)=>some true
 | some _=>some false
 | none=>none
def tyPr:List Ty→Option Ty
 | []=>none
 | [a]=>some a
 | a::l=>(tyPr l).map (.pr a)
def tyOf (P:Program):Nat→TypeId→Option Ty
 | 0,_=>none
 | n+1,t =>
  match P.underlying t with
  | some (.int k)=>some (.int k)
  | some .bool=>some .bool
  | some .string=>some .str
  | some (.slice e)=>(tyOf P n e).map (.sl false)
  | some (.struct fs)=>(fs.toList.mapM fun f=>tyOf P n f.type).bind tyPr
  | _=>none
def isZ:Ty→List Value→Option (List Value)
 | .int k,.int k' 0::r=>if k=k' then some r else none
 | .bool,.bool false::r=>some r
 | .str,.string s::r=>if s.size=0 then some r else none
 | .sl _ _,.slice none 0 0::r=>some r
 | .pr a b,l=>(isZ a l).bind (isZ b)
 | _,_=>none
def elemT (P:Program) (t:TypeId):Option Ty :=
 match P.underlying t with
 | some (.slice e) =>
  match P.info? e,tyOf P 8 e with
  | some i,some ty =>
   match i.zero with
   | some z=>if i.size=ty.size∧z.cells.size=ty.size∧i.bytes≤128 then (if (isZ ty z.cells.toList).map List.length=some 0 then some ty else none) else none
   | none=>none
  | _,_=>none
 | _=>none
def lim:Int:=549755813888
def eI (k:IntKind) (n:Int):E (.int k):=.int k n
def gLe {k k':IntKind} (a:E (.int k)) (b:E (.int k')):E .bool:=.o2 (.cm .leq k k') a b
def gLt {k k':IntKind} (a:E (.int k)) (b:E (.int k')):E .bool:=.o2 (.cm .lss k k') a b
def cellsE:(t:Ty)→E t→List Atom
 | .pr a b,e=>cellsE a (.o1 (.fst a b) e)++cellsE b (.o1 (.snd a b) e)
 | .int k,e=>[.x (.int k) e]
 | .bool,e=>[.x .bool e]
 | .str,e=>[.x .str e]
 | .sl c t,e=>[.x (.sl c t) e]
def mkE (h:Nat→Option Blk):(t:Ty)→List Atom→Option (E t×List Atom)
 | .pr a b,l =>
  match mkE h a l with
  | some (x,l1)=>match mkE h b l1 with
   | some (y,l2)=>some (.o2 (.pair a b) x y,l2)
   | none=>none
  | none=>none
 | .int k,x::l=>(x.toE h (.int k)).map (·,l)
 | .bool,x::l=>(x.toE h .bool).map (·,l)
 | .str,x::l=>(x.toE h .str).map (·,l)
 | .sl c t,x::l=>(x.toE h (.sl c t)).map (·,l)
 | _,[]=>none
def putCell (h:Nat→Option Blk):(t:Ty)→Nat→E t→Atom→Option (E t)
 | .pr a b,j,e,x =>
  if j<a.size then (putCell h a j (.o1 (.fst a b) e) x).map fun u=>.o2 (.pair a b) u (.o1 (.snd a b) e)
  else (putCell h b (j - a.size) (.o1 (.snd a b) e) x).map fun u=>.o2 (.pair a b) (.o1 (.fst a b) e) u
 | .int k,0,_,x=>x.toE h (.int k)
 | .bool,0,_,x=>x.toE h .bool
 | .str,0,_,x=>x.toE h .str
 | .sl c t,0,_,x=>x.toE h (.sl c t)
 | _,_+1,_,_=>none
abbrev Res:=Option (List (E .bool)×SV×St)
def one (s:St) (v:SV):Res:=some ([],v,s)
def ax (t:Ty) (e:E t):SV:=.a (.x t e)
def part (l:List Atom) (agg:Bool) (j n:Nat):Option SV :=
 if agg then (if j+n≤l.length∧0<n then some (.agg ((l.drop j).take n)) else none) else (l[j]?).map .a
def cellsN (id:Nat) (t0:Ty) (k:IntKind) (i:E (.int k)):(t:Ty)→Nat→E t→List Atom
 | .pr a b,o,e=>cellsN id t0 k i a o (.o1 (.fst a b) e)++cellsN id t0 k i b (o+a.size) (.o1 (.snd a b) e)
 | .sl _ _,o,_=>[.nref id t0 k i o]
 | .int k',_,e=>[.x (.int k') e]
 | .bool,_,e=>[.x .bool e]
 | .str,_,e=>[.x .str e]
def symLoad (P:Program) (s:St) (t:TypeId) (x:Operand):Res :=
 match isAggT P t,P.info? t with
 | some g,some i =>
  match s.get x with
  | .a (.ptr id j) =>
   match s.heap id with
   | some (.box l)=>(part l g j i.size).bind (one s)
   | _=>none
  | .a (.eptr id ty k ix j) =>
   match s.heap id with
   | some (.arr false ty' e)=>if h:ty'=ty then (part (cellsE ty (.o2 (.idx false ty k) (h▸e) ix)) g j i.size).bind (one s) else none
   | some (.arr true ty' e)=>if h:ty'=ty then (part (cellsN id ty k ix ty 0 (.o2 (.idx false ty k) (h▸e) ix)) g j i.size).bind (one s) else none
   | some (.hole ty' _ k' ix' j' b)=>if ty'=ty∧j'=j∧i.size=1∧g=false then some (if eqE ix ix' then [] else [.o2 (.cm .eql k k') ix ix'],.a b,s) else none
   | some (.lent ty' _ k' ix' b)=>if ty'=ty∧j=0∧i.size=1∧g=false then some (if eqE ix ix' then [] else [.o2 (.cm .eql k k') ix ix'],.a b,s) else none
   | _=>none
  | .a (.xptr c ty l k ix j)=>(part (cellsE ty (.o2 (.idx c ty k) l ix)) g j i.size).bind (one s)
  | .a (.nptr id ty k ix j u k' ix' j') =>
   match nestE s.heap id ty k ix j with
   | some ⟨.sl c u',l⟩=>if h:u'=u then (if u.hasSl then none else (part (cellsE u (.o2 (.idx c u k') (h▸l) ix')) g j' i.size).bind (one s)) else none
   | _=>none
  | _=>none
 | _,_=>none
def Atom.one (h:Nat→Option Blk):Atom→Bool
 | .no=>false
 | .un=>false
 | .vw _ _ _ _=>false
 | .ref id=>match h id with
  | some (.arr _ _ _)=>true
  | _=>false
 | .nref id t k i j=>(nestE h id t k i j).isSome
 | _=>true
def SV.one (h:Nat→Option Blk):SV→Bool
 | .a x=>x.one h
 | .agg _=>true
 | .tup _=>false
def movable (h:Nat→Option Blk):List Atom→Option (List Nat)
 | []=>some []
 | .ref id::l =>
  match h id,movable h l with
  | some (.arr dp t _),some r=>if (dp||!t.hasSl)&&!(r.contains id) then some (id::r) else none
  | _,_=>none
 | .x t _::l=>if t.hasSl then none else movable h l
 | .nil::l=>movable h l
 | _::_=>none
def Atom.pure:Atom→Bool
 | .ref _=>false
 | .nref _ _ _ _ _=>false
 | .vw _ _ _ _=>false
 | _=>true
def pureFor (ty:Ty) (l:List Atom):Bool:=!ty.hasSl||l.all Atom.pure
def St.kills (s:St) (l:List Nat):St:=l.foldl St.kill s
def newElem (h:Nat→Option Blk) (ty:Ty) (j:Nat) (row:E ty) (cs:List Atom):Option (E ty) :=
 if cs.length=ty.size∧j=0 then
  match mkE h ty cs with
  | some (u,[])=>some u
  | _=>none
 else match cs with
  | [a]=>putCell h ty j row a
  | _=>none
def storeFlat (s:St) (n:Nat) (id:Nat) (ty:Ty) (k:IntKind) (ix:E (.int k)) (j:Nat) (v:Operand):Res :=
 match s.heap id with
 | some (.arr false ty' e) =>
  if h:ty'=ty then
   if (s.get v).cells.length=n∧pureFor ty (s.get v).cells=true∧(s.get v).cells.all (Atom.one s.heap)=true then
    match newElem s.heap ty j (.o2 (.idx false ty k) (h▸e) ix) (s.get v).cells with
    | some u=>one (s.new id (.arr false ty (.o3 (.set ty k) (h▸e) ix u))) (.a .no)
    | none=>none
   else none
  else none
 | _=>none
def storeDeep (s:St) (n:Nat) (id:Nat) (ty:Ty) (k:IntKind) (ix:E (.int k)) (j:Nat) (v:Operand) (mv:List Nat):Res :=
 match s.heap id with
 | some (.arr true ty' e) =>
  if h:ty'=ty then
   if (s.get v).cells.length=n∧(s.get v).cells.all (Atom.one s.heap)=true∧!(mv.contains id) then
    match newElem s.heap ty j (.o2 (.idx false ty k) (h▸e) ix) (s.get v).cells with
    | some u=>one (((s.kills mv).unnest id).new id (.arr true ty (.o3 (.set ty k) (h▸e) ix u))) (.a .no)
    | none=>none
   else none
  else none
 | _=>none
def storeHole (s:St) (n:Nat) (id:Nat) (ty:Ty) (k:IntKind) (ix:E (.int k)) (j:Nat) (v:Operand) (mv:List Nat):Res :=
 match s.heap id with
 | some (.hole ty' e k' ix' j' _) =>
  if h:ty'=ty then
   if j'=j∧n=1∧(s.get v).cells.length=1∧(s.get v).cells.all (Atom.one s.heap)=true∧!(mv.contains id) then
    match putCell s.heap ty j (.o2 (.idx false ty k') (h▸e) ix') (s.get v).atom with
    | some u=>some (if eqE ix ix' then [] else [.o2 (.cm .eql k k') ix ix'],.a .no,((s.kills mv).unnest id).new id (.arr true ty (.o3 (.set ty k') (h▸e) ix' u)))
    | none=>none
   else none
  else none
 | _=>none
def storeNest (s:St) (n:Nat) (id:Nat) (ty:Ty) (k:IntKind) (ix:E (.int k)) (j:Nat) (u:Ty) (k':IntKind) (ix':E (.int k')) (j':Nat) (v:Operand):Res :=
 match s.heap id with
 | some (.arr true ty' e) =>
  if h:ty'=ty then
   match projE ty j (.o2 (.idx false ty k) (h▸e) ix) with
   | some ⟨.sl false u',l⟩ =>
    if hu:u'=u then
     if u.hasSl=false∧(s.get v).cells.length=n∧(s.get v).cells.all (Atom.one s.heap)=true then
      match newElem s.heap u j' (.o2 (.idx false u k') (hu▸l) ix') (s.get v).cells with
      | some c =>
       match putCell s.heap ty j (.o2 (.idx false ty k) (h▸e) ix) (.x (.sl false u) (.o3 (.set u k') (hu▸l) ix' c)) with
       | some r=>one { s with heap:=upd s.heap id (some (.arr true ty (.o3 (.set ty k) (h▸e) ix r))) } (.a .no)
       | none=>none
      | none=>none
     else none
    else none
   | _=>none
  else none
 | _=>none
def storeBox (s:St) (n:Nat) (id j:Nat) (v:Operand):Res :=
 match s.heap id with
 | some (.box l) =>
  let cs:=(s.get v).cells
  if cs.length=n∧0<n∧cs.all (Atom.one s.heap)∧j+cs.length≤l.length∧!(s.kp.any fun c=>c.1==id&&decide (j≤c.2)&&decide (c.2<j+cs.length)) then one (s.new id (.box (l.take j++cs++l.drop (j+cs.length)))) (.a .no) else none
 | _=>none
def symStore (P:Program) (frz:Bool) (s0:St) (t:TypeId) (x v:Operand):Res :=
 match P.info? t with
 | some i =>
  match s0.get x with
  | .a (.ptr id j)=>storeBox (s0.unnest id) i.size id j v
  | .a (.eptr id ty k ix j) =>
   match s0.heap id with
   | some (.arr true _ _) =>
    match (if frz then none else movable s0.heap (s0.get v).cells) with
    | some mv=>storeDeep s0 i.size id ty k ix j v mv
    | none=>storeFlat (((s0.shallow id).solid v).unnest id) i.size id ty k ix j v
   | some (.hole _ _ _ _ _ _) =>
    match movable s0.heap (s0.get v).cells with
    | some mv=>storeHole s0 i.size id ty k ix j v mv
    | none=>none
   | _=>storeFlat ((s0.solid v).unnest id) i.size id ty k ix j v
  | .a (.nptr id ty k ix j u k' ix' j')=>storeNest s0 i.size id ty k ix j u k' ix' j' v
  | _=>none
 | none=>none
def eqCells (neq:Bool):List Atom→List Atom→Option (E .bool)
 | [.x (.int k) a],[.x (.int k') b]=>if h:k=k' then some (.o2 (.cm (if neq then .neq else .eql) k' k') (h▸a) b) else none
 | [.x .bool a],[.x .bool b]=>some (.o2 (if neq then .bne else .beq) a b)
 | .x (.int k) a::l,.x (.int k') b::m=>if h:k=k' then (eqCells neq l m).map fun r=>.o2 (if neq then .or else .and) (.o2 (.cm (if neq then .neq else .eql) k' k') (h▸a) b) r else none
 | .x .bool a::l,.x .bool b::m=>(eqCells neq l m).map fun r=>.o2 (if neq then .or else .and) (.o2 (if neq then .bne else .beq) a b) r
 | _,_=>none
def eqFields (P:Program):List Field→Nat→List Atom→Bool
 | [],_,[]=>true
 | f :: fs, i, .x (.int _) _ :: l => decide (f.offset = i) && decide (f.name ≠ "_") && decide (isAggT P f.type = some false) && (match P.underlying f.type with | some (.int _) => true | _ => false) && eqFields P fs (i + 1) l
 | f :: fs, i, .x .bool _ :: l => decide (f.offset = i) && decide (f.name ≠ "_") && decide (isAggT P f.type = some false) && (match P.underlying f.type with | some .bool => true | _ => false) && eqFields P fs (i + 1) l
 | _,_,_=>false
def eqOk (P:Program) (t:TypeId) (l:List Atom):Bool :=
 match P.underlying t with
 | some (.struct fs)=>!(P.stoodInHeld t)&&eqFields P fs.toList 0 l
 | _=>false
def symBin (o:BinOp) (x y:Atom):Option (List (E .bool)×SV) :=
 match x,y with
 | .x (.int k) a,.x (.int k') b =>
  match o with
  | .shl=>some ([gLe (eI k' 0) b],ax (.int k) (.o2 (.sh true k k') a b))
  | .shr=>some ([gLe (eI k' 0) b],ax (.int k) (.o2 (.sh false k k') a b))
  | o =>
   if h:k=k' then
    match o with
    | .add | .sub | .mul | .and | .or | .xor | .andNot=>some ([],ax (.int k') (.o2 (.ar o k') (h▸a) b))
    | .quo | .rem=>some (match litZ b with | some n=>if n=0 then [.bool false] else [] | none=>[.o2 (.cm .neq k' k') b (eI k' 0)],ax (.int k') (.o2 (.ar o k') (h▸a) b))
    | .eql | .neq | .lss | .leq | .gtr | .geq=>some ([],ax .bool (.o2 (.cm o k' k') (h▸a) b))
    | _=>none
   else none
 | .x .bool a,.x .bool b =>
  match o with
  | .eql=>some ([],ax .bool (.o2 .beq a b))
  | .neq=>some ([],ax .bool (.o2 .bne a b))
  | _=>none
 | .x .str a,.x .str b =>
  match o with
  | .eql=>some ([],ax .bool (.o2 .seq a b))
  | .neq=>some ([],ax .bool (.o2 .sne a b))
  | _=>none
 | .x (.sl true t) a,.nil =>
  match o with
  | .eql=>some ([],ax .bool (.o1 (.emp true t) a))
  | .neq=>some ([],ax .bool (.o1 .not (.o1 (.emp true t) a)))
  | _=>none
 | .x (.sl false t) a,.nil =>
  match o with
  | .eql=>some ([.o1 .not (.o1 (.emp false t) a)],ax .bool (.bool false))
  | .neq=>some ([.o1 .not (.o1 (.emp false t) a)],ax .bool (.bool true))
  | _=>none
 | _,_=>none
def rowE (h:Nat→Option Blk) (t:Ty):Atom→Option (E (.sl false t)):=Atom.toE h (.sl false t)
def vwE (h:Nat→Option Blk) (t:Ty):Atom→Option (E (.sl false t))
 | .vw id u lo hi=>match h id with
  | some (.arr _ u' e)=>if hh:u'=t∧u=t then some (.o2 (.drop t .i64) (.o2 (.take t .i64) (hh.1▸e) hi) lo) else none
  | _=>none
 | _=>none
def lenE (h:Nat→Option Blk):Atom→Option (E (.int .i64))
 | .x (.sl c t) e=>some (.o1 (.len c t) e)
 | .x .str e=>some (.o1 .slen e)
 | .xc t e=>some (.o1 (.len false t) e)
 | .nil=>some (.int .i64 0)
 | .ref id=>match h id with
  | some (.arr _ t e)=>some (.o1 (.len false t) e)
  | _=>none
 | .nref id t k i j=>match nestE h id t k i j with
  | some ⟨.sl c u,l⟩=>some (.o1 (.len c u) l)
  | _=>none
 | .vw id t lo hi=>(vwE h t (.vw id t lo hi)).map fun l=>.o1 (.len false t) l
 | _=>none
def lenOk (P:Program) (t:TypeId):Atom→Bool
 | .x .str _=>match P.underlying t with
  | some .string=>true
  | _=>false
 | _=>match P.underlying t with
  | some (.slice _)=>true
  | _=>false
def Atom.isRef (i:Nat):Atom→Bool
 | .ref j=>j==i
 | .nref j _ _ _ _=>j==i
 | _=>false
def lenI {t:Ty} (e:E (.sl false t)):E (.int .i64):=.o1 (.len false t) e
def gApp {t:Ty} (a b:E (.sl false t)):List (E .bool):=[gLe (lenI a) (eI .i64 lim),gLe (lenI b) (eI .i64 lim)]
def appSrc (h:Nat→Option Blk) (dp:Bool) (ty:Ty) (a:Atom):Option (E (.sl false ty)×List Nat) :=
 match a.toE h (.sl false ty) with
 | some e =>
  if dp then
   match a with
   | .ref id=>match h id with
    | some (.arr true _ _)=>some (e,[id])
    | _=>none
   | .nil=>some (e,[])
   | _=>none
  else if ty.hasSl then
   match a with
   | .x _ _=>some (e,[])
   | .xc _ _=>some (e,[])
   | .nil=>some (e,[])
   | .ref id=>match h id with
    | some (.arr false _ _)=>some (e,[])
    | _=>none
   | _=>none
  else some (e,[])
 | none=>none
def isOne:{t:Ty}→E t→Bool
 | _,.o1 (.one _) _=>true
 | _,_=>false
def gOne {t:Ty} (e1 e2:E (.sl false t)):List (E .bool):=if isOne e2 then [] else [.o2 .or (.o1 .not (.o1 (.emp false t) e2)) (.o1 (.emp false t) e1)]
def isSliceT (P:Program) (t:TypeId):Bool:=match P.underlying t with
 | some (.slice _)=>true
 | _=>false
def appPre (frz:Bool) (s:St) (ty:Ty) (x y:Operand):St :=
 match (s.get x).atom with
 | .ref i=>if frz||(appSrc s.heap true ty (s.get y).atom).isNone then s.shallow i else s
 | _=>s
def appRef (s:St) (id:Nat) (ty:Ty) (i:Nat) (y:Operand):Res :=
 match s.heap i with
 | some (.arr dp ty' e1) =>
  if h:ty'=ty then
   match appSrc s.heap dp ty (s.get y).atom with
   | some (e2,mv) =>
    if !((s.get y).atom.isRef i)&&free s id then
     some (gApp (h▸e1) e2,.a (.ref id),(s.kills (mv++[i])).new id (.arr dp ty (.o2 (.app ty) (h▸e1) e2)))
    else none
   | none=>none
  else none
 | _=>none
def appNil (frz:Bool) (s:St) (id:Nat) (ty:Ty) (y:Operand):Res :=
 match (if frz then none else appSrc s.heap ty.hasSl ty (s.get y).atom) with
 | some (e2,mv)=>if free s id then some ([gLe (lenI e2) (eI .i64 lim)],.a (.ref id),(s.kills mv).new id (.arr ty.hasSl ty e2)) else none
 | none =>
  match appSrc (s.solid y).heap false ty ((s.solid y).get y).atom with
  | some (e2,mv)=>if free (s.solid y) id then some ([gLe (lenI e2) (eI .i64 lim)],.a (.ref id),((s.solid y).kills mv).new id (.arr false ty e2)) else none
  | none=>none
def appXc (s:St) (id:Nat) (ty:Ty) (e1:E (.sl false ty)) (y:Operand):Res :=
 match appSrc s.heap false ty (s.get y).atom with
 | some (e2,mv)=>if free s id then some (gOne e1 e2++gApp e1 e2,.a (.ref id),(s.kills mv).new id (.arr false ty (.o2 (.app ty) e1 e2))) else none
 | none=>none
def appNref (s:St) (id:Nat) (ty:Ty) (i:Nat) (t0:Ty) (k:IntKind) (ix:E (.int k)) (j:Nat) (y:Operand):Res :=
 match s.heap i with
 | some (.arr true t' e) =>
  if ht:t'=t0 then
   match projE t0 j (.o2 (.idx false t0 k) (ht▸e) ix) with
   | some ⟨.sl false u,l⟩ =>
    if hu:u=ty then
     match appSrc s.heap ty.hasSl ty (s.get y).atom with
     | some (e2,mv) =>
      if !((s.get y).atom.isRef i)&&free s id then
       some (gApp (hu▸l) e2,.a (.ref id),(((s.kills mv).unnest i).new id (.arr ty.hasSl ty (.o2 (.app ty) (hu▸l) e2))).new i (.hole t0 (ht▸e) k ix j .no))
      else none
     | none=>none
    else none
   | _=>none
  else none
 | _=>none
def appVw (s:St) (ty:Ty) (x y:Operand):Res :=
 match (s.get x).atom with
 | .vw j ty1 lo hi =>
  match s.heap j with
  | some (.arr false ty' e1) =>
   if h:ty'=ty then
    if ty1=ty then
     match appSrc s.heap false ty (s.get y).atom with
     | some (e2,mv) =>
      if !((s.get y).atom.isRef j)&&mv.isEmpty then
       some (.o2 (.cm .eql .i64 .i64) hi (lenI (h▸e1:E (.sl false ty)))::gApp (h▸e1) e2,.a (.x (.sl false ty) (.o2 (.app ty) (.o2 (.drop ty .i64) (.o2 (.take ty .i64) (h▸e1) hi) lo) e2)),(s.unnest j).freeze j)
      else none
     | none=>none
    else none
   else none
  | _=>none
 | _=>none
def appTo (frz:Bool) (s:St) (id:Nat) (ty:Ty) (x y:Operand):Res :=
 match (s.get x).atom with
 | .vw _ _ _ _=>appVw (s.solid y) ty x y
 | .ref i=>appRef s id ty i y
 | .nil=>appNil frz s id ty y
 | .xc ty' e1=>if h:ty'=ty then appXc s id ty (h▸e1) y else none
 | .nref i t0 k ix j=>appNref s id ty i t0 k ix j y
 | _=>none
def symAppend (P:Program) (frz:Bool) (s:St) (id:Nat) (t:TypeId) (x y:Operand):Res :=
 match elemT P t with
 | some ty=>appTo frz (appPre frz s ty x y) id ty x y
 | none=>none
def copyTo (s:St) (ty:Ty) (i:Nat) (y:Operand):Res :=
 match appSrc s.heap false ty (s.get y).atom with
 | some (e2,_) =>
  match s.heap i with
  | some (.arr false ty' e1) =>
   if h:ty'=ty then
    if !((s.get y).atom.isRef i) then
     some ([],ax (.int .i64) (.o2 (.mn .i64) (lenI e2) (lenI (h▸e1:E (.sl false ty)))),s.new i (.arr false ty (.o2 (.over ty) (h▸e1) e2)))
    else none
   else none
  | _=>none
 | none=>none
def copyMove (s:St) (ty:Ty) (i:Nat) (y:Operand):Res :=
 match s.heap i with
 | some (.arr true ty' e1) =>
  if h:ty'=ty then
   match appSrc s.heap true ty (s.get y).atom with
   | some (e2,mv) =>
    if !((s.get y).atom.isRef i)&&!(mv.contains i) then
     some ([],ax (.int .i64) (.o2 (.mn .i64) (lenI e2) (lenI (h▸e1:E (.sl false ty)))),((s.kills mv).unnest i).new i (.arr true ty (.o2 (.over ty) (h▸e1) e2)))
    else none
   | none=>none
  else none
 | _=>none
def vwSrc (s:St) (ty:Ty) (i:Nat) (e1:E (.sl false ty)):Atom→Option (E (.sl false ty))
 | .vw j ty2 lo hi=>if j=i∧ty2=ty then some (.o2 (.drop ty .i64) (.o2 (.take ty .i64) e1 hi) lo) else none
 | a=>if a.isRef i then none else (appSrc s.heap false ty a).map (·.1)
def copyVw (s:St) (ty:Ty) (i:Nat) (lo hi:E (.int .i64)) (y:Operand):Res :=
 match s.heap i with
 | some (.arr false ty' e1) =>
  if h:ty'=ty then
   match vwSrc s ty i (h▸e1) (s.get y).atom with
   | some e2 =>
    some ([],ax (.int .i64) (.o2 (.mn .i64) (lenI e2) (lenI (.o2 (.drop ty .i64) (.o2 (.take ty .i64) (h▸e1) hi) lo:E (.sl false ty)))),
     s.new i (.arr false ty (.o2 (.app ty) (.o2 (.app ty) (.o2 (.take ty .i64) (h▸e1) lo) (.o2 (.over ty) (.o2 (.drop ty .i64) (.o2 (.take ty .i64) (h▸e1) hi) lo) e2)) (.o2 (.drop ty .i64) (h▸e1) hi))))
   | none=>none
  else none
 | _=>none
def symCopy (P:Program) (frz:Bool) (s:St) (t:TypeId) (x y:Operand):Res :=
 match elemT P t with
 | some ty =>
  match (s.get x).atom with
  | .ref i=>match (if frz then none else copyMove s ty i y) with
   | some q=>some q
   | none=>copyTo ((s.shallow i).unnest i) ty i y
  | .vw i ty' lo hi=>if ty'=ty then copyVw (s.unnest i) ty i lo hi y else none
  | _=>none
 | none=>none
def symMake (P:Program) (s:St) (id:Nat) (t:TypeId) (x y:Operand):Res :=
 match elemT P t with
 | some ty =>
  match (s.get x).atom,(s.get y).atom with
  | .x (.int .i64) n,.x (.int .i64) c =>
   if free s id then some ([gLe (eI .i64 0) n,gLe n c,gLe c (eI .i64 lim)],.a (.ref id),s.new id (.arr ty.hasSl ty (.o2 (.rep ty .i64) n (.z ty)))) else none
  | _,_=>none
 | none=>none
def elemsE (h:Nat→Option Blk) (ty:Ty):List SV→Option (E (.sl false ty))
 | []=>some (.nil false ty)
 | v::l =>
  match mkE h ty v.cells,elemsE h ty l with
  | some (e,[]),some r=>match l with
   | []=>some (.o1 (.one ty) e)
   | _=>some (.o2 (.app ty) (.o1 (.one ty) e) r)
  | _,_=>none
def buildFlat (s:St) (id:Nat) (ty:Ty) (vs:List Operand):Res :=
 if free s id&&pureFor ty (vs.flatMap fun v=>(s.get v).cells)&&(vs.all fun v=>(s.get v).one s.heap) then (elemsE s.heap ty (vs.map s.get)).map fun e=>([],.a (.ref id),s.new id (.arr false ty e)) else none
def buildDeep (s:St) (id:Nat) (ty:Ty) (vs:List Operand) (mv:List Nat):Res :=
 if free s id&&(vs.all fun v=>(s.get v).one s.heap) then (elemsE s.heap ty (vs.map s.get)).map fun e=>([],.a (.ref id),(s.kills mv).new id (.arr true ty e)) else none
def symBuildSlice (P:Program) (frz:Bool) (s0:St) (id:Nat) (t:TypeId) (n:Nat) (parts:List (Nat×Operand)):Res :=
 match elemT P t with
 | some ty =>
  if (parts.map (·.1)==List.range n)&&decide (n * ty.size≤1000000) then
   match (if frz||!ty.hasSl then none else movable s0.heap (parts.flatMap fun p=>(s0.get p.2).cells)) with
   | some mv=>buildDeep s0 id ty (parts.map (·.2)) mv
   | none=>buildFlat (s0.solids (parts.map (·.2))) id ty (parts.map (·.2))
  else none
 | none=>none
def zeroA (P:Program) (t:TypeId):Option (List Atom) :=
 match P.info? t with
 | some i=>i.zero.map fun z=>z.cells.toList.map atomLit
 | none=>none
def symAlloc (P:Program) (s:St) (id:Nat) (t:TypeId):Res :=
 match zeroA P t with
 | some l=>if free s id then some ([],.a (.ptr id 0),s.new id (.box l)) else none
 | none=>none
def symBox (s:St) (id:Nat) (v:Operand):Res :=
 match s.get v with
 | .tup _=>none
 | x=>if x.one s.heap&&free s id then some ([],.a (.ptr id 0),s.new id (.box x.cells)) else none
def buildL (P:Program) (fs:Array Field) (s:St):List (Nat×Operand)→List Atom→Option (List Atom)
 | [],l=>some l
 | (i,x)::r,l =>
  match fs[i]? with
  | some f =>
   match P.info? f.type,s.get x with
   | _,.tup _=>none
   | some inf,v =>
    let cs:=v.cells
    if cs.length=inf.size∧v.one s.heap∧f.offset+cs.length≤l.length then buildL P fs s r (l.take f.offset++cs++l.drop (f.offset+cs.length)) else none
   | none,_=>none
  | none=>none
def symBuild (P:Program) (s:St) (t:TypeId) (parts:List (Nat×Operand)):Res :=
 match P.underlying t,P.info? t with
 | some (.struct fs),some i =>
  match i.zero with
  | some (.agg z)=>if fs.toList.all fun f=>(P.info? f.type).isSome then (buildL P fs s parts (z.toList.map atomLit)).map fun l=>([],.agg l,s) else none
  | _=>none
 | _,_=>none
def symFieldAddr (P:Program) (s:St) (t:TypeId) (x:Operand) (f:Nat):Res :=
 match P.underlying t with
 | some (.struct fs) =>
  match fs[f]? with
  | some fd =>
   match P.info? fd.type with
   | some i =>
    if i.size=0 then none else
    match s.get x with
    | .a (.ptr id j)=>one s (.a (.ptr id (j+fd.offset)))
    | .a (.eptr id ty k ix j)=>one s (.a (.eptr id ty k ix (j+fd.offset)))
    | .a (.xptr c ty l k ix j)=>one s (.a (.xptr c ty l k ix (j+fd.offset)))
    | .a (.nptr id ty k ix j u k' ix' j')=>one s (.a (.nptr id ty k ix j u k' ix' (j'+fd.offset)))
    | _=>none
   | none=>none
  | none=>none
 | _=>none
def symIndexAddr (P:Program) (s:St) (t:TypeId) (x ix:Operand):Res :=
 match P.underlying t with
 | some (.slice e) =>
  match P.info? e,s.get ix with
  | some i,.a (.x (.int k) n) =>
   match s.get x with
   | .a (.ref id) =>
    match s.heap id with
    | some (.arr _ ty l)=>if i.size=ty.size then some ([gLe (eI k 0) n,gLt n (lenI l)],.a (.eptr id ty k n 0),s) else none
    | some (.hole ty l _ _ _ _)=>if i.size=ty.size then some ([gLe (eI k 0) n,gLt n (lenI l)],.a (.eptr id ty k n 0),s) else none
    | some (.lent ty l _ _ _)=>if i.size=ty.size then some ([gLe (eI k 0) n,gLt n (lenI l)],.a (.eptr id ty k n 0),s) else none
    | _=>none
   | .a (.nref id t k' n' j) =>
    match nestE s.heap id t k' n' j with
    | some ⟨.sl c u,l⟩=>if i.size=u.size then some ([gLe (eI k 0) n,gLt n (.o1 (.len c u) l)],.a (.nptr id t k' n' j u k n 0),s) else none
    | _=>none
   | .a (.x (.sl c ty) l)=>if i.size=ty.size then some ([gLe (eI k 0) n,gLt n (.o1 (.len c ty) l)],.a (.xptr c ty l k n 0),s) else none
   | .a (.xc ty l)=>if i.size=ty.size then some ([gLe (eI k 0) n,gLt n (lenI l)],.a (.xptr false ty l k n 0),s) else none
   | .a (.vw id ty lo hi) =>
    match vwE s.heap ty (.vw id ty lo hi) with
    | some l=>if hk:k=.i64 then (if i.size=ty.size then some ([gLe (eI k 0) n,gLt n (lenI l),gLe hi (eI .i64 lim)],.a (.eptr id ty .i64 (.o2 (.ar .add .i64) lo (hk▸n)) 0),s) else none) else none
    | none=>none
   | _=>none
  | _,_=>none
 | _=>none
def bndE (s:St):Option Operand→Option (E (.int .i64))→Option (E (.int .i64))
 | none,d=>d
 | some x,_=>match s.get x with
  | .a (.x (.int .i64) n)=>some n
  | _=>none
def cutE {t:Ty} (l:E (.sl false t)) (lo:Option (E (.int .i64))) (hi:Option (E (.int .i64))):E (.sl false t) :=
 let a:E (.sl false t):=match hi with | some h=>.o2 (.take t .i64) l h | none=>l
 match lo with | some n=>.o2 (.drop t .i64) a n | none=>a
def optE (s:St):Option Operand→Option (Option (E (.int .i64)))
 | none=>some none
 | some x=>match s.get x with
  | .a (.x (.int .i64) n)=>some (some n)
  | _=>none
def cutG {c:Bool} {t:Ty} (l:E (.sl c t)) (lo hi:Option (E (.int .i64))):List (E .bool) :=
 let top:E (.int .i64):=match hi with | some h=>h | none=>.o1 (.len c t) l
 (match hi with | some h=>[gLe h (.o1 (.len c t) l)] | none=>[])++(match lo with | some n=>[gLe (eI .i64 0) n,gLe n top] | none=>match hi with | some h=>[gLe (eI .i64 0) h] | none=>[])
def sliceTo (s:St) (id:Nat) (sz:Nat) (x:Operand) (lo hi mx:Option Operand):Res :=
 match optE s lo,optE s hi,optE s mx with
 | some l,some h,some m =>
  match s.get x with
  | .a (.ref r) =>
   match s.heap r with
   | some (.arr dp ty e) =>
    if sz=ty.size then
     match m,h with
     | none,_ =>
      if free s id then some (cutG e l h,.a (.ref id),(s.kills [r]).new id (.arr dp ty (cutE e l h))) else none
     | some m,some h=>some (.o2 (.cm .eql .i64 .i64) h m::.o2 (.cm .eql .i64 .i64) h (eI .i64 0)::cutG e l (some h),.a (.xc ty (cutE e l (some h))),s)
     | _,_=>none
    else none
   | _=>none
  | .a (.x (.sl c ty) e) =>
   if sz=ty.size then
    match m,h with
    | none,_=>some (cutG (.o1 (.re c false ty) e:E (.sl false ty)) l h,ax (.sl false ty) (cutE (.o1 (.re c false ty) e) l h),s)
    | some m,some h'=>some (.o2 (.cm .eql .i64 .i64) h' m::cutG (.o1 (.re c false ty) e:E (.sl false ty)) l (some h'),.a (.xc ty (cutE (.o1 (.re c false ty) e) l (some h'))),s)
    | _,_=>none
   else none
  | _=>none
 | _,_,_=>none
def symSlice (P:Program) (frz:Bool) (s:St) (id:Nat) (t:TypeId) (x:Operand) (lo hi mx:Option Operand):Res :=
 match P.underlying t with
 | some (.slice e) =>
  match P.info? e with
  | some i=>sliceTo (if frz then s.solid x else s) id i.size x lo hi mx
  | none=>none
 | _=>none
def symView (P:Program) (s:St):Op→Res
 | .slice t x lo hi none =>
  match P.underlying t with
  | some (.slice e) =>
   match P.info? e,s.get x with
   | some i,.a (.ref r) =>
    match optE s lo,optE s hi,s.heap r with
    | some l,some h,some (.arr false ty e)=>if i.size=ty.size then some (cutG e l h,.a (.vw r ty (l.getD (eI .i64 0)) (h.getD (lenI e))),s) else none
    | _,_,_=>none
   | _,_=>none
  | _=>none
 | _=>none
def symPick (s:St) (c a b:Operand):Res :=
 match s.get c with
 | .a (.x .bool c) =>
  match litB c with
  | some true=>one s (s.get a)
  | some false=>one s (s.get b)
  | none =>
   match s.get a,s.get b with
   | .a (.x t x),.a (.x t' y)=>if h:t'=t then one s (ax t (.o3 (.pick t) c x (h▸y))) else none
   | _,_=>none
 | _=>none
def symMM (mx:Bool) (s:St) (l:List Operand):Res :=
 match l.map s.get with
 | [.a (.x (.int k) a),.a (.x (.int k') b)]=>if h:k'=k then one s (ax (.int k) (.o2 (if mx then .mx k else .mn k) a (h▸b))) else none
 | _=>none
def capsOf:List SV→Option (List (Nat×Nat))
 | []=>some []
 | .a (.ptr id j)::l=>(capsOf l).map ((id,j)::·)
 | _::_=>none
def binOk (P:Program) (t:TypeId):Atom→Bool
 | .x .bool _=>match P.underlying t with
  | some .bool=>true
  | _=>false
 | .x (.sl _ _) _=>match P.underlying t with
  | some (.slice _)=>true
  | _=>false
 | _=>true
def nilCmp (P:Program) (h:Nat→Option Blk) (o:BinOp) (t:TypeId):Atom→Atom→Option (List (E .bool)×SV)
 | .ref id,.nil =>
  match P.underlying t,h id with
  | some (.slice _),some (.arr _ _ e)=>match o with
   | .eql=>some ([.o1 .not (.o1 (.emp false _) e)],ax .bool (.bool false))
   | .neq=>some ([.o1 .not (.o1 (.emp false _) e)],ax .bool (.bool true))
   | _=>none
  | _,_=>none
 | .nil,.nil =>
  match P.underlying t with
  | some (.slice _)=>match o with
   | .eql=>some ([],ax .bool (.bool true))
   | .neq=>some ([],ax .bool (.bool false))
   | _=>none
  | _=>none
 | _,_=>none
def symOp (P:Program) (frz:Bool) (s:St) (id:Nat):Op→Res
 | .move x=>one s (s.get x)
 | .assign x=>one s (s.get x)
 | .pick c a b=>symPick s c a b
 | .alloc t=>symAlloc P s id t
 | .box _ v=>symBox s id v
 | .build t ps=>symBuild P s t ps.toList
 | .buildSlice t n ps=>symBuildSlice P frz s id t n ps.toList
 | .load t x=>symLoad P s t x
 | .store t x v=>symStore P frz s t x v
 | .nilCheck x =>
  match s.get x with
  | .a (.ptr i j)=>one s (.a (.ptr i j))
  | .a (.eptr i t k ix j)=>one s (.a (.eptr i t k ix j))
  | .a (.xptr c t l k ix j)=>one s (.a (.xptr c t l k ix j))
  | _=>none
 | .binOp o t x y _ =>
  match s.get x,s.get y with
  | .a a,.a b=>match nilCmp P s.heap o t a b with
   | some p=>some (p.1,p.2,s)
   | none=>if binOk P t a then (symBin o a b).map fun p=>(p.1,p.2,s) else none
  | .agg a,.agg b =>
   if P.eqGuardType P.depth t||!(eqOk P t a) then none else
   match o with
   | .eql=>(eqCells false a b).map fun e=>([],ax .bool e,s)
   | .neq=>(eqCells true a b).map fun e=>([],ax .bool e,s)
   | _=>none
  | _,_=>none
 | .unOp o _ x =>
  match o,s.get x with
  | .not,.a (.x .bool e)=>one s (ax .bool (.o1 .not e))
  | .neg,.a (.x (.int k) e)=>one s (ax (.int k) (.o1 (.neg k) e))
  | _,_=>none
 | .convert sr d x =>
  match P.underlying sr,P.underlying d,s.get x with
  | some _,some (.int k'),.a (.x (.int k) e)=>one s (ax (.int k') (.o1 (.conv k k') e))
  | _,_,_=>none
 | .makeFunc (.func f) first caps=>if first.size=0 then (capsOf (caps.toList.map s.get)).bind fun l=>one s (.a (.clo f l)) else none
 | .makeSlice t l c=>symMake P s id t l c
 | .slice t x lo hi mx=>symSlice P frz s id t x lo hi mx
 | .fieldAddr t x f=>symFieldAddr P s t x f
 | .indexAddr t x i=>symIndexAddr P s t x i
 | .index t x i =>
  match P.underlying t,s.get x,s.get i with
  | some .string,.a (.x .str a),.a (.x (.int k) n)=>some ([gLe (eI k 0) n,gLt n (.o1 .slen a)],ax (.int .u8) (.o2 (.sidx k) a n),s)
  | _,_,_=>none
 | .field t x f =>
  match P.underlying t,s.get x with
  | some (.struct fs),.agg l =>
   match fs[f]? with
   | some fd=>if isAggT P fd.type=some false then (match l[fd.offset]? with | some a=>one s (.a a) | none=>none) else none
   | none=>none
  | _,_=>none
 | .extract t i =>
  match s.get t with
  | .tup l=>match l[i]? with
   | some (true,cs)=>one s (.agg cs)
   | some (false,[a])=>one s (.a a)
   | _=>none
  | _=>none
 | .call { callee:=.builtin b,args:=args,argTypes:=ts } =>
  match b,args.toList,ts[0]? with
  | .len,[x],some t=>if lenOk P t (s.get x).atom then (lenE s.heap (s.get x).atom).bind fun e=>one s (ax (.int .i64) e) else none
  | .append,[x,y],some t=>match ts[1]? with
   | some t2=>if isSliceT P t2=true∧ts.size=2 then symAppend P frz s id t x y else none
   | none=>none
  | .copy,[x,y],some t=>symCopy P frz s t x y
  | .max,l,_=>symMM true s l
  | .min,l,_=>symMM false s l
  | _,_,_=>none
 | _=>none
def lend (s:St) (t n:Nat):Option (Nat×St) :=
 match s.cur.getD t (.a .no) with
 | .a (.nref i t0 k ix j) =>
  match s.heap i with
  | some (.arr true t' e) =>
   if ht:t'=t0 then
    match projE t0 j (.o2 (.idx false t0 k) (ht▸e) ix) with
    | some ⟨.sl false u,l⟩ =>
     if free s n then some (i,⟨((s.unnest i).cur).set t (.a (.ref n)),(s.unnest i).stk,upd (upd (s.unnest i).heap n (some (.arr u.hasSl u l))) i (some (.hole t0 (ht▸e) k ix j (.ref n))),s.base,s.np,s.kp⟩)
     else none
    | _=>none
   else none
  | _=>none
 | _=>none
def unlend (s:St) (i n:Nat):Option St :=
 match s.heap i with
 | some (.hole t e k ix j (.ref n')) =>
  match movable s.heap [.ref n] with
  | some mv =>
   if n'=n∧mv.contains i=false then
    match putCell s.heap t j (.o2 (.idx false t k) e ix) (.ref n) with
    | some row=>some (((s.kills mv).unnest i).new i (.arr true t (.o3 (.set t k) e ix row)))
    | none=>none
   else none
  | none=>none
 | _=>none
def settle (s:St) (i:Nat):Option St :=
 match s.heap i with
 | some (.lent t e k ix (.x t' v))=>if h:t'=t then some { s with heap:=upd s.heap i (some (.arr false t (.o3 (.set t k) e ix (h▸v)))) } else none
 | _=>none
def back (s:St) (i:Nat):Option St :=
 match s.heap i with
 | some (.lent _ _ _ _ (.ref m))=>settle (s.freeze m) i
 | some (.lent _ _ _ _ (.x _ _))=>settle s i
 | some (.hole _ _ _ _ _ (.ref m))=>unlend s i m
 | _=>none
def lendLoad (P:Program) (s:St) (id:Nat):Op→Res
 | .load t x =>
  match symLoad P s t x with
  | some (gs,.a (.nref i t0 k ix j),s1) =>
   match lend { s1 with cur:=s1.cur++[.a (.nref i t0 k ix j)] } s1.cur.length (id+32) with
   | some (_,s2)=>some (gs,s2.cur.getD s1.cur.length (.a .no),{ s2 with cur:=s2.cur.take s1.cur.length })
   | none=>none
  | q=>q
 | _=>none
def storeLent (P:Program) (s:St):Op→Res
 | .store t x v =>
  match P.info? t,s.get x,s.get v with
  | some i,.a (.eptr id ty k ix 0),.a (.ref m) =>
   match s.heap id,s.heap m with
   | some (.arr false ty' e),some (.arr _ _ _) =>
    if h:ty'=ty then
     if i.size=1∧ty.size=1∧m≠id then some ([],.a .no,((s.kills []).unnest id).new id (.lent ty (h▸e) k ix (.ref m))) else none
    else none
   | _,_=>none
  | _,_,_=>none
 | _=>none
end Go.Sm
namespace Go.Sm
set_option linter.unusedVariables false
def Tr.bind:Tr→(Ex→St→Tr)→Tr
 | .leaf x s,f=>f x s
 | .bad,_=>.bad
 | .ite c a b,f=>.ite c (a.bind f) (b.bind f)
 | .guard c t,f=>.guard c (t.bind f)
 | .call g ins b t,f=>.call g ins b (t.bind f)
 | .jump l vs,_=>.jump l vs
 | .ret vs,_=>.ret vs
 | .join t k,f=>.join (t.bind f) (k.bind f)
 | .loop i b,f=>.loop i (b.bind f)
def Tr.guards:List (E .bool)→Tr→Tr
 | [],t=>t
 | c::gs,t=>match litB c with
  | some true=>Tr.guards gs t
  | some false=>.bad
  | none=>.guard c (Tr.guards gs t)
def asmA (e:E .bool) (b:Bool):Atom→Atom
 | .x .bool e'=>if eqE e e' then .x .bool (.bool b) else .x .bool e'
 | a=>a
def St.asm (s:St) (e:E .bool) (b:Bool):St:={ s with cur:=s.cur.map (SV.map (asmA e b)) }
def Tr.normals:Tr→List St
 | .leaf .normal s=>[s]
 | .leaf _ _=>[]
 | .bad=>[]
 | .ite _ a b=>a.normals++b.normals
 | .guard _ t=>t.normals
 | .call _ _ _ t=>t.normals
 | .jump _ _=>[]
 | .ret _=>[]
 | .join t k=>t.normals++k.normals
 | .loop _ b=>b.normals
structure NS where
 cur:List SV
 stk:List (List SV)
 hl:List Blk
 np:Nat
 kp:List (Nat×Nat)
def NS.toSt (n:NS) (base:Nat):St:=⟨n.cur,n.stk,fun k=>n.hl[k]?,base,n.np,n.kp⟩
def Atom.ids:Atom→List Nat
 | .ref id=>[id]
 | .ptr id _=>[id]
 | .eptr id _ _ _ _=>[id]
 | .clo _ caps=>caps.map (·.1)
 | .nref id _ _ _ _=>[id]
 | .nptr id _ _ _ _ _ _ _ _=>[id]
 | .vw id _ _ _=>[id]
 | _=>[]
def SV.ids:SV→List Nat
 | .a x=>x.ids
 | .agg l=>l.flatMap Atom.ids
 | .tup l=>l.flatMap fun c=>c.2.flatMap Atom.ids
def Blk.ids:Blk→List Nat
 | .box l=>l.flatMap Atom.ids
 | .hole _ _ _ _ _ a=>a.ids
 | .lent _ _ _ _ a=>a.ids
 | _=>[]
def reach (h:Nat→Option Blk):Nat→List Nat→List Nat→List Nat
 | 0,_,acc=>acc
 | _+1,[],acc=>acc
 | n+1,id::r,acc =>
  if acc.contains id then reach h n r acc else
  match h id with
  | some b=>reach h n (b.ids++r) (acc++[id])
  | none=>reach h n r acc
def nodupB:List Nat→Bool
 | []=>true
 | a::l=>!l.contains a&&nodupB l
def findI:List Nat→Nat→Option Nat
 | [],_=>none
 | a::l,x=>if a=x then some 0 else (findI l x).map (·+1)
def renCaps (L:List Nat):List (Nat×Nat)→Option (List (Nat×Nat))
 | []=>some []
 | (i,j)::l =>
  match findI L i,renCaps L l with
  | some k,some r=>some ((k,j)::r)
  | _,_=>none
def ren (L:List Nat):Atom→Atom
 | .ref id=>match findI L id with | some k=>.ref k | none=>.no
 | .ptr id j=>match findI L id with | some k=>.ptr k j | none=>.no
 | .eptr id t k' i j=>match findI L id with | some k=>.eptr k t k' i j | none=>.no
 | .clo f caps=>match renCaps L caps with | some l=>.clo f l | none=>.no
 | .nref id t k' i j=>match findI L id with | some k=>.nref k t k' i j | none=>.no
 | .nptr id t k' i j u k2 i2 j2=>match findI L id with | some k=>.nptr k t k' i j u k2 i2 j2 | none=>.no
 | .vw id t lo hi=>match findI L id with | some k=>.vw k t lo hi | none=>.no
 | a=>a
def isLit:{t:Ty}→E t→Bool
 | _,.int _ _=>true
 | _,.bool _=>true
 | _,_=>false
def Atom.es (b:Bool):Atom→List AE
 | .x t e=>if b&&isLit e then [] else [⟨t,e⟩]
 | .xc t e=>[⟨.sl false t,e⟩]
 | .eptr _ _ k i _=>[⟨.int k,i⟩]
 | .xptr c t l k i _=>[⟨.sl c t,l⟩,⟨.int k,i⟩]
 | .nref _ _ k i _=>[⟨.int k,i⟩]
 | .nptr _ _ k i _ _ k' i' _=>[⟨.int k,i⟩,⟨.int k',i'⟩]
 | .vw _ _ lo hi=>[⟨.int .i64,lo⟩,⟨.int .i64,hi⟩]
 | _=>[]
def Atom.sub (b:Bool) (n:Nat):Atom→Atom
 | .x t e=>if b&&isLit e then .x t e else .x t (.var t n)
 | .xc t _=>.xc t (.var (.sl false t) n)
 | .eptr id t k _ j=>.eptr id t k (.var (.int k) n) j
 | .xptr c t _ k _ j=>.xptr c t (.var (.sl c t) n) k (.var (.int k) (n+1)) j
 | .nref id t k _ j=>.nref id t k (.var (.int k) n) j
 | .nptr id t k _ j u k' _ j'=>.nptr id t k (.var (.int k) n) j u k' (.var (.int k') (n+1)) j'
 | .vw id t _ _=>.vw id t (.var (.int .i64) n) (.var (.int .i64) (n+1))
 | a=>a
def esL (b:Bool):List Atom→List AE
 | []=>[]
 | a::l=>a.es b++esL b l
def subL (b:Bool):Nat→List Atom→List Atom
 | _,[]=>[]
 | n,a::l=>a.sub b n::subL b (n+(a.es b).length) l
def esC (b:Bool):List (Bool×List Atom)→List AE
 | []=>[]
 | c::l=>esL b c.2++esC b l
def subC (b:Bool):Nat→List (Bool×List Atom)→List (Bool×List Atom)
 | _,[]=>[]
 | n,c::l=>(c.1,subL b n c.2)::subC b (n+(esL b c.2).length) l
def SV.es (b:Bool):SV→List AE
 | .a x=>x.es b
 | .agg l=>esL b l
 | .tup l=>esC b l
def SV.sub (b:Bool) (n:Nat):SV→SV
 | .a x=>.a (x.sub b n)
 | .agg l=>.agg (subL b n l)
 | .tup l=>.tup (subC b n l)
def esS (b:Bool):List SV→List AE
 | []=>[]
 | v::l=>v.es b++esS b l
def subS (b:Bool):Nat→List SV→List SV
 | _,[]=>[]
 | n,v::l=>v.sub b n::subS b (n+(v.es b).length) l
def esSS:List (List SV)→List AE
 | []=>[]
 | v::l=>esS true v++esSS l
def subSS:Nat→List (List SV)→List (List SV)
 | _,[]=>[]
 | n,v::l=>subS true n v::subSS (n+(esS true v).length) l
def Blk.es:Blk→List AE
 | .box l=>esL false l
 | .arr _ t e=>[⟨.sl false t,e⟩]
 | .hole t e k i _ a=>[⟨.sl false t,e⟩,⟨.int k,i⟩]++a.es false
 | .lent t e k i a=>[⟨.sl false t,e⟩,⟨.int k,i⟩]++a.es false
def Blk.sub (n:Nat):Blk→Blk
 | .box l=>.box (subL false n l)
 | .arr dp t _=>.arr dp t (.var (.sl false t) n)
 | .hole t _ k _ j a=>.hole t (.var (.sl false t) n) k (.var (.int k) (n+1)) j (a.sub false (n+2))
 | .lent t _ k _ a=>.lent t (.var (.sl false t) n) k (.var (.int k) (n+1)) (a.sub false (n+2))
def esB:List Blk→List AE
 | []=>[]
 | v::l=>v.es++esB l
def subB:Nat→List Blk→List Blk
 | _,[]=>[]
 | n,v::l=>v.sub n::subB (n+v.es.length) l
def blks (s:St) (L:List Nat):List Nat→Option (List Blk)
 | []=>some []
 | id::r =>
  match s.heap id,blks s L r with
  | some b,some l=>some (b.map (ren L)::l)
  | _,_=>none
def norm (s:St):Option (List AE×NS) :=
 let L:=reach s.heap 400 ((List.range s.np).flatMap (fun k=>((s.heap k).map Blk.ids).getD [])++(s.cur.flatMap SV.ids++s.stk.flatMap (List.flatMap SV.ids))) (List.range s.np)
 if nodupB L&&(L.take s.np==List.range s.np) then
  (blks s L L).map fun hl =>
   let cur:=s.cur.map (SV.map (ren L))
   let stk:=s.stk.map (List.map (SV.map (ren L)))
   let n1:=(esS false cur).length
   let n2:=n1+(esSS stk).length
   (esS false cur++(esSS stk++esB hl),⟨subS false 0 cur,subSS n1 stk,subB n2 hl,s.np,s.kp⟩)
 else none
def eqV:{t t':Ty}→E t→E t'→Bool
 | _,_,.var t i,.var t' j=>decide (t=t')&&decide (i=j)
 | _,_,_,_=>false
def eqVL:{t t':Ty}→E t→E t'→Bool
 | _,_,.var t i,.var t' j=>decide (t=t')&&decide (i=j)
 | _,_,.int k n,.int k' m=>decide (k=k')&&decide (n=m)
 | _,_,.bool a,.bool b=>a==b
 | _,_,_,_=>false
def eqA:Atom→Atom→Bool
 | .no,.no=>true
 | .un,.un=>true
 | .nil,.nil=>true
 | .x t e,.x t' e'=>decide (t=t')&&eqVL e e'
 | .xc t e,.xc t' e'=>decide (t=t')&&eqV e e'
 | .ref i,.ref j=>decide (i=j)
 | .ptr i a,.ptr j b=>decide (i=j)&&decide (a=b)
 | .eptr i t k e a,.eptr j t' k' e' b=>decide (i=j)&&decide (t=t')&&decide (k=k')&&eqV e e'&&decide (a=b)
 | .xptr c t l k e a,.xptr c' t' l' k' e' b=>decide (c=c')&&decide (t=t')&&eqV l l'&&decide (k=k')&&eqV e e'&&decide (a=b)
 | .clo f l,.clo g m=>decide (f=g)&&decide (l=m)
 | .nref i t k e a,.nref j t' k' e' b=>decide (i=j)&&decide (t=t')&&decide (k=k')&&eqV e e'&&decide (a=b)
 | .nptr i t k e a u m f c,.nptr j t' k' e' b u' m' f' c'=>decide (i=j)&&decide (t=t')&&decide (k=k')&&eqV e e'&&decide (a=b)&&decide (u=u')&&decide (m=m')&&eqV f f'&&decide (c=c')
 | .vw i t a b,.vw j t' a' b'=>decide (i=j)&&decide (t=t')&&eqV a a'&&eqV b b'
 | _,_=>false
def eqL {α:Type} (p:α→α→Bool):List α→List α→Bool
 | [],[]=>true
 | a::l,b::m=>p a b&&eqL p l m
 | _,_=>false
def eqSV:SV→SV→Bool
 | .a x,.a y=>eqA x y
 | .agg l,.agg m=>eqL eqA l m
 | .tup l,.tup m=>eqL (fun c d=>decide (c.1=d.1)&&eqL eqA c.2 d.2) l m
 | _,_=>false
def eqB:Blk→Blk→Bool
 | .box l,.box m=>eqL eqA l m
 | .arr d t e,.arr d' t' e'=>decide (d=d')&&decide (t=t')&&eqV e e'
 | .hole t e k i j a,.hole t' e' k' i' j' a'=>decide (t=t')&&eqV e e'&&decide (k=k')&&eqV i i'&&decide (j=j')&&eqA a a'
 | .lent t e k i a,.lent t' e' k' i' a'=>decide (t=t')&&eqV e e'&&decide (k=k')&&eqV i i'&&eqA a a'
 | _,_=>false
def NS.eq (a b:NS):Bool:=eqL eqSV a.cur b.cur&&eqL (eqL eqSV) a.stk b.stk&&eqL eqB a.hl b.hl&&decide (a.np=b.np)&&decide (a.kp=b.kp)
def keepFrom (live:List Nat):Nat→List SV→List SV
 | _,[]=>[]
 | i,v::l=>(bif live.contains i then v else .a .no)::keepFrom live (i+1) l
def St.keep (s:St) (live:List Nat):St:={ s with cur:=keepFrom live 0 s.cur }
def boxOf (s:St) (slot:Nat):Option (Nat×List Atom) :=
 match s.cur.getD slot (.a .no) with
 | .a (.ptr id 0)=>match s.heap id with
  | some (.box l)=>some (id,l)
  | _=>none
 | _=>none
def turnA (s:St) (id:Nat) (a:Atom):Trn→Option (St×Option Atom)
 | .own dp t =>
  match a with
  | .nil=>if free s id then some (s.new id (.arr dp t (.nil false t)),some (.ref id)) else none
  | _=>none
 | .pure t =>
  match a with
  | .nil=>some (s,some (.x (.sl false t) (.nil false t)))
  | .ref i=>some (s.freeze i,none)
  | .nref i _ _ _ _=>some (s.freeze i,none)
  | .vw i _ _ _=>some (s.freeze i,none)
  | .xc t e=>some (s,some (.x (.sl false t) e))
  | .x (.sl true t) e=>some (s,some (.x (.sl false t) (.o1 (.re true false t) e)))
  | _=>none
 | .shal =>
  match a with
  | .ref i=>match back s i with
   | some s'=>some (s',none)
   | none=>some (s.shallow i,none)
  | _=>none
 | .nul t =>
  match a with
  | .nil=>some (s,some (.x (.sl true t) (.nil true t)))
  | _=>none
 | .back =>
  match a with
  | .ref i=>match back s i with
   | some s'=>some (s',none)
   | none=>none
  | _=>none
def applyAct (s:St) (id:Nat) (slot:Nat) (c:Option Nat) (act:Trn):St :=
 match c with
 | none =>
  match s.cur.getD slot (.a .no) with
  | .a a=>match turnA s id a act with
   | some (s',some a')=>{ s' with cur:=s'.cur.set slot (.a a') }
   | some (s',none)=>s'
   | none=>s
  | _=>s
 | some c =>
  match boxOf s slot with
  | some (b,l)=>match turnA s id (l.getD c .no) act with
   | some (s',some a')=>match s'.heap b with
    | some (.box l')=>{ s' with heap:=upd s'.heap b (some (.box (l'.set c a'))) }
    | _=>s
   | some (s',none)=>s'
   | none=>s
  | none=>s
def applyActs (s:St):Nat→List (Nat×Option Nat×Trn)→St
 | _,[]=>s
 | id,(slot,c,a)::l=>applyActs (applyAct s id slot c a) (id+1) l
def Hint.liveIn (h:Hint) (k:Nat):List Nat:=((h.live.find? (·.1==k)).map (·.2.1)).getD []
def Hint.liveOut (h:Hint) (k:Nat):List Nat:=((h.live.find? (·.1==k)).map (·.2.2)).getD []
def Hint.act (h:Hint) (k:Nat):List (Nat×Option Nat×Trn):=((h.acts.find? (·.1==k)).map (·.2)).getD []
def meetAt (h:Hint) (k:Nat) (s:St):Option (List AE×NS):=norm (applyActs (s.keep (h.liveIn k)) (s.base+1000000) (h.act k))
def Tr.toJumps (h:Hint) (k:Nat) (T:NS):Nat→Tr→Tr
 | d,.leaf .normal s =>
  match meetAt h k s with
  | some (vs,n)=>if n.eq T then .jump d vs else .bad
  | none=>.bad
 | _,.leaf x s=>.leaf x s
 | _,.bad=>.bad
 | d,.ite c a b=>.ite c (a.toJumps h k T d) (b.toJumps h k T d)
 | d,.guard c t=>.guard c (t.toJumps h k T d)
 | d,.call f ins b t=>.call f ins b (t.toJumps h k T d)
 | _,.jump l vs=>.jump l vs
 | _,.ret vs=>.ret vs
 | d,.join t u=>.join (t.toJumps h k T (d+1)) (u.toJumps h k T d)
 | d,.loop i b=>.loop i (b.toJumps h k T (d+1))
def NS.base (n:NS):Nat:=(esS false n.cur).length+(esSS n.stk).length+(esB n.hl).length+n.hl.length
def CS.pins:CS→Nat
 | .arr _ _=>1
 | .box _=>1
 | .p _=>0
 | .eat _ _=>0
 | .self _=>1
 | .rbx _ _=>1
def CS.at (v p:Nat):CS→Atom
 | .p t=>.x t (.var t v)
 | .arr _ _=>.ref p
 | .box _=>.ptr p 0
 | .eat _ _=>.ref (2000+v)
 | .self _=>.ptr p 0
 | .rbx _ _=>.ptr p 0
def CS.bl (v p:Nat):CS→List (Nat×Blk)
 | .arr dp t=>[(p,.arr dp t (.var (.sl false t) v))]
 | .box t=>[(p,.box (cellsE t (.var t v)))]
 | .eat dp t=>[(2000+v,.arr dp t (.var (.sl false t) v))]
 | .p _=>[]
 | .self _=>[(p,.box [.no])]
 | .rbx dp t=>[(p,.box [.ref (3000+v)]),(3000+v,.arr dp t (.var (.sl false t) v))]
def csArrs:List CS→Nat
 | []=>0
 | c::l=>c.pins+csArrs l
def csA:Nat→Nat→List CS→List Atom
 | _,_,[]=>[]
 | v,p,c::l=>c.at v p::csA (v+1) (p+c.pins) l
def csB:Nat→Nat→List CS→List (Nat×Blk)
 | _,_,[]=>[]
 | v,p,c::l=>c.bl v p++csB (v+1) (p+c.pins) l
def Sh.cs:Sh→List CS
 | .p t=>[.p t]
 | .agg l=>l
 | .arr dp t=>[.arr dp t]
 | .box t=>[.box t]
 | .eat dp t=>[.eat dp t]
 | .self f=>[.self f]
 | .rbx dp t=>[.rbx dp t]
def Sh.sv (v n:Nat):Sh→SV
 | .p t=>.a (.x t (.var t v))
 | .agg l=>.agg (csA v n l)
 | .arr _ _=>.a (.ref n)
 | .box _=>.a (.ptr n 0)
 | .eat _ _=>.a (.ref (2000+v))
 | .self _=>.a (.ptr n 0)
 | .rbx _ _=>.a (.ptr n 0)
def shSV:Nat→Nat→List Sh→List SV
 | _,_,[]=>[]
 | v,p,h::l=>h.sv v p::shSV (v+h.cs.length) (p+csArrs h.cs) l
def shB:Nat→Nat→List Sh→List (Nat×Blk)
 | _,_,[]=>[]
 | v,p,h::l=>csB v p h.cs++shB (v+h.cs.length) (p+csArrs h.cs) l
def shN:List Sh→Nat
 | []=>0
 | h::l=>h.cs.length+shN l
def shPins:List Sh→Nat
 | []=>0
 | h::l=>csArrs h.cs+shPins l
def look (l:List (Nat×Blk)) (k:Nat):Option Blk :=
 match l with
 | []=>none
 | (i,b)::r=>bif i==k then some b else look r k
def backCS:List CS→List Sh
 | []=>[]
 | .arr dp t::l=>.arr dp t::backCS l
 | .box t::l=>.box t::backCS l
 | .p _::l=>backCS l
 | .eat _ _::l=>backCS l
 | .self f::l=>.self f::backCS l
 | .rbx dp t::l=>.rbx dp t::backCS l
def backShs:List Sh→List Sh
 | []=>[]
 | h::l=>backCS h.cs++backShs l
def pinSVs:Nat→List Sh→List SV
 | _,[]=>[]
 | p,.box _::l=>.a (.ptr p 0)::pinSVs (p+1) l
 | p,.self _::l=>.a (.ptr p 0)::pinSVs (p+1) l
 | p,.rbx _ _::l=>.a (.ptr p 0)::pinSVs (p+1) l
 | p,_::l=>.a (.ref p)::pinSVs (p+1) l
def slCells:Ty→List Nat
 | .pr a b=>slCells a++(slCells b).map (·+a.size)
 | .sl _ _=>[0]
 | _=>[]
def CS.kp (p:Nat):CS→List (Nat×Nat)
 | .box t=>(slCells t).map fun j=>(p,j)
 | .self _=>[(p,0)]
 | _=>[]
def csKp:Nat→List CS→List (Nat×Nat)
 | _,[]=>[]
 | p,c::l=>c.kp p++csKp (p+c.pins) l
def shKp:Nat→List Sh→List (Nat×Nat)
 | _,[]=>[]
 | p,h::l=>csKp p h.cs++shKp (p+csArrs h.cs) l
structure MO where
 gs:List (E .bool)
 es:List AE
 tg:List (Nat×Option Nat)
 rd:List Nat
def MO.add (a b:MO):MO:=⟨a.gs++b.gs,a.es++b.es,a.tg++b.tg,a.rd++b.rd⟩
def matchE (h:Nat→Option Blk) (t:Ty) (a:Atom):Option (List (E .bool)×E t) :=
 match a.toE h t with
 | some e=>some ([],e)
 | none =>
  match t with
  | .sl false u=>(vwE h u a).map fun e=>([],e)
  | .sl true u=>(a.toE h (.sl false u)).map fun e=>([.o1 .not (.o1 (.emp false u) e)],.o1 (.re false true u) e)
  | _=>none
def matchC (h:Nat→Option Blk) (v p:Nat) (c:CS) (a:Atom):Option MO :=
 match c with
 | .p t=>(matchE h t a).map fun r=>⟨r.1,[⟨t,r.2⟩],[],refsOf [a]⟩
 | .arr dp t =>
  match a with
  | .ref i =>
   match h i with
   | some (.arr dp' t' e)=>if dp'=dp then (if h:t'=t then some ⟨[],[⟨.sl false t,h▸e⟩],[(p,some i)],[]⟩ else none) else none
   | _=>none
  | .nil=>some ⟨[],[⟨.sl false t,.nil false t⟩],[(p,none)],[]⟩
  | _=>none
 | .box t =>
  match a with
  | .ptr i 0 =>
   match h i with
   | some (.box l)=>match mkE h t l with
    | some (e,[])=>some ⟨[],[⟨t,e⟩],[(p,some i)],refsOf l⟩
    | _=>none
   | _=>none
  | _=>none
 | .eat dp t =>
  match a with
  | .ref i =>
   match h i with
   | some (.arr dp' t' e)=>if dp'=dp then (if h:t'=t then some ⟨[],[⟨.sl false t,h▸e⟩],[(2000+v,some i)],[]⟩ else none) else none
   | _=>none
  | .nil=>some ⟨[],[⟨.sl false t,.nil false t⟩],[(2000+v,none)],[]⟩
  | _=>none
 | .self _ =>
  match a with
  | .ptr i 0 =>
   match h i with
   | some (.box [_])=>some ⟨[],[⟨.bool,.bool true⟩],[(p,some i)],[]⟩
   | _=>none
  | _=>none
 | .rbx dp t =>
  match a with
  | .ptr i 0 =>
   match h i with
   | some (.box [.ref j]) =>
    match h j with
    | some (.arr dp' t' e)=>if dp'=dp then (if h:t'=t then some ⟨[],[⟨.sl false t,h▸e⟩],[(p,some i),(3000+v,some j)],[]⟩ else none) else none
    | _=>none
   | some (.box [.nil])=>some ⟨[],[⟨.sl false t,.nil false t⟩],[(p,some i),(3000+v,none)],[]⟩
   | _=>none
  | _=>none
def matchCS (h:Nat→Option Blk):Nat→Nat→List CS→List Atom→Option MO
 | _,_,[],[]=>some ⟨[],[],[],[]⟩
 | v,p,c::l,a::m =>
  match matchC h v p c a,matchCS h (v+1) (p+c.pins) l m with
  | some x,some y=>some (x.add y)
  | _,_=>none
 | _,_,_,_=>none
def matchSh (h:Nat→Option Blk) (v p:Nat):Sh→SV→Option MO
 | .agg l,.agg m=>matchCS h v p l m
 | .p t,.a a=>matchCS h v p [.p t] [a]
 | .arr dp t,.a a=>matchCS h v p [.arr dp t] [a]
 | .box t,.a a=>matchCS h v p [.box t] [a]
 | .eat dp t,.a a=>matchCS h v p [.eat dp t] [a]
 | .self f,.a a=>matchCS h v p [.self f] [a]
 | .rbx dp t,.a a=>matchCS h v p [.rbx dp t] [a]
 | _,_=>none
def matchShs (h:Nat→Option Blk):Nat→Nat→List Sh→List SV→Option MO
 | _,_,[],[]=>some ⟨[],[],[],[]⟩
 | v,p,s::l,x::m =>
  match matchSh h v p s x,matchShs h (v+s.cs.length) (p+csArrs s.cs) l m with
  | some x,some y=>some (x.add y)
  | _,_=>none
 | _,_,_,_=>none
def MO.ids (o:MO):List Nat:=o.tg.filterMap (·.2)
def MO.ok (o:MO):Bool:=nodupB o.ids&&nodupB (o.tg.map (·.1))&&o.rd.all fun i=>!o.ids.contains i
def tgOf (tg:List (Nat×Option Nat)) (p:Nat):Option Nat :=
 match tg with
 | []=>none
 | (i,t)::r=>if i=p then t else tgOf r p
def CS.byRef:CS→Bool
 | .p _=>false
 | _=>true
def Sh.byRef (h:Sh):Bool:=h.cs.any CS.byRef
def Sig.ini (g:Sig):St:=⟨shSV 0 0 g.ps,[],look (shB 0 0 g.ps),100000,shPins g.ps,shKp 0 g.ps⟩
def selfOf:Nat→List Sh→Option (Nat×FuncId)
 | _,[]=>none
 | p,.self f::_=>some (p,f)
 | p,h::l=>selfOf (p+csArrs h.cs) l
def selfUp (l:List Sh) (h:Nat→Option Blk):Nat→Option Blk :=
 match selfOf 0 l with
 | some (p,f)=>upd h p (some (.box [.clo f ((List.range (shPins l)).map fun k=>(k,0))]))
 | none=>h
def selfOk (l:List Sh) (h:Nat→Option Blk) (tg:List (Nat×Option Nat)):Bool :=
 match selfOf 0 l with
 | none=>true
 | some (p,f) =>
  match tgOf tg p with
  | some i =>
   match h i with
   | some (.box [.clo f' caps])=>decide (f'=f)&&(List.range (shPins l)).all (fun k=>(tgOf tg k).isSome)&&decide (caps=(List.range (shPins l)).map fun k=>((tgOf tg k).getD 0,0))
   | _=>false
  | none=>false
def Sig.ini1 (g:Sig):St:=⟨shSV 0 0 g.ps,[],selfUp g.ps (look (shB 0 0 g.ps)),100000,shPins g.ps,shKp 0 g.ps⟩
def Sig.init (g:Sig) (ntmps:Nat):St:=⟨shSV 0 0 g.ps++List.replicate (ntmps - g.ps.length) (.a .un),[],selfUp g.ps (look (shB 0 0 g.ps)),100000,shPins g.ps,shKp 0 g.ps⟩
def finL (g:Sig):List (Nat×Blk):=shB 0 1000 g.rs++shB (shN g.rs) 0 (backShs g.ps)
def Sig.fin (g:Sig):St:=⟨shSV 0 1000 g.rs,[],look (finL g),0,shPins g.ps,shKp 0 g.ps⟩
def Sig.outs (g:Sig):Nat:=shN g.rs+shN (backShs g.ps)
def comps:List SV→Option (List (Bool×List Atom))
 | []=>some []
 | .a x::l=>(comps l).map ((false,[x])::·)
 | .agg m::l=>(comps l).map ((true,m)::·)
 | .tup _::_=>none
def single:List SV→Option SV
 | [v]=>some v
 | l=>(comps l).map .tup
def shiftE (d:Nat):{t:Ty}→E t→E t
 | _,.var t i=>.var t (i+d)
 | _,.o1 o x=>.o1 o (shiftE d x)
 | _,e=>e
def shiftA (ψ:Nat→Nat) (d:Nat):Atom→Atom
 | .x t e=>.x t (shiftE d e)
 | .ref k=>.ref (ψ k)
 | .ptr k j=>.ptr (ψ k) j
 | _=>.no
def shiftB (ψ:Nat→Nat) (d:Nat):Blk→Blk
 | .arr dp t e=>.arr dp t (shiftE d e)
 | .box l=>.box (l.map (shiftA ψ d))
 | b=>b
def CS.flat:CS→Bool
 | .p t=>!t.hasSl
 | .arr dp t=>dp||!t.hasSl
 | .box t=>!t.hasSl
 | .eat dp t=>dp||!t.hasSl
 | .self _=>true
 | .rbx dp t=>dp||!t.hasSl
def CS.flatB:CS→Bool
 | .box _=>true
 | c=>c.flat
def Sig.leaks (g:Sig):Bool:=!(g.rs.all (fun h=>h.cs.all CS.flat)&&(backShs g.ps).all (fun h=>h.cs.all CS.flatB))
def mix1:Option Atom→Atom→Atom
 | o,.x (.sl _ _) _=>match o with
  | some (.x (.sl c t) e)=>.x (.sl c t) e
  | _=>.no
 | o,.no=>match o with
  | some (.clo f c)=>.clo f c
  | _=>.no
 | _,b=>b
def mixA:List Atom→List Atom→List Atom
 | _,[]=>[]
 | l,b::m=>mix1 l.head? b::mixA l.tail m
def mixB (h:Nat→Option Blk) (i p:Nat):Blk→Blk
 | .box m=>if p<1000 then .box (mixA (match h i with | some (.box l)=>l | _=>[]) m) else .box m
 | b=>b
def eaten (tg:List (Nat×Option Nat)):List Nat:=tg.filterMap fun p=>bif decide (2000≤p.1) then p.2 else none
def dropA (ids ea:List Nat) (a:Atom):Atom:=bif (a.nst&&a.ids.any ids.contains)||a.ids.any ea.contains then .no else a
def nameTo (tg:List (Nat×Option Nat)) (id:Nat) (k:Nat):Nat:=if k<1000 then (tgOf tg k).getD 0 else if k<3000 then id+(k - 1000) else id+40+(k - 3000)
def callTo (g:Sig) (s:St) (id:Nat) (argOps:List Operand):Option (List (E .bool)×List AE×SV×St) :=
 match matchShs s.heap 0 0 g.ps (argOps.map s.get) with
 | some o =>
  let ea:=eaten o.tg
  let f:=dropA o.ids ea
  let ψ:=nameTo o.tg id
  let bl:=(finL g).map fun p=>(ψ p.1,mixB s.heap (ψ p.1) p.1 (shiftB ψ id p.2))
  if (selfOk g.ps s.heap o.tg&&(ea.isEmpty||(finL g).all fun q=>match q.2 with | .box [.no]=>(match s.heap (ψ q.1) with | some (.box (.clo _ caps::_))=>caps.all fun c=>!ea.contains c.1 | _=>true) | _=>true))&&o.ok&&(!g.leaks||o.rd.isEmpty)&&o.tg.all (fun p=>decide (2000≤p.1)||match p.2 with | some i=>(look bl i).isSome | none=>false)&&(ea.all fun i=>(look bl i).isNone&&decide (s.np≤i)) &&
    (s.kp.all fun c=>!o.ids.contains c.1||(shKp 0 g.ps).any fun q=>decide (tgOf o.tg q.1=some c.1)&&decide (q.2=c.2))&&nodupB ((shB 0 0 g.ps).map (·.1))&&decide (shPins g.ps≤1000) &&
    (finL g).all (fun p=>if p.1<1000 then (tgOf o.tg p.1).isSome&&decide (p.1<shPins g.ps) else (s.heap (ψ p.1)).isNone&&decide (s.np≤ψ p.1))&&nodupB (bl.map (·.1))&&decide (g.outs≤64) then
   (single ((shSV 0 1000 g.rs).map (SV.map (shiftA ψ id)))).map fun v =>
    (o.gs,o.es,v,⟨s.cur.map (SV.map f),s.stk.map (List.map (SV.map f)),fun k=>match look bl k with | some b=>some b | none=>bif ea.contains k then none else (s.heap k).map (Blk.map f),s.base,s.np,s.kp⟩)
  else none
 | none=>none
def lentOp (s:St):List Sh→List Operand→Option Nat
 | .arr _ _::l,.tmp t::m=>match s.cur.getD t (.a .no) with
  | .a (.nref _ _ _ _ _)=>some t
  | _=>lentOp s l m
 | _::l,_::m=>lentOp s l m
 | _,_=>none
def symCall (g:Sig) (s:St) (id:Nat) (argOps:List Operand):Option (List (E .bool)×List AE×SV×St):=callTo g (if g.leaks then s.solids argOps else s) id argOps
def symCallN (g:Sig) (s:St) (id:Nat) (argOps:List Operand):Option (List (E .bool)×List AE×SV×St) :=
 match lentOp s g.ps argOps with
 | none=>symCall g s id argOps
 | some t =>
  match lend s t (id+32) with
  | some (i,s1) =>
   match symCall g s1 id argOps with
   | some (gs,ins,v,s2) =>
    match unlend { s2 with cur:=v::s2.cur } i (id+32) with
    | some ⟨v'::cur,stk,heap,base,np,kp⟩=>some (gs,ins,v',⟨cur,stk,heap,base,np,kp⟩)
    | _=>none
   | none=>none
  | none=>none
abbrev Inl:=FuncId→List SV→St→(SV→St→Tr)→Tr
def opTmps (l:List Oper):List Nat:=l.flatMap fun o=>(o.op.operands.toList.filterMap fun | .tmp t=>some t | _=>none)
def argsOf (s:St) (c:Call):List SV:=c.args.toList.map s.get
def St.putD (s:St) (dst:Option Tmp) (v:SV):St :=
 match dst with
 | some d=>{ s with cur:=s.cur.set d v }
 | none=>s
def St.keepAt (s:St) (live:List Nat) (b:Nat):St:=⟨keepFrom live 0 s.cur,s.stk,s.heap,b,s.np,s.kp⟩
def insAt (dp:Bool) (s:St) (id:Nat) (ty:Ty) (i j:Nat) (k:E (.int .i64)):Res :=
 match s.heap i,s.heap j with
 | some (.arr d1 ty1 e1),some (.arr d2 ty2 e2) =>
  if hd:d1=dp∧d2=dp then
   if h1:ty1=ty then
    if h2:ty2=ty then
     if i≠j∧ty.size=1∧free s id=true then
      some ([gLe (eI .i64 0) k,gLe k (lenI (h1▸e1:E (.sl false ty))),gLe (lenI (h1▸e1:E (.sl false ty))) (eI .i64 lim),.o2 (.cm .eql .i64 .i64) (lenI (h2▸e2:E (.sl false ty))) (eI .i64 1)],
       .a (.ref id),(s.kills (bif dp then [i,j] else [i])).new id (.arr dp ty (.o2 (.app ty) (.o2 (.app ty) (.o2 (.take ty .i64) (h1▸e1) k) (h2▸e2)) (.o2 (.drop ty .i64) (h1▸e1) k))))
     else none
    else none
   else none
  else none
 | _,_=>none
def symIns (s:St) (id:Nat) (ty:Ty) (x n y:Operand):Res :=
 match (s.get x).atom,s.get n,(s.get y).atom with
 | .ref i,.a (.x (.int .i64) k),.ref j =>
  match insAt true s id ty i j k with
  | some q=>some q
  | none=>insAt false (s.shallow j) id ty i j k
 | _,_,_=>none
def symSort (s:St) (x:Operand):Res :=
 match (s.get x).atom with
 | .ref i =>
  match s.heap i with
  | some (.arr false (.int .i64) e)=>some ([gLe (lenI e) (eI .i64 lim)],.tup [],((s.kills []).unnest i).new i (.arr false (.int .i64) (.o1 (.hnd 0) e)))
  | _=>none
 | _=>none
def symCpt (s:St) (id:Nat) (x:Operand):Res :=
 match (s.get x).atom with
 | .ref i =>
  match s.heap i with
  | some (.arr false (.int .i64) e)=>if free s id then some ([gLe (lenI e) (eI .i64 lim)],.a (.ref id),(s.kills [i]).new id (.arr false (.int .i64) (.o1 (.hnd 1) e))) else none
  | _=>none
 | _=>none
def symCln (s:St) (id:Nat) (x:Operand):Res :=
 match appSrc s.heap false (.int .i64) (s.get x).atom with
 | some (e,_)=>if free s id then some ([gLe (lenI e) (eI .i64 lim)],.a (.ref id),(s.kills []).new id (.arr false (.int .i64) e)) else none
 | none=>none
def symGrw (s:St) (id:Nat) (u:Ty) (x n:Operand):Res :=
 match (s.get x).atom,s.get n with
 | .nil,.a (.x (.int .i64) k)=>if free s id then some ([gLe (eI .i64 0) k,gLe k (eI .i64 lim)],.a (.ref id),(s.kills []).new id (.arr u.hasSl u (.nil false u))) else none
 | _,_=>none
def symSortN (s:St) (id:Nat) (x:Operand):Res :=
 match x with
 | .tmp t =>
  match lend s t (id+32) with
  | some (i,s1) =>
   match symSort s1 (.tmp t) with
   | some (gs,.tup [],s2)=>(unlend s2 i (id+32)).map fun s3=>(gs,.tup [],s3)
   | _=>none
  | none=>none
 | _=>none
def symCptN (s:St) (id:Nat) (x:Operand):Res :=
 match x with
 | .tmp t =>
  match lend s t (id+32) with
  | some (_,s1)=>symCpt s1 id (.tmp t)
  | none=>none
 | _=>none
def symHand (s:St) (id:Nat) (ty:Ty) (ops:List Operand):Res :=
 match ty,ops with
 | .bool,[x]=>match symSort s x with
  | some q=>some q
  | none=>symSortN s id x
 | .int .i64,[x]=>match symCpt s id x with
  | some q=>some q
  | none=>symCptN s id x
 | .str,[x]=>symCln s id x
 | .pr u .bool,[x,n]=>symGrw s id u x n
 | .sl c u,[x,n,y]=>symIns s id (.sl c u) x n y
 | _,_=>none
def frzKey (o:Oper) (i:Nat):Nat:=match o.dst with | some d=>2 * d | none=>2 * i+1
def symNn (s:St):Op→Res
 | .assign x =>
  match (s.solid x).get x with
  | .a (.x (.sl false t) e)=>some ([.o1 .not (.o1 (.emp false t) e)],.a (.x (.sl true t) (.o1 (.re false true t) e)),s.solid x)
  | _=>none
 | _=>none
def belowOp (n:Nat):Operand→Bool
 | .tmp t=>decide (t<n)
 | _=>true
def symGo (c:Cx) (fn:FuncId) (rid:Nat) (inl:Inl) (ops:Array Oper) (i:Nat) (o:Oper) (rest:List Oper) (k:SV→St→Tr) (s:St):Tr :=
 match o.op with
 | .call { callee:=.value f,args:=args,argTypes:=ts } =>
  match s.get f with
  | .a (.clo g caps) =>
   match c.ins g with
   | some ty =>
    match caps with
    | [] =>
     match symHand s (s.base+64 * i) ty args.toList with
     | some (gs,v,s')=>.guards gs (k v { s' with base:=s.base })
     | none=>.bad
    | _=>.bad
   | none =>
   match c.sg g with
   | some sig =>
    if caps.isEmpty then
     match symCallN sig s (s.base+64 * i) args.toList with
     | some (gs,ins,v,s')=>.guards gs (.call g ins (s.base+64 * i) (k v { s' with base:=s.base }))
     | none=>.bad
    else if args.toList.all (belowOp s.cur.length) then
     match symCallN sig { s with cur:=s.cur++caps.map fun p=>.a (.ptr p.1 p.2) } (s.base+64 * i) (args.toList++(List.range caps.length).map fun j=>.tmp (s.cur.length+j)) with
     | some (gs,ins,v,s')=>.guards gs (.call g ins (s.base+64 * i) (k v { s' with cur:=s'.cur.take s.cur.length,base:=s.base }))
     | none=>.bad
    else .bad
   | none =>
    inl g (args.toList.map s.get++caps.map fun p=>.a (.ptr p.1 p.2))
     (s.keepAt (opTmps rest++((rest.filterMap (·.guard)).filterMap fun gd=>(ops[gd.1]?).bind (·.dst))++(c.hint fn).liveOut rid) (s.base+64 * (i+1))) k
  | _=>.bad
 | op =>
  if (c.hint fn).vws.contains (rid,frzKey o i) then
   match symNn s op with
   | some (gs,v,s')=>.guards gs (k v { s' with base:=s.base })
   | none =>
   match storeLent c.P s op with
   | some (gs,v,s')=>.guards gs (k v { s' with base:=s.base })
   | none =>
   match lendLoad c.P s (s.base+64 * i) op with
   | some (gs,v,s')=>.guards gs (k v { s' with base:=s.base })
   | none =>
   match symView c.P s op with
   | some (gs,v,s')=>.guards gs (k v { s' with base:=s.base })
   | none=>.bad
  else
  match symOp c.P ((c.hint fn).frz.contains (rid,frzKey o i)) s (s.base+64 * i) op with
  | some (gs,v,s')=>.guards gs (k v { s' with base:=s.base })
  | none=>.bad
def symStep (c:Cx) (fn:FuncId) (rid:Nat) (inl:Inl) (ops:Array Oper) (i:Nat) (o:Oper) (rest:List Oper) (k:St→Tr) (s:St):Tr :=
 match o.guard with
 | none=>symGo c fn rid inl ops i o rest (fun v s'=>k (s'.putD o.dst v)) s
 | some (j,want) =>
  match (ops[j]?).bind (·.dst) with
  | none=>.bad
  | some t =>
   match s.cur.getD t (.a .no) with
   | .a .un=>k (s.putD o.dst (.a .un))
   | .a (.x .bool e) =>
    match litB e with
    | some b=>if b=want then symGo c fn rid inl ops i o rest (fun v s'=>k (s'.putD o.dst v)) s else k (s.putD o.dst (.a .un))
    | none =>
     if want then .ite e (symGo c fn rid inl ops i o rest (fun v s'=>k (s'.putD o.dst v)) (s.asm e true)) (k ((s.asm e false).putD o.dst (.a .un)))
     else .ite e (k ((s.asm e true).putD o.dst (.a .un))) (symGo c fn rid inl ops i o rest (fun v s'=>k (s'.putD o.dst v)) (s.asm e false))
   | _=>.bad
def symOps (c:Cx) (fn:FuncId) (rid:Nat) (inl:Inl) (ops:Array Oper) (k:St→Tr):Nat→List Oper→St→Tr
 | _,[],s=>k s
 | i,o::rest,s=>symStep c fn rid inl ops i o rest (symOps c fn rid inl ops k (i+1) rest) s
def pureKind:Op→Option Bool
 | .move _=>some false
 | .assign _=>some false
 | .pick _ _ _=>some false
 | .load _ _=>some true
 | .build _ _=>some false
 | .nilCheck _=>some false
 | .binOp _ _ _ _ _=>some false
 | .unOp _ _ _=>some false
 | .convert _ _ _=>some false
 | .makeFunc _ _ _=>some false
 | .fieldAddr _ _ _=>some false
 | .indexAddr _ _ _=>some false
 | .index _ _ _=>some false
 | .field _ _ _=>some false
 | .extract _ _=>some false
 | .call { callee:=.builtin .len,args:=_,argTypes:=_ }=>some false
 | .call { callee:=.builtin .max,args:=_,argTypes:=_ }=>some false
 | .call { callee:=.builtin .min,args:=_,argTypes:=_ }=>some false
 | _=>none
def freshB (c:Cx) (o:Oper):Bool :=
 match o.op with
 | .alloc _=>true
 | .box _ _=>true
 | .buildSlice _ _ _=>true
 | .call { callee:=.value (.func f),args:=_,argTypes:=_ }=>match c.sg f with
  | some g=>(c.ins f).isNone&&g.ps.all fun h=>!h.byRef
  | none=>false
 | _=>false
def lateB (c:Cx) (o:Oper):Bool:=(pureKind o.op).isNone&&!freshB c o
def ancs (ops:Array Oper):List (List Nat) :=
 ops.toList.foldl (fun t o=>t++[o.after.toList.foldl (fun l e=>bif Region.binds .any e then (if l.contains e.on then l else e.on::l)++(t.getD e.on []).filter (fun x=>!l.contains x) else l) []]) []
def ancOk (ops:Array Oper) (t:List (List Nat)):Bool :=
 (List.range ops.size).all fun j=>(t.getD j []).all fun i =>
  match ops[j]? with
  | some o=>o.after.toList.any fun e=>Region.binds .any e&&(e.on==i||(decide (e.on<j)&&(t.getD e.on []).contains i))
  | none=>false
def takeOk (c:Cx) (ops:Array Oper) (t:List (List Nat)) (listed:Array Bool) (i:Nat) (o:Oper):Bool :=
 match pureKind o.op with
 | some ld=>Region.free .any ops listed i&&(!ld||(List.range ops.size).all fun j=>listed.getD j true||match ops[j]? with
  | some oj=>!lateB c oj||(t.getD j []).contains i
  | none=>true)
 | none=>Region.ready .any ops listed==[i]
def orderFrom (c:Cx) (ops:Array Oper) (t:List (List Nat)):Nat→Array Bool→Option (List Oper)
 | 0,listed=>if (Region.ready .any ops listed).isEmpty then some [] else none
 | n+1,listed =>
  match (Region.ready .any ops listed).find? fun i=>match ops[i]? with
   | some o=>takeOk c ops t listed i o
   | none=>false with
  | some i=>match ops[i]? with
   | some o=>(orderFrom c ops t n (listed.setIfInBounds i true)).map (o::·)
   | none=>none
  | none=>none
def orderOf (c:Cx) (ops:Array Oper):Option (List Oper) :=
 if Region.noSelect ops&&ancOk ops (ancs ops) then orderFrom c ops (ancs ops) ops.size (Array.replicate ops.size false) else none
def alV:List (Nat×Nat×Nat)→Nat→Nat→Bool
 | [],i,j=>decide (i=j)
 | (a,b,n)::l,i,j=>if n=0 then (if b=0 then false else if i=a then decide (j+1=b) else alV l i j) else
  if a≤i∧i<a+n then decide (j=i - a+b) else (if b≤j∧j<b+n then false else alV l i j)
def pushL (a b n:Nat) (l:List (Nat×Nat×Nat)):List (Nat×Nat×Nat):=if n=0 then l else (a,b,n)::l
def alO2:{a b c a' b' c':Ty}→O2 a b c→O2 a' b' c'→Bool
 | _,_,_,_,_,_,.sh l k j,.sh l' k' j'=>decide (l=l')&&decide (k=k')&&decide (j=j')
 | _,_,_,_,_,_,.scat,.scat=>true
 | _,_,_,_,_,_,.app e,.app e'=>decide (e=e')
 | _,_,_,_,_,_,.take e k,.take e' k'=>decide (e=e')&&decide (k=k')
 | _,_,_,_,_,_,.drop e k,.drop e' k'=>decide (e=e')&&decide (k=k')
 | _,_,_,_,_,_,.rep e k,.rep e' k'=>decide (e=e')&&decide (k=k')
 | _,_,_,_,_,_,.over e,.over e'=>decide (e=e')
 | _,_,_,_,_,_,.pair a b,.pair a' b'=>decide (a=a')&&decide (b=b')
 | _,_,_,_,_,_,o,p=>eqO2 o p
def alO3:{a b c d a' b' c' d':Ty}→O3 a b c d→O3 a' b' c' d'→Bool
 | _,_,_,_,_,_,_,_,.pick e,.pick e'=>decide (e=e')
 | _,_,_,_,_,_,_,_,.set e k,.set e' k'=>decide (e=e')&&decide (k=k')
 | _,_,_,_,_,_,_,_,_,_=>false
def alE (l:List (Nat×Nat×Nat)):{a b:Ty}→E a→E b→Bool
 | _,_,.var t i,.var t' j=>decide (t=t')&&alV l i j
 | _,_,.int k n,.int k' m=>decide (k=k')&&decide (n=m)
 | _,_,.bool a,.bool b=>a==b
 | _,_,.str a,.str b=>decide (a=b)
 | _,_,.nil c e,.nil c' e'=>decide (c=c')&&decide (e=e')
 | _,_,.z t,.z t'=>decide (t=t')
 | _,_,.o1 o x,.o1 p y=>eqO1 o p&&alE l x y
 | _,_,.o2 o x y,.o2 p u v=>alO2 o p&&alE l x u&&alE l y v
 | _,_,.o3 o x y z,.o3 p u v w=>alO3 o p&&alE l x u&&alE l y v&&alE l z w
 | _,_,_,_=>false
structure SetV where
 t:Ty
 k:IntKind
 x:E (.sl false t)
 i:E (.int k)
 u:E t
def asSet:{a:Ty}→E a→Option SetV
 | _,.o3 (.set t k) x i u=>some ⟨t,k,x,i,u⟩
 | _,_=>none
def swapE (l:List (Nat×Nat×Nat)) {a b:Ty} (e:E a) (f:E b):Bool :=
 match asSet e,asSet f with
 | some p,some q =>
  match asSet p.x,asSet q.x with
  | some p',some q'=>decide (p.t=q.t)&&alE l p'.x q'.x&&alE l p'.i q.i&&alE l p.i q'.i&&alE l p'.u q.u&&alE l p.u q'.u&&alE l p'.u q'.u
  | _,_=>false
 | _,_=>false
def alA (l:List (Nat×Nat×Nat)) (a b:AE):Bool:=alE l a.2 b.2||swapE l a.2 b.2
def E.noV (b n:Nat):{t:Ty}→E t→Bool
 | _,.var _ i=>!(decide (b≤i)&&decide (i<b+n))
 | _,.o1 _ x=>x.noV b n
 | _,.o2 _ x y=>x.noV b n&&y.noV b n
 | _,.o3 _ x y u=>x.noV b n&&y.noV b n&&u.noV b n
 | _,_=>true
def spineG (c:Cx):Tr→List (E .bool)
 | .guard e t=>e::spineG c t
 | .call f _ b t=>match c.sg f with
  | some g=>(spineG c t).filter fun e=>e.noV b g.outs
  | none=>[]
 | _=>[]
def stripG (l:List (Nat×Nat×Nat)) (gs:List (E .bool)):Tr→Tr
 | .guard e t=>bif gs.any fun g=>alE l g e then stripG l gs t else .guard e t
 | t=>t
def alT (c:Cx):List (Nat×Nat×Nat)→List (E .bool)→Tr→Tr→Bool
 | _,_,.bad,_=>true
 | l,gs,.leaf x _,t'=>match stripG l gs t' with
  | .leaf x' _=>l.isEmpty&&decide (x=x')
  | _=>false
 | l,gs,.ite c1 a b,t'=>match stripG l gs t' with
  | .ite c2 a' b'=>alE l c1 c2&&alT c l gs a a'&&alT c l gs b b'
  | _=>false
 | l,gs,.guard c1 t,t'=>alT c l (c1::gs) t t'
 | l,gs,.call f ins b t,t'=>match c.sg f with
  | some g=>match stripG l (gs++(spineG c t).filter fun e=>e.noV b g.outs) t' with
   | .call f' ins' b' t''=>decide (f=f')&&eqL (alA l) ins ins'&&alT c (pushL b b' g.outs l) (gs.filter fun e=>e.noV b g.outs) t t''
   | _=>false
  | none=>false
 | l,gs,.jump n vs,t'=>match stripG l gs t' with
  | .jump n' vs'=>decide (n=n')&&eqL (alA l) vs vs'
  | _=>false
 | l,gs,.ret vs,t'=>match stripG l gs t' with
  | .ret vs'=>eqL (alA l) vs vs'
  | _=>false
 | l,gs,.join t k,t'=>match stripG l gs t' with
  | .join t'' k'=>alT c l gs t t''&&alT c [] [] k k'
  | _=>false
 | l,gs,.loop i b,t'=>match stripG l gs t' with
  | .loop i' b'=>eqL (alA l) i i'&&alT c [] [] b b'
  | _=>false
def mapL:Nat→List Nat→List (Nat×Nat×Nat)
 | _,[]=>[(0,0,0)]
 | i,k::q=>(i,k+1,0)::mapL (i+1) q
def selL:Option (List Nat)→List (Nat×Nat×Nat)
 | none=>[]
 | some q=>mapL 0 q
def selQ (l:List (Nat×Nat×Nat)):List AE→List Nat→List AE→Bool
 | [],[],_=>true
 | v::vs,k::q,vs'=>(match vs'[k]? with | some v'=>alA l v v' | none=>false)&&selQ l vs q vs'
 | _,_,_=>false
def selOk (l:List (Nat×Nat×Nat)):Option (List Nat)→List AE→List AE→Bool
 | none,vs,vs'=>eqL (alA l) vs vs'
 | some q,vs,vs'=>selQ l vs q vs'
def findJ:Nat→Tr→Option (List AE)
 | d,.jump n vs=>if n=d then some vs else none
 | d,.ite _ a b=>match findJ d a with
  | some v=>some v
  | none=>findJ d b
 | d,.guard _ t=>findJ d t
 | d,.call _ _ _ t=>findJ d t
 | d,.join t k=>match findJ (d+1) t with
  | some v=>some v
  | none=>findJ d k
 | d,.loop _ b=>findJ (d+1) b
 | _,_=>none
def placesAl (l:List (Nat×Nat×Nat)) (v:AE):List AE→Nat→List Nat
 | [],_=>[]
 | v'::vs',p=>bif alA l v v' then p::placesAl l v vs' (p+1) else placesAl l v vs' (p+1)
def fromEnd (n : Nat) (P : List Nat) : Nat := P.getD (P.length - 1 - n) 0
def alignQ (l:List (Nat×Nat×Nat)) (full:List AE):List AE→List Nat
 | []=>[]
 | v::vs=>fromEnd (vs.filter fun u=>eqE v.2 u.2).length (placesAl l v full 0)::alignQ l full vs
def selOf (l:List (Nat×Nat×Nat)) (vs vs':List AE):Option (List Nat):=if eqL (alA l) vs vs' then none else some (alignQ l vs' vs)
def alD (c:Cx):List (Nat×Nat×Nat)→List (E .bool)→List (Option (List Nat))→Tr→Tr→Bool
 | _,_,_,.bad,_=>true
 | l,gs,_,.leaf x _,t'=>match stripG l gs t' with
  | .leaf x' _=>l.isEmpty&&decide (x=x')
  | _=>false
 | l,gs,js,.ite c1 a b,t'=>match stripG l gs t' with
  | .ite c2 a' b'=>alE l c1 c2&&alD c l gs js a a'&&alD c l gs js b b'
  | _=>false
 | l,gs,js,.guard c1 t,t'=>alD c l (c1::gs) js t t'
 | l,gs,js,.call f ins b t,t'=>match c.sg f with
  | some g=>match stripG l (gs++(spineG c t).filter fun e=>e.noV b g.outs) t' with
   | .call f' ins' b' t''=>decide (f=f')&&eqL (alA l) ins ins'&&alD c (pushL b b' g.outs l) (gs.filter fun e=>e.noV b g.outs) js t t''
   | _=>false
  | none=>false
 | l,gs,js,.jump n vs,t'=>match stripG l gs t' with
  | .jump n' vs'=>decide (n=n')&&selOk l (js.getD n none) vs vs'
  | _=>false
 | l,gs,_,.ret vs,t'=>match stripG l gs t' with
  | .ret vs'=>eqL (alA l) vs vs'
  | _=>false
 | l,gs,js,.join t k,t'=>match stripG l gs t' with
  | .join t'' k' =>
   let q:=match findJ 0 t,findJ 0 t'' with
    | some vs,some vs'=>selOf l vs vs'
    | _,_=>none
   alD c l gs (q::js) t t''&&alD c (selL q) [] js k k'
  | _=>false
 | l,gs,js,.loop i b,t'=>match stripG l gs t' with
  | .loop i' b'=>selOk l (selOf l i i') i i'&&alD c (selL (selOf l i i')) [] (selOf l i i'::js) b b'
  | _=>false
def restOf (ops:Array Oper) (listed:Array Bool):List Oper:=(List.range ops.size).filterMap fun j=>bif listed.getD j true then none else ops[j]?
def anyOps (c:Cx) (fn:FuncId) (rid:Nat) (inl:Inl) (ops:Array Oper) (t:List (List Nat)) (all:Bool) (k:St→Tr):Nat→Nat→Array Bool→St→Tr
 | 0,_,listed,s=>if (Region.ready .any ops listed).isEmpty then k s else .bad
 | n+1,i,listed,s =>
  match (Region.ready .any ops listed).find? fun j=>match ops[j]? with
   | some o=>(pureKind o.op).isSome&&takeOk c ops t listed j o
   | none=>false with
  | some j=>match ops[j]? with
   | some o=>symStep c fn rid inl ops i o (restOf ops (listed.setIfInBounds j true)) (anyOps c fn rid inl ops t all k n (i+1) (listed.setIfInBounds j true)) s
   | none=>.bad
  | none=>match Region.ready .any ops listed with
   | []=>.bad
   | j::js=>match ops[j]? with
    | some o =>
     if !all||js.all fun j'=>match ops[j']? with
       | some o'=>alT c [] [] (symStep c fn rid inl ops i o (restOf ops (listed.setIfInBounds j true)) (anyOps c fn rid inl ops t all k n (i+1) (listed.setIfInBounds j true)) s)
         (symStep c fn rid inl ops i o' (restOf ops (listed.setIfInBounds j' true)) (anyOps c fn rid inl ops t all k n (i+1) (listed.setIfInBounds j' true)) s) ||
        alD c [] [] [] (symStep c fn rid inl ops i o (restOf ops (listed.setIfInBounds j true)) (anyOps c fn rid inl ops t all k n (i+1) (listed.setIfInBounds j true)) s)
         (symStep c fn rid inl ops i o' (restOf ops (listed.setIfInBounds j' true)) (anyOps c fn rid inl ops t all k n (i+1) (listed.setIfInBounds j' true)) s)
       | none=>false
     then symStep c fn rid inl ops i o (restOf ops (listed.setIfInBounds j true)) (anyOps c fn rid inl ops t all k n (i+1) (listed.setIfInBounds j true)) s
     else .bad
    | none=>.bad
def meetOut (h:Hint) (rid:Nat) (s:St):Option (List AE×NS):=norm (s.keep (h.liveOut rid))
def formAt (n:NS):List NS→Option Nat
 | []=>none
 | T::l=>if n.eq T then some 0 else (formAt n l).map (·+1)
def formsOf (h:Hint) (rid:Nat):List St→List NS→List NS
 | [],acc=>acc
 | s::l,acc=>match meetOut h rid s with
  | some (_,n)=>match formAt n acc with
   | some _=>formsOf h rid l acc
   | none=>formsOf h rid l (acc++[n])
  | none=>formsOf h rid l acc
def anyEnd (h:Hint) (rid:Nat) (Ts:List NS) (s:St):Tr :=
 match meetOut h rid s with
 | some (vs,n)=>match formAt n Ts with
  | some i=>.join (.jump 0 vs) (.leaf (.exit i) s)
  | none=>.bad
 | none=>.bad
def anyRegion (c:Cx) (fn:FuncId) (inl:Inl) (rid:Nat) (ops:Array Oper) (s:St):Tr :=
 if Region.noSelect ops&&ancOk ops (ancs ops) then
  let Ts:=formsOf (c.hint fn) rid (anyOps c fn rid inl ops (ancs ops) false (fun s'=>.leaf .normal s') ops.size 0 (Array.replicate ops.size false) s).normals []
  (anyOps c fn rid inl ops (ancs ops) true (anyEnd (c.hint fn) rid Ts) ops.size 0 (Array.replicate ops.size false) s).bind fun x _=>match x with
   | .exit i=>match Ts[i]? with
    | some T=>.leaf .normal (T.toSt T.base)
    | none=>.bad
   | _=>.bad
 else .bad
def firstRegion:Code→Option Nat
 | .region id _ _=>some id
 | .seq a b=>match firstRegion a with
  | some k=>some k
  | none=>firstRegion b
 | .block _ b=>firstRegion b
 | .loop b=>firstRegion b
 | _=>none
def symCode (c:Cx) (fn:FuncId) (inl:Inl):Code→St→Tr
 | .skip,s=>.leaf .normal s
 | .label _,s=>.leaf .normal s
 | .ret,s=>.leaf .ret s
 | .exit id,s=>.leaf (.exit id) s
 | .seq a b,s =>
  let ta:=symCode c fn inl a s
  match ta.normals with
  | []=>ta
  | [_]=>ta.bind fun x s'=>match x with
   | .normal=>symCode c fn inl b s'
   | x=>.leaf x s'
  | s1::_ =>
   match (firstRegion b).filter fun k=>!(c.hint fn).dup.contains k with
   | none=>ta.bind fun x s'=>match x with
    | .normal=>symCode c fn inl b s'
    | x=>.leaf x s'
   | some k =>
    match meetAt (c.hint fn) k s1 with
    | some (_,T)=>.join (ta.toJumps (c.hint fn) k T 0) (symCode c fn inl b (T.toSt T.base))
    | none=>.bad
 | .cond x a b,s =>
  match s.get x with
  | .a (.x .bool e) =>
   match litB e with
   | some true=>symCode c fn inl a s
   | some false=>symCode c fn inl b s
   | none=>.ite e (symCode c fn inl a (s.asm e true)) (symCode c fn inl b (s.asm e false))
  | _=>.bad
 | .block id b,s=>(symCode c fn inl b s).bind fun x s' =>
  match x with
  | .exit j=>if j=id then .leaf .normal s' else .leaf (.exit j) s'
  | x=>.leaf x s'
 | .loop b,s =>
  match firstRegion b with
  | none=>.bad
  | some k =>
   match meetAt (c.hint fn) k s with
   | some (vs,T)=>.loop vs ((symCode c fn inl b (T.toSt T.base)).toJumps (c.hint fn) k T 0)
   | none=>.bad
 | .region id ops false,s=>symOps c fn id inl ops (fun s'=>.leaf .normal { s' with base:=s'.base+64 * ops.size }) 0 ops.toList s
 | .region id ops true,s =>
  match orderOf c ops with
  | some l=>symOps c fn id inl ops (fun s'=>.leaf .normal { s' with base:=s'.base+64 * ops.size }) 0 l s
  | none=>anyRegion c fn inl id ops s
 | _,_=>.bad
def resSV (P:Program) (s:St):ResultVar→Option SV
 | .tmp t=>s.cur[t]?
 | .cell addr ty =>
  match s.cur.getD addr (.a .no),isAggT P ty,P.info? ty with
  | .a (.ptr id j),some g,some i =>
   match s.heap id with
   | some (.box l)=>part l g j i.size
   | _=>none
  | _,_,_=>none
def resSVs (P:Program) (s:St):List ResultVar→Option (List SV)
 | []=>some []
 | r::l =>
  match resSV P s r,resSVs P s l with
  | some v,some vs=>some (v::vs)
  | _,_=>none
def symInl (c:Cx):Nat→Inl
 | 0=>fun _ _ _ _=>.bad
 | n+1=>fun f args s k =>
  match c.P.funcs[f]? with
  | some fn =>
   match fn.body with
   | some b =>
    if args.length ≤ fn.ntmps ∧ fn.name ≠ "runtime.NumGoroutine" then
     (symCode c f (symInl c n) b ⟨args++List.replicate (fn.ntmps - args.length) (.a .un),s.cur::s.stk,s.heap,s.base,s.np,s.kp⟩).bind fun x s' =>
      match x,s'.stk with
      | .exit _,_=>.bad
      | _,cur::stk =>
       match resSVs c.P s' fn.results.toList with
       | some l=>match single l with
        | some v=>k v ⟨cur,stk,s'.heap,s'.base,s'.np,s'.kp⟩
        | none=>.bad
       | none=>.bad
      | _,[]=>.bad
    else .bad
   | none=>.bad
  | none=>.bad
def finish (c:Cx) (g:Sig) (results:List ResultVar) (s:St):Option (List (E .bool)×List AE) :=
 match resSVs c.P s results with
 | some l =>
  match matchShs s.heap 0 1000 g.rs l,matchShs s.heap (shN g.rs) 0 (backShs g.ps) (pinSVs 0 (backShs g.ps)) with
  | some a,some b=>if (a.add b).ok&&decide (shPins g.ps≤1000) then some ((a.add b).gs,(a.add b).es) else none
  | _,_=>none
 | none=>none
def symFn (c:Cx) (f:FuncId):Option Tr :=
 match c.P.funcs[f]?,c.sg f with
 | some fn,some g =>
  match fn.body with
  | some b =>
   if g.ps.length ≤ fn.ntmps ∧ shN g.ps ≤ 90000 ∧ fn.name ≠ "runtime.NumGoroutine" then
    some ((symCode c f (symInl c 12) b (g.init fn.ntmps)).bind fun x s =>
     match x with
     | .exit _=>.bad
     | _=>match finish c g fn.results.toList s with
      | some (gs,vs)=>.guards gs (.ret vs)
      | none=>.bad)
   else none
  | none=>none
 | _,_=>none
end Go.Sm
namespace Go.Sm
set_option linter.unusedVariables false
section
variable {w w':World} {M M':Nat→Prop}
theorem OwnV.cells {v:Value} {o:Option Nat} {sz n:Nat} {xs:List Value} (h:OwnV w v o sz n xs) {p:Addr} {n' c':Nat} (hv:v=.slice (some p) n' c') (h0:0<n') :
  o=some p.block∧p.spot=none∧n'=n∧n≤c'∧∀k u,xs[k]?=some u→cell w p.block (p.off+k)=some u:=by
 obtain ⟨h1,h2⟩:=h
 rcases h2 with ⟨x,h2,_⟩ | ⟨b,off,cap,cur,ety,a1,a2,a3,a4,a5,a6,a7⟩
 ·rw [h2] at hv;simp at hv;omega
 ·rw [a2] at hv
  simp only [Value.slice.injEq,Option.some.injEq] at hv
  obtain ⟨rfl,rfl,rfl⟩:=hv
  refine ⟨a1,rfl,rfl,a4,fun k u hu=>?_⟩
  rw [cell_eq,a3]
  rw [←a7] at hu
  have hk:k<n * sz:=by
   have:=(List.getElem?_eq_some_iff.1 hu).1
   simp only [List.length_take] at this
   omega
  rw [List.getElem?_take_of_lt hk,List.getElem?_drop] at hu
  simpa using hu
theorem OwnV.some_of_pos {v:Value} {o:Option Nat} {sz n:Nat} {xs:List Value} (h:OwnV w v o sz n xs) (hn:0<n) :
  ∃p c,v=.slice (some p) n c∧o=some p.block∧p.spot=none∧n≤c:=by
 rcases h.2 with ⟨_,_,h2,_⟩ | ⟨b,off,cap,cur,ety,a1,a2,a3,a4,_⟩
 ·omega
 ·exact ⟨_,_,a2,a1,rfl,a4⟩
theorem OwnV.shape {v:Value} {o:Option Nat} {sz n:Nat} {xs:List Value} (h:OwnV w v o sz n xs) :
  ∃a c,v=.slice a n c∧n≤c∧(a=none→c=0∧n=0)∧(o=none→n=0∧c=0):=by
 rcases h.2 with ⟨x,h1,h2,h3⟩ | ⟨b,off,cap,cur,ety,a1,a2,a3,a4,_⟩
 ·subst h2;exact ⟨x,0,h1,Nat.le_refl _,fun _=>⟨rfl,rfl⟩,fun _=>⟨rfl,rfl⟩⟩
 ·exact ⟨_,_,a2,a4,by simp,by simp [a1]⟩
theorem DRep.rep:∀{t:Ty} {F:List Nat} {d:t.D} {us:List Value},DRep w t none F d us→(∀b∈F,¬M b)→Rep w M t d us:=by
 intro t
 induction t with
 | int k=>intro F d us h _;simp only [DRep,Rep] at *;simpa using h.2
 | bool=>intro F d us h _;simp only [DRep,Rep] at *;simpa using h.2
 | str=>intro F d us h _;simp only [DRep,Rep] at *;simpa using h.2
 | sl c e ih =>
  intro F d us h hM
  simp only [DRep] at h
  rw [if_neg (by simp)] at h
  obtain ⟨v,o,xs,Fs,rfl,h2,h3,h4,h5,h6⟩:=h
  obtain ⟨a,cp,hv,hle,hz,_⟩:=h2.shape
  refine ⟨a,cp,by rw [hv],hle,fun hc=>?_,fun ha=>(hz ha).1,fun p hp hne=>?_⟩
  ·rw [←h3 hc,hv]
   constructor
   ·intro ha
    obtain ⟨q1,q2⟩:=hz ha
    rw [ha,q1,q2]
   ·intro ha
    simp only [Value.slice.injEq] at ha
    exact ha.1
  subst hp
  obtain ⟨ho,hs,_,_,hcell⟩:=h2.cells hv (List.length_pos_iff.2 hne)
  refine ⟨hs,hM _ (by rw [h4,ho];simp),fun i hi=>?_⟩
  obtain ⟨cs,a1,a2,a3⟩:=h6 i hi
  exact ⟨cs,a1,fun j u hu=>hcell _ _ (a2 j u hu),ih a3 fun b hb=>hM b (by rw [h4];exact List.mem_append_right _ (getD_mem_flatten hb))⟩
 | pr s t ihs iht =>
  intro F d us h hM
  simp only [DRep] at h
  obtain ⟨F1,F2,l,r,h1,h2,h3,h4⟩:=h
  exact ⟨l,r,h2,ihs h3 fun b hb=>hM b (by rw [h1];exact List.mem_append_left _ hb),iht h4 fun b hb=>hM b (by rw [h1];exact List.mem_append_right _ hb)⟩
theorem Row.rep {dp:Bool} {t:Ty} {F:List Nat} {d:t.D} {us:List Value} (h:Row w M dp t none F d us) (hk:Kept w M w M') (hF:∀b∈F,¬M' b):Rep w M' t d us:=by
 unfold Row at h
 split at h
 ·exact h.rep hF
 ·exact h.2.keep hk
theorem OwnA.rep {g:G} {dp:Bool} {t:Ty} {ds:List t.D} (h:OwnA w M g dp t (fun _=>none) ds) (hk:Kept w M w M') (hF:∀b∈g.foot,¬M' b):Rep w M' (.sl false t) ds [g.val]:=by
 obtain ⟨o,xs,Fs,h1,h2,h3,h4⟩:=h
 obtain ⟨a,cp,hv,hle,hz,_⟩:=h1.shape
 refine ⟨a,cp,by rw [hv],hle,by simp,fun ha=>(hz ha).1,fun p hp hne=>?_⟩
 subst hp
 obtain ⟨ho,hs,_,_,hcell⟩:=h1.cells hv (List.length_pos_iff.2 hne)
 refine ⟨hs,hF _ (by rw [h2,ho];simp),fun i hi=>?_⟩
 obtain ⟨us,a1,a2,a3⟩:=h4 i hi
 exact ⟨us,a1,fun j u hu=>hcell _ _ (a2 j u hu),a3.rep hk fun b hb=>hF b (by rw [h2];exact List.mem_append_right _ (getD_mem_flatten hb))⟩
theorem projE_rep:∀{t:Ty} {j:Nat} {e:E t} {a:AE} {r:Env} {us:List Value},projE t j e=some a→Rep w M t (den e r) us→∃u,us[j]?=some u∧Rep w M a.1 (den a.2 r) [u]:=by
 intro t
 induction t with
 | int k=>intro j e a r us hp h;cases j<;>simp [projE] at hp;subst hp;simp only [Rep] at h;subst h;exact ⟨_,rfl,rfl⟩
 | bool=>intro j e a r us hp h;cases j<;>simp [projE] at hp;subst hp;simp only [Rep] at h;subst h;exact ⟨_,rfl,rfl⟩
 | str=>intro j e a r us hp h;cases j<;>simp [projE] at hp;subst hp;simp only [Rep] at h;subst h;exact ⟨_,rfl,rfl⟩
 | sl c e' ih =>
  intro j e a r us hp h
  cases j<;>simp [projE] at hp
  subst hp
  have h0:=h
  obtain ⟨x,cp,rfl,_⟩:=h0
  exact ⟨_,rfl,h⟩
 | pr s t ihs iht =>
  intro j e a r us hp h
  obtain ⟨l,u,rfl,hl,hr⟩:=h
  simp only [projE] at hp
  have hlen:=hl.len
  split at hp
  ·rename_i hj
   obtain ⟨v,hv,hrep⟩:=ihs (e:=.o1 (.fst s t) e) hp hl
   exact ⟨v,by rw [List.getElem?_append_left (by omega)];exact hv,hrep⟩
  ·rename_i hj
   obtain ⟨v,hv,hrep⟩:=iht (e:=.o1 (.snd s t) e) hp hr
   exact ⟨v,by rw [List.getElem?_append_right (by omega),hlen];exact hv,hrep⟩
theorem projE_vs {N:Nat→Prop}:∀{t:Ty} {j:Nat} {e:E t} {a:AE},projE t j e=some a→e.vs N→a.2.vs N:=by
 intro t
 induction t with
 | pr s t ihs iht =>
  intro j e a hp h
  simp only [projE] at hp
  split at hp
  ·exact ihs hp h
  ·exact iht hp h
 | _=>intro j e a hp h;cases j<;>simp [projE] at hp;subst hp;exact h
end
theorem killA_uses {id:Nat} {a:Atom}:(killA id a).uses id=false:=by
 unfold killA
 cases h:a.uses id
 ·exact h
 ·rfl
section
variable {bd:Bd} {N:Nat→Prop} {s:St} {r:Env} {g:Nat→G} {tm:Array Value} {st:List (Array Value)} {w:World}
theorem Mt_mono {h h':Nat→Option Blk} {g:Nat→G} (hh:∀id B,h' id=some B→∃B',h id=some B') {b:Nat} (hb:Mt bd.Z h' g b):Mt bd.Z h g b:=by
 rcases hb with ⟨id,B,h1,h2⟩ | hz
 ·obtain ⟨B',h3⟩:=hh id B h1
  exact .inl ⟨id,B',h3,h2⟩
 ·exact .inr hz
theorem R.turn (h:R bd N s r g tm st w) (f:Atom→Atom) (h':Nat→Option Blk) (hsub:∀id B,h' id=some B→∃B',s.heap id=some B')
  (hf:∀a v,a.ok N s.heap→ARep w (Mt bd.Z s.heap g) g r a v→ARep w (Mt bd.Z h' g) g r (f a) v) (hfn:∀a,a.ok N s.heap→(f a).ok N h')
  (heap:∀id B,h' id=some B→BRep w (Mt bd.Z h' g) g r id B) (kpl:∀c∈bd.kp,∃l,h' c.1=some (.box l)) (nheap:∀id B,h' id=some B→B.ok N h') :
  R bd N ⟨s.cur.map (SV.map f),s.stk.map (List.map (SV.map f)),h',s.base,s.np,s.kp⟩ r g tm st w :=
 h.step f h' s.base hf hfn heap
  (fun id id' B B' b a1 a2 a3 a4=>by obtain ⟨C,hC⟩:=hsub id B a1;obtain ⟨C',hC'⟩:=hsub id' B' a2;exact h.inj id id' C C' b hC hC' a3 a4)
  (fun id B a1=>by obtain ⟨C,hC⟩:=hsub id B a1;exact h.nodup id C hC)
  (fun id B a1=>by obtain ⟨C,hC⟩:=hsub id B a1;exact h.own id C hC)
  (fun id B a1=>by obtain ⟨C,hC⟩:=hsub id B a1;exact h.lt id C hC)
  h.world h.kept (fun _ _=>⟨rfl,rfl⟩) kpl nheap
theorem Kept.same {h h':Nat→Option Blk} (hsub:∀id B,h' id=some B→∃B',h id=some B'):Kept w (Mt bd.Z h g) w (Mt bd.Z h' g) :=
 ⟨fun _ _ _=>rfl,fun _ _ hb=>Mt_mono hsub hb⟩
theorem Etriv:∀{t:Ty} (e:E t),e.vs fun _=>True:=by
 intro t e
 induction e<;>simp_all [E.vs]
theorem ARep.same {M M':Nat→Prop} (hk:Kept w M w M') {a:Atom} {v:Value} (h:ARep w M g r a v):ARep w M' g r a v :=
 ARep.keep (N:=fun _=>True) hk (fun _ _=>rfl) (by cases a<;>simp only [Atom.vs]<;>first | trivial | exact Etriv _ | exact ⟨Etriv _,Etriv _⟩) (fun _ _=>⟨rfl,rfl⟩) (fun _ _ _=>⟨rfl,fun _ _ _ _ _=>rfl⟩) h
theorem R.turnAll (h:R bd N s r g tm st w) (f:Atom→Atom) (D:Nat→Bool)
  (hf:∀a v,a.ok N s.heap→ARep w (Mt bd.Z s.heap g) g r a v→ARep w (Mt bd.Z (fun k=>bif D k then none else (s.heap k).map (Blk.map f)) g) g r (f a) v)
  (hfn:∀a,a.ok N s.heap→(f a).vs N∧∀i,(f a).uses i=true→a.uses i=true∧D i=false) (hD:∀id l,D id=true→s.heap id=some (.box l)→False) :
  R bd N ⟨s.cur.map (SV.map f),s.stk.map (List.map (SV.map f)),fun k=>bif D k then none else (s.heap k).map (Blk.map f),s.base,s.np,s.kp⟩ r g tm st w:=by
 have hsub:∀i B,(bif D i then none else (s.heap i).map (Blk.map f))=some B→∃B',s.heap i=some B'∧D i=false∧B=B'.map f:=by
  intro i B hB
  cases hi:D i<;>simp [hi] at hB
  obtain ⟨C,hC,rfl⟩:=hB
  exact ⟨C,hC,rfl,rfl⟩
 have hok:∀a,a.ok N s.heap→(f a).ok N (fun k=>bif D k then none else (s.heap k).map (Blk.map f)):=by
  intro a ha
  obtain ⟨h1,h2⟩:=hfn a ha
  refine Atom.ok_mk h1 fun i hi=>?_
  obtain ⟨h3,h4⟩:=h2 i hi
  have:=ha.live h3
  simp only [h4,cond_false,Option.isSome_map]
  exact this
 refine h.turn f _ (fun i B hB=>⟨_,(hsub i B hB).choose_spec.1⟩) hf hok ?_ ?_ ?_
 ·intro i B hB
  obtain ⟨C,hC,_,rfl⟩:=hsub i B hB
  exact BRep.keep (N:=N) (Kept.same fun i B hB=>⟨_,(hsub i B hB).choose_spec.1⟩) (fun _ _=>rfl) hf (h.nheap i C hC) rfl (fun _ _=>rfl) (h.heap i C hC)
 ·intro c hc
  obtain ⟨_,l,hl⟩:=h.kpl c hc
  cases hd:D c.1 with
  | true=>exact (hD c.1 l hd hl).elim
  | false=>exact ⟨l.map f,by simp [hl,Blk.map]⟩
 ·intro i B hB
  obtain ⟨C,hC,_,rfl⟩:=hsub i B hB
  have:=h.nheap i C hC
  cases C with
  | box l=>intro a ha;obtain ⟨b,hb,rfl⟩:=List.mem_map.1 ha;exact hok b (this b hb)
  | arr dp t e=>exact this
  | hole t e k i j b=>exact ⟨this.1,this.2.1,hok b this.2.2⟩
  | lent t e k i b=>exact ⟨this.1,this.2.1,hok b this.2.2⟩
theorem R.kill (h:R bd N s r g tm st w) (id:Nat) (hb:∀l,s.heap id≠some (.box l)):R bd N (s.kill id) r g tm st w:=by
 refine h.turnAll (killA id) (fun k=>k==id) ?_ ?_ ?_
 ·intro a v ha hv
  unfold killA
  cases a.uses id
  ·refine hv.same (Kept.same fun i B hB=>?_)
   cases hi:(i==id)<;>simp [hi] at hB
   obtain ⟨C,hC,_⟩:=hB
   exact ⟨C,hC⟩
  ·trivial
 ·intro a ha
  unfold killA
  cases hu:a.uses id
  ·refine ⟨ha.vs,fun i hi=>⟨hi,?_⟩⟩
   simp only [beq_eq_false_iff_ne,ne_eq]
   rintro rfl
   simp [hu] at hi
  ·exact ⟨trivial,fun i hi=>by simp [Atom.uses] at hi⟩
 ·intro i l hi hl
  simp only [beq_iff_eq] at hi
  subst hi
  exact hb l hl
theorem R.unnest (h:R bd N s r g tm st w) (id:Nat):R bd N (s.unnest id) r g tm st w:=by
 have:=h.turnAll (nstA id) (fun _=>false) (by
  intro a v ha hv
  unfold nstA
  cases a.nst&&a.uses id
  ·refine hv.same (Kept.same fun i B hB=>?_)
   simp at hB
   obtain ⟨C,hC,_⟩:=hB
   exact ⟨C,hC⟩
  ·trivial) (by
  intro a ha
  unfold nstA
  cases a.nst&&a.uses id
  ·exact ⟨ha.vs,fun i hi=>⟨hi,rfl⟩⟩
  ·exact ⟨trivial,fun i hi=>by simp [Atom.uses] at hi⟩) (by simp)
 exact this
theorem den_idx {c:Bool} {t:Ty} {k:IntKind} (l:E (.sl c t)) (i:E (.int k)) (r:Env):den (.o2 (.idx c t k) l i) r=(den l r:List t.D).getD (Int.toNat (den i r)) t.z:=rfl
theorem getD_of_lt {α:Type} {l:List α} {i:Nat} {d:α} (h:i<l.length):l.getD i d=l[i]:=by
 simp [List.getD_eq_getElem?_getD,h]
theorem nref_x' {M':Nat→Prop} {id:Nat} {t:Ty} {e:E (.sl false t)} {dp:Bool} {k:IntKind} {i:E (.int k)} {j:Nat} {a:AE} {v:Value} {o:Option Nat} {xs:List Value} {Fs:List (List Nat)}
  (b1:OwnV w (g id).val o t.size (den e r:List t.D).length xs) (b4:∀i (h:i<(den e r:List t.D).length),∃us,us.length=t.size∧(∀j u,us[j]?=some u→xs[i * t.size+j]?=some u)∧Row w (Mt bd.Z s.heap g) dp t none (Fs.getD i []) (den e r:List t.D)[i] us)
  (hk:Kept w (Mt bd.Z s.heap g) w M') (hF:∀b∈Fs.flatten,¬M' b)
  (hp:projE t j (.o2 (.idx false t k) e i)=some a) (hv:ARep w (Mt bd.Z s.heap g) g r (.nref id t k i j) v):Rep w M' a.1 (den a.2 r) [v]:=by
 obtain ⟨p,n,c,h1,h2,h3,h4,h5⟩:=hv
 obtain ⟨ho,hs,hn,_,hcell⟩:=b1.cells h1 (Nat.lt_of_le_of_lt (Nat.zero_le _) h4)
 subst hn
 obtain ⟨us,a1,a2,a3⟩:=b4 _ h4
 have hrep:=a3.rep hk fun b hb=>hF b (getD_mem_flatten hb)
 have hd:den (.o2 (.idx false t k) e i) r=(den e r:List t.D)[Int.toNat (den i r)]:=by rw [den_idx];exact getD_of_lt h4
 rw [←hd] at hrep
 obtain ⟨u,hu,hr⟩:=projE_rep hp hrep
 have:=hcell _ _ (a2 j u hu)
 rw [this] at h5
 cases h5
 exact hr
theorem nref_x {M':Nat→Prop} {id:Nat} {t:Ty} {e:E (.sl false t)} {dp:Bool} {k:IntKind} {i:E (.int k)} {j:Nat} {a:AE} {v:Value}
  (hB:OwnA w (Mt bd.Z s.heap g) (g id) dp t (fun _=>none) (den e r)) (hk:Kept w (Mt bd.Z s.heap g) w M') (hF:∀b∈(g id).foot,¬M' b)
  (hp:projE t j (.o2 (.idx false t k) e i)=some a) (hv:ARep w (Mt bd.Z s.heap g) g r (.nref id t k i j) v):Rep w M' a.1 (den a.2 r) [v]:=by
 obtain ⟨o,xs,Fs,b1,b2,b3,b4⟩:=hB
 exact nref_x' b1 b4 hk (fun b hb=>hF b (by rw [b2];exact List.mem_append_right _ hb)) hp hv
theorem Rep.cut {M:Nat→Prop} {t:Ty} {c0:Bool} {ds:List t.D} {x:Option Addr} {n c:Nat} (h:Rep w M (.sl c0 t) ds [.slice x n c]) {l k m:Nat} (h1:l≤k) (h2:k≤ds.length) (h3:k≤m) (h4:m≤c) :
  Rep w M (.sl false t) ((ds.take k).drop l) [.slice (if m=l then x else x.map (·.add (l * t.size))) (k - l) (m - l)]:=by
 obtain ⟨x',c',e1,e2,e3,e4,e5⟩:=h
 simp only [List.cons.injEq,Value.slice.injEq,and_true] at e1
 obtain ⟨rfl,rfl,rfl⟩:=e1
 have hlen:((ds.take k).drop l).length=k - l:=by rw [List.length_drop,List.length_take,Nat.min_eq_left h2]
 refine ⟨_,m - l,by rw [hlen],by rw [hlen];omega,by simp,?_,?_⟩
 ·intro hx
  split at hx
  ·omega
  ·simp only [Option.map_eq_none_iff] at hx
   have:=e4 hx;omega
 ·intro p hp hne
  have hpos:0<k - l:=by rw [←hlen];exact List.length_pos_iff.2 hne
  have hds:ds≠[]:=by intro hh;rw [hh] at hne;simp at hne
  rw [if_neg (by omega)] at hp
  obtain ⟨q,hq,rfl⟩:=Option.map_eq_some_iff.1 hp
  obtain ⟨f1,f2,f3⟩:=e5 q hq hds
  rw [add_eq f1]
  refine ⟨rfl,f2,fun i hi=>?_⟩
  rw [hlen] at hi
  obtain ⟨us,a1,a2,a3⟩:=f3 (l+i) (by omega)
  refine ⟨us,a1,fun j u hu=>?_,by simpa using a3⟩
  have:=a2 j u hu
  rw [Nat.add_mul] at this
  have e:q.off+l * t.size+(i * t.size+j)=q.off+(l * t.size+i * t.size+j):=by omega
  show cell w q.block (q.off+l * t.size+(i * t.size+j))=some u
  rw [e]
  exact this
theorem frzA_vs {id:Nat} {t:Ty} {e:E (.sl false t)} (he:e.vs N) (a:Atom) (h:a.vs N):(frzA id t e a).vs N:=by
 unfold frzA
 cases a.uses id
 ·exact h
 ·cases a with
  | ref i=>exact he
  | eptr i t' k ix j =>
   simp only [cond_true]
   split
   ·exact ⟨he,h⟩
   ·trivial
  | nref i t' k ix j =>
   simp only [cond_true]
   split
   ·split
    ·rename_i hp;exact projE_vs hp ⟨he,h⟩
    ·trivial
   ·trivial
  | vw i t' lo hi =>
   simp only [cond_true]
   split
   ·exact ⟨⟨he,h.2⟩,h.1⟩
   ·trivial
  | _=>trivial
theorem frzA_uses {id:Nat} {t:Ty} {e:E (.sl false t)} {a:Atom} {i:Nat} (h:(frzA id t e a).uses i=true):a.uses i=true∧i≠id:=by
 unfold frzA at h
 cases hu:a.uses id
 ·rw [hu] at h
  refine ⟨h,?_⟩
  rintro rfl
  simp only [cond_false] at h
  rw [hu] at h
  cases h
 ·rw [hu] at h
  cases a<;>simp only [cond_true] at h<;>(repeat' split at h)<;>simp [Atom.uses] at h
theorem R.freeze (h:R bd N s r g tm st w) (id:Nat):R bd N (s.freeze id) r g tm st w:=by
 unfold St.freeze
 split
 case h_2=>exact h
 rename_i dp t e hid
 have hsub:∀i B,(bif i==id then none else (s.heap i).map (Blk.map (frzA id t e)))=some B→∃B',s.heap i=some B':=by
  intro i B hB
  cases hi:(i==id)<;>simp [hi] at hB
  obtain ⟨C,hC,_⟩:=hB
  exact ⟨C,hC⟩
 have hF:∀b∈(g id).foot,¬Mt bd.Z (fun i=>bif i==id then none else (s.heap i).map (Blk.map (frzA id t e))) g b:=by
  rintro b hb (⟨i,B,hB,hb'⟩ | hz)
  ·obtain ⟨C,hC⟩:=hsub i B hB
   have:=h.inj i id C _ b hC hid hb' hb
   subst this
   simp at hB
  ·exact h.notZ hid hb hz
 have hid':=h.heap id _ hid
 have hf:∀a v,a.ok N s.heap→ARep w (Mt bd.Z s.heap g) g r a v→ARep w (Mt bd.Z (fun i=>bif i==id then none else (s.heap i).map (Blk.map (frzA id t e))) g) g r (frzA id t e a) v:=by
  intro a v ha hv
  unfold frzA
  cases hu:a.uses id
  ·exact hv.same (Kept.same hsub)
  ·cases a with
   | ref i =>
    simp only [Atom.uses,beq_iff_eq] at hu
    subst hu
    simp only [cond_true,ARep] at hv ⊢
    rw [hv]
    exact OwnA.rep hid' (Kept.same hsub) hF
   | eptr i t' k ix j =>
    simp only [Atom.uses,beq_iff_eq] at hu
    subst hu
    simp only [cond_true]
    split
    ·rename_i ht
     subst ht
     obtain ⟨p,n,c,h1,h2,h3,h4,h5⟩:=hv
     have hr:=OwnA.rep hid' (Kept.same hsub) hF
     rw [h1] at hr
     exact ⟨p,n,c,hr,h2,h3,h4,h5⟩
    ·trivial
   | nref i t' k ix j =>
    simp only [Atom.uses,beq_iff_eq] at hu
    subst hu
    simp only [cond_true]
    split
    ·rename_i ht
     subst ht
     split
     ·rename_i a hp
      exact nref_x hid' (Kept.same hsub) hF hp hv
     ·trivial
    ·trivial
   | vw i t' lo hi =>
    simp only [Atom.uses,beq_iff_eq] at hu
    subst hu
    simp only [cond_true]
    split
    ·rename_i ht
     subst ht
     obtain ⟨p,n,c,l,k,z1,z2,z3,z4,z5,z6⟩:=hv
     have hr:=OwnA.rep hid' (Kept.same hsub) hF
     rw [z1] at hr
     have hr0:=hr
     obtain ⟨x',c',q1,q2,q3,q4,q5⟩:=hr
     simp only [List.cons.injEq,Value.slice.injEq,and_true] at q1
     obtain ⟨rfl,rfl,rfl⟩:=q1
     have hd:(den (.o2 (.drop t' .i64) (.o2 (.take t' .i64) e hi) lo) r:List t'.D)=((den e r:List t'.D).take k).drop l:=by
      show List.drop (Int.toNat (den lo r)) (List.take (Int.toNat (den hi r)) (den e r:List t'.D))=_
      rw [z4,z5];simp
     show Rep w _ (.sl false t') (den (.o2 (.drop t' .i64) (.o2 (.take t' .i64) e hi) lo) r) [v]
     rw [hd,z6]
     exact Rep.cut hr0 z2 z3 (Nat.le_trans z3 q2) (Nat.le_refl _)
    ·trivial
   | _=>trivial
 refine h.turnAll (frzA id t e) (fun k=>k==id) hf (fun a ha=>⟨frzA_vs (h.nheap id _ hid) a ha.vs,fun i hi=>?_⟩) ?_
 ·obtain ⟨h1,h2⟩:=frzA_uses hi
  exact ⟨h1,by simpa using h2⟩
 ·intro i l hi hl
  simp only [beq_iff_eq] at hi
  subst hi
  rw [hid] at hl
  cases hl
theorem shlA_uses {id:Nat} {t:Ty} {e:E (.sl false t)} {a:Atom} {i:Nat} (h:(shlA id t e a).uses i=true):a.uses i=true∧(i=id→a.nst=false):=by
 unfold shlA at h
 cases hu:a.nst&&a.uses id
 ·rw [hu] at h
  refine ⟨h,?_⟩
  rintro rfl
  simp only [cond_false] at h
  rw [h] at hu
  simpa using hu
 ·rw [hu] at h
  cases a<;>simp only [cond_true] at h<;>(repeat' split at h)<;>simp [Atom.uses] at h
theorem shlA_vs {id:Nat} {t:Ty} {e:E (.sl false t)} (he:e.vs N) (a:Atom) (h:a.vs N):(shlA id t e a).vs N:=by
 unfold shlA
 cases a.nst&&a.uses id
 ·exact h
 ·cases a with
  | nref i t' k ix j =>
   simp only [cond_true]
   split
   ·split
    ·rename_i hp;exact projE_vs hp ⟨he,h⟩
    ·trivial
   ·trivial
  | _=>trivial
theorem R.shallow (h:R bd N s r g tm st w) (id:Nat):∃g',(∀k,(g' k).val=(g k).val∧(g' k).blk=(g k).blk)∧R bd N (s.shallow id) r g' tm st w:=by
 unfold St.shallow
 split
 case h_2=>exact ⟨g,fun _=>⟨rfl,rfl⟩,h⟩
 rename_i t e hid
 obtain ⟨o,xs,Fs,b1,b2,b3,b4⟩:=h.heap id _ hid
 have hnd:=h.nodup id _ hid
 rw [b2] at hnd
 refine ⟨fun k=>if k=id then ⟨(g id).blk,(g id).val,o.toList⟩ else g k,fun k=>by by_cases hk:k=id<;>simp [hk],?_⟩
 have hsub:∀i B,(bif i==id then some (.arr false t e) else (s.heap i).map (Blk.map (shlA id t e)))=some B→(i=id∧B=.arr false t e)∨(i≠id∧∃B',s.heap i=some B'∧B=B'.map (shlA id t e)):=by
  intro i B hB
  cases hi:(i==id)<;>simp only [hi,cond_false,cond_true] at hB
  ·obtain ⟨C,hC,rfl⟩:=Option.map_eq_some_iff.1 hB
   exact .inr ⟨by simpa using hi,C,hC,rfl⟩
  ·cases hB;exact .inl ⟨by simpa using hi,rfl⟩
 have hfoot:∀i b,b∈((fun k=>if k=id then (⟨(g id).blk,(g id).val,o.toList⟩:G) else g k) i).foot→b∈(g i).foot:=by
  intro i b hb
  by_cases hi:i=id
  ·subst hi;simp only [if_true] at hb;rw [b2];exact List.mem_append_left _ hb
  ·simp only [hi,if_false] at hb;exact hb
 have hlive:∀i B,(bif i==id then some (.arr false t e) else (s.heap i).map (Blk.map (shlA id t e)))=some B→∃B',s.heap i=some B':=by
  intro i B hB
  rcases hsub i B hB with ⟨rfl,_⟩ | ⟨_,C,hC,_⟩
  ·exact ⟨_,hid⟩
  ·exact ⟨C,hC⟩
 have hk:Kept w (Mt bd.Z s.heap g) w (Mt bd.Z (fun k=>bif k==id then some (.arr false t e) else (s.heap k).map (Blk.map (shlA id t e))) (fun k=>if k=id then ⟨(g id).blk,(g id).val,o.toList⟩ else g k)):=by
  refine ⟨fun _ _ _=>rfl,?_⟩
  rintro b _ (⟨i,B,hB,hb⟩ | hz)
  ·obtain ⟨C,hC⟩:=hlive i B hB
   exact .inl ⟨i,C,hC,hfoot i b hb⟩
  ·exact .inr hz
 have hF:∀b∈Fs.flatten,¬Mt bd.Z (fun k=>bif k==id then some (.arr false t e) else (s.heap k).map (Blk.map (shlA id t e))) (fun k=>if k=id then ⟨(g id).blk,(g id).val,o.toList⟩ else g k) b:=by
  rintro b hb (⟨i,B,hB,hb'⟩ | hz)
  ·rcases hsub i B hB with ⟨rfl,_⟩ | ⟨hi,C,hC,_⟩
   ·simp only [if_true] at hb'
    exact (List.nodup_append.1 hnd).2.2 b hb' b hb rfl
   ·simp only [hi,if_false] at hb'
    exact hi (h.inj i id C _ b hC hid hb' (by rw [b2];exact List.mem_append_right _ hb))
  ·exact h.notZ hid (by rw [b2];exact List.mem_append_right _ hb) hz
 have hf:∀a v,a.ok N s.heap→ARep w (Mt bd.Z s.heap g) g r a v→ARep w (Mt bd.Z (fun k=>bif k==id then some (.arr false t e) else (s.heap k).map (Blk.map (shlA id t e))) (fun k=>if k=id then ⟨(g id).blk,(g id).val,o.toList⟩ else g k)) (fun k=>if k=id then ⟨(g id).blk,(g id).val,o.toList⟩ else g k) r (shlA id t e a) v:=by
  intro a v ha hv
  unfold shlA
  cases hu:a.nst&&a.uses id
  ·refine ARep.keep hk (fun _ _=>rfl) ha.vs ?_ ?_ hv
   ·intro i hi
    by_cases hii:i=id
    ·subst hii;simp
    ·simp [hii]
   ·intro i hn hi
    have hii:i≠id:=by rintro rfl;rw [hn,hi] at hu;cases hu
    exact ⟨if_neg hii,fun _ _ _ _ _=>rfl⟩
  ·cases a with
   | nref i t' k ix j =>
    simp only [Atom.nst,Atom.uses,Bool.true_and,beq_iff_eq] at hu
    subst hu
    simp only [cond_true]
    split
    ·rename_i ht
     subst ht
     split
     ·rename_i a hp
      exact nref_x' b1 b4 hk hF hp hv
     ·trivial
    ·trivial
   | _=>trivial
 have hok:∀a,a.ok N s.heap→(shlA id t e a).ok N (fun k=>bif k==id then some (.arr false t e) else (s.heap k).map (Blk.map (shlA id t e))):=by
  intro a ha
  refine Atom.ok_mk (shlA_vs (h.nheap id _ hid) a ha.vs) fun i hi=>?_
  have:=ha.live (shlA_uses hi).1
  cases hx:(i==id)<;>simp only [cond_false,cond_true,Option.isSome_map,Option.isSome_some]
  exact this
 refine h.step (shlA id t e) _ s.base hf hok ?_ ?_ ?_ ?_ ?_ h.world ?_ ?_ ?_ ?_
 ·intro i B hB
  rcases hsub i B hB with ⟨rfl,rfl⟩ | ⟨hi,C,hC,rfl⟩
  ·refine ⟨o,xs,List.replicate (den e r:List t.D).length [],by simpa using b1,?_,by simp,fun j hj=>?_⟩
   ·have:(List.replicate (den e r:List t.D).length ([]:List Nat)).flatten=[]:=by
     generalize (den e r:List t.D).length=n
     induction n with
     | zero=>rfl
     | succ n ih=>simp [List.replicate_succ]
    rw [this];simp
   ·obtain ⟨us,a1,a2,a3⟩:=b4 j hj
    refine ⟨us,a1,a2,?_⟩
    have:=a3.rep hk fun b hb=>hF b (getD_mem_flatten hb)
    simp only [Row,Bool.false_eq_true,if_false]
    exact ⟨by simp [List.getD_eq_getElem?_getD,hj],this⟩
  ·exact BRep.keep (N:=N) hk (fun _ _=>rfl) hf (h.nheap i C hC) (if_neg hi) (fun _ _=>rfl) (h.heap i C hC)
 ·intro i j B C b hB hC hbi hbj
  obtain ⟨B',hB'⟩:=hlive i B hB
  obtain ⟨C',hC'⟩:=hlive j C hC
  exact h.inj i j B' C' b hB' hC' (hfoot i b hbi) (hfoot j b hbj)
 ·intro i B hB
  rcases hsub i B hB with ⟨rfl,rfl⟩ | ⟨hi,C,hC,rfl⟩
  ·simp only [if_true];exact (List.nodup_append.1 hnd).1
  ·simp only [hi,if_false];exact h.nodup i C hC
 ·intro i B hB b hb
  obtain ⟨C,hC⟩:=hlive i B hB
  exact h.own i C hC b (hfoot i b hb)
 ·intro i B hB b hb
  obtain ⟨C,hC⟩:=hlive i B hB
  exact h.lt i C hC b (hfoot i b hb)
 ·intro c hc
  have:=h.kept c hc
  by_cases hi:c.1=id
  ·simp only [hi,if_true];rw [hi] at this;exact this
  ·simp only [hi,if_false];exact this
 ·intro k hk
  by_cases hi:k=id
  ·subst hi;simp
  ·simp [hi]
 ·intro c hc
  obtain ⟨_,l,hl⟩:=h.kpl c hc
  have hi:c.1≠id:=by rintro hh;rw [hh,hid] at hl;cases hl
  have:(c.1==id)=false:=by simpa using hi
  exact ⟨l.map (shlA id t e),by simp only [this,cond_false,hl];rfl⟩
 ·intro i B hB
  rcases hsub i B hB with ⟨rfl,rfl⟩ | ⟨hi,C,hC,rfl⟩
  ·exact h.nheap _ _ hid
  ·have:=h.nheap i C hC
   cases C with
   | box l=>intro a ha;obtain ⟨b,hb,rfl⟩:=List.mem_map.1 ha;exact hok b (this b hb)
   | arr dp t e=>exact this
   | hole t e k i j b=>exact ⟨this.1,this.2.1,hok b this.2.2⟩
   | lent t e k i b=>exact ⟨this.1,this.2.1,hok b this.2.2⟩
theorem R.freezes (h:R bd N s r g tm st w):∀(l:List Nat),R bd N (l.foldl St.freeze s) r g tm st w:=by
 intro l
 induction l generalizing s with
 | nil=>exact h
 | cons a l ih=>exact ih (h.freeze a)
theorem R.solid (h:R bd N s r g tm st w) (x:Operand):R bd N (s.solid x) r g tm st w:=h.freezes _
theorem R.solids (h:R bd N s r g tm st w):∀(l:List Operand),R bd N (s.solids l) r g tm st w:=by
 intro l
 unfold St.solids
 induction l generalizing s with
 | nil=>exact h
 | cons a l ih=>exact ih (h.solid a)
end
section
variable {w:World}
theorem vw_rep {bd:Bd} {N:Nat→Prop} {s:St} {r:Env} {g:Nat→G} {tm:Array Value} {st:List (Array Value)} {M':Nat→Prop} (h:R bd N s r g tm st w) (hM:∀b,M' b→Mt bd.Z s.heap g b) {t:Ty} {a:Atom} {v:Value} {e:E (.sl false t)} (he:vwE s.heap t a=some e)
  (hv:ARep w (Mt bd.Z s.heap g) g r a v) (hrd:∀i∈refsOf [a],∀B,s.heap i=some B→∀x∈(g i).foot,¬M' x) :
  Rep w M' (.sl false t) (den e r) [v]∧∀id u lo hi,a=.vw id u lo hi→∃(p:Option Addr) (n c l k:Nat),(g id).val=.slice p n c∧l≤k∧k≤n∧(den lo r:Int)=l∧(den hi r:Int)=k∧(den e r:List t.D).length=k - l∧v=.slice (if c=l then p else p.map (·.add (l * t.size))) (k - l) (c - l) ∧
   ∃(e0:E (.sl false t)),Rep w M' (.sl false t) (den e0 r) [.slice p n c]:=by
 unfold vwE at he
 split at he
 case h_2=>cases he
 rename_i id u lo hi
 split at he
 case h_2=>cases he
 rename_i dp u' e0 hid
 split at he
 case isFalse=>cases he
 rename_i hh
 obtain ⟨rfl,rfl⟩:=hh
 cases he
 have hk:Kept w (Mt bd.Z s.heap g) w M':=⟨fun _ _ _=>rfl,fun b _ h=>hM b h⟩
 have hr:=OwnA.rep (h.heap id _ hid) hk (hrd id (by simp [refsOf]) _ hid)
 obtain ⟨p,n,c,l,k,z1,z2,z3,z4,z5,z6⟩:=hv
 rw [z1] at hr
 have hr0:=hr
 obtain ⟨x',c',q1,q2,q3,q4,q5⟩:=hr
 simp only [List.cons.injEq,Value.slice.injEq,and_true] at q1
 obtain ⟨rfl,rfl,rfl⟩:=q1
 have hd:(den (.o2 (.drop u .i64) (.o2 (.take u .i64) e0 hi) lo) r:List u.D)=((den e0 r:List u.D).take k).drop l:=by
  show List.drop (Int.toNat (den lo r)) (List.take (Int.toNat (den hi r)) (den e0 r:List u.D))=_
  rw [z4,z5];simp
 have hrep:Rep w M' (.sl false u) (den (.o2 (.drop u .i64) (.o2 (.take u .i64) e0 hi) lo) r) [v]:=by
  rw [hd,z6]
  exact Rep.cut hr0 z2 z3 (Nat.le_trans z3 q2) (Nat.le_refl _)
 refine ⟨hrep,?_⟩
 intro id' u2 lo' hi' ha
 cases ha
 refine ⟨p,_,c,l,k,z1,z2,z3,z4,z5,?_,z6,e0,hr0⟩
 rw [hd,List.length_drop,List.length_take,Nat.min_eq_left z3]
end
end Go.Sm
namespace Go.Sm
set_option linter.unusedVariables false
def Good (P:Program) (bd:Bd) (N:Nat→Prop) (r:Env) (st:List (Array Value)) (sem:Sem Next) (tm:Array Value) (w:World) (sv:SV) (s':St):Prop :=
 ∃v w' g',(sem.run P w=.ok (.value v) w'∨(sem.run P w=.ok .skip w'∧v=undef))∧R bd N s' r g' tm st w'∧SRep w' (Mt bd.Z s'.heap g') g' r sv v∧sv.all (Atom.ok N s'.heap)
def Ext (w w2:World):Prop:=∀b,b<w.heap.size→w2.heap[b]?=w.heap[b]?
def GoodP (P:Program) (bd:Bd) (N:Nat→Prop) (r:Env) (st:List (Array Value)) (ld:Bool) (sem:Sem Next) (tm:Array Value) (w:World) (sv:SV) (s':St):Prop :=
 ∃v g',(∀w2,(ld=true→Ext w w2)→sem.run P w2=.ok (.value v) w2)∧R bd N s' r g' tm st w∧SRep w (Mt bd.Z s'.heap g') g' r sv v∧sv.all (Atom.ok N s'.heap)
section
variable {P:Program} {bd:Bd} {N:Nat→Prop} {s:St} {r:Env} {g:Nat→G} {st:List (Array Value)} {w:World} {a:Act}
theorem GoodP.good {ld:Bool} {sem:Sem Next} {tm:Array Value} {sv:SV} {s':St} (h:GoodP P bd N r st ld sem tm w sv s'):Good P bd N r st sem tm w sv s':=by
 obtain ⟨v,g',h1,h2,h3,h4⟩:=h
 exact ⟨v,w,g',.inl (h1 w fun _ _ _=>rfl),h2,h3,h4⟩
theorem GoodP.look {ld:Bool} (h:R bd N s r g a.tmps st w) {sem:Sem Next} {v:Value} (hr:∀w2,(ld=true→Ext w w2)→sem.run P w2=.ok (.value v) w2) {sv:SV} (hv:SRep w (Mt bd.Z s.heap g) g r sv v) (hn:sv.all (Atom.ok N s.heap)) :
  GoodP P bd N r st ld sem a.tmps w sv s:=⟨v,g,hr,h,hv,hn⟩
theorem Good.look (h:R bd N s r g a.tmps st w) {sem:Sem Next} {v:Value} (hr:sem.run P w=.ok (.value v) w) {sv:SV} (hv:SRep w (Mt bd.Z s.heap g) g r sv v) (hn:sv.all (Atom.ok N s.heap)) :
  Good P bd N r st sem a.tmps w sv s:=⟨v,w,g,.inl hr,h,hv,hn⟩
theorem atomLit_rep {M:Nat→Prop} (v:Value):ARep w M g r (atomLit v) v:=by
 unfold atomLit
 split<;>simp [ARep,Rep,den]
theorem atomLit_ok {h:Nat→Option Blk} (v:Value):(atomLit v).ok N h:=by
 unfold atomLit
 split<;>simp [Atom.ok,E.vs]
theorem get_rep (h:R bd N s r g a.tmps st w) (x:Operand):SRep w (Mt bd.Z s.heap g) g r (s.get x) (a.eval x)∧(s.get x).all (Atom.ok N s.heap):=by
 cases x with
 | tmp t =>
  simp only [St.get,Act.eval,List.getD_eq_getElem?_getD]
  cases ht:s.cur[t]? with
  | none=>exact ⟨trivial,trivial⟩
  | some sv =>
   obtain ⟨v,hv,hs⟩:=h.cur.get ht
   refine ⟨?_,h.ncur sv (List.mem_of_getElem? ht)⟩
   have:a.tmps.getD t undef=v:=by
    rw [Array.getD_eq_getD_getElem?,←Array.getElem?_toList,hv];rfl
   rw [this]
   exact hs
 | const v=>exact ⟨atomLit_rep v,atomLit_ok v⟩
 | global g'=>exact ⟨trivial,trivial⟩
 | func f=>exact ⟨by simp [St.get,Act.eval,SRep,ARep],by simp [St.get,SV.all,Atom.ok]⟩
theorem get_a (h:R bd N s r g a.tmps st w) {x:Operand} {b:Atom} (hx:s.get x=.a b):ARep w (Mt bd.Z s.heap g) g r b (a.eval x)∧b.ok N s.heap:=by
 have:=get_rep h x
 rw [hx] at this
 exact this
theorem get_agg (h:R bd N s r g a.tmps st w) {x:Operand} {l:List Atom} (hx:s.get x=.agg l):(∃cs,a.eval x=.agg cs∧AReps w (Mt bd.Z s.heap g) g r l cs.toList)∧∀b∈l,b.ok N s.heap:=by
 have:=get_rep h x
 rw [hx] at this
 exact this
theorem atom_rep (h:R bd N s r g a.tmps st w) (x:Operand):ARep w (Mt bd.Z s.heap g) g r (s.get x).atom (a.eval x)∧(s.get x).atom.ok N s.heap:=by
 cases hx:s.get x with
 | a b=>exact get_a h hx
 | agg l=>exact ⟨trivial,trivial⟩
 | tup l=>exact ⟨trivial,trivial⟩
theorem int_of {k:IntKind} {e:E (.int k)} {M:Nat→Prop} {v:Value} (h:ARep w M g r (.x (.int k) e) v):v=.int k (den e r):=by
 simp only [ARep,Rep] at h;simpa using h
theorem bool_of {e:E .bool} {M:Nat→Prop} {v:Value} (h:ARep w M g r (.x .bool e) v):v=.bool (den e r):=by
 simp only [ARep,Rep] at h;simpa using h
theorem str_of {e:E .str} {M:Nat→Prop} {v:Value} (h:ARep w M g r (.x .str e) v):v=.string (den e r):=by
 simp only [ARep,Rep] at h;simpa using h
theorem int_rep {k:IntKind} {e:E (.int k)} {M:Nat→Prop} {n:Int} (h:n=den e r):ARep w M g r (.x (.int k) e) (.int k n):=by
 simp only [ARep,Rep];rw [h]
theorem bool_rep {e:E .bool} {M:Nat→Prop} {b:Bool} (h:b=den e r):ARep w M g r (.x .bool e) (.bool b):=by
 simp only [ARep,Rep];rw [h]
theorem int_srep {k:IntKind} (e:E (.int k)) (M:Nat→Prop):SRep w M g r (ax (.int k) e) (.int k (den e r)):=by
 simp only [SRep,ax,ARep,Rep]
theorem bool_srep (e:E .bool) (M:Nat→Prop):SRep w M g r (ax .bool e) (.bool (den e r)):=by
 simp only [SRep,ax,ARep,Rep]
theorem run_pure {α:Type} (x:α):(pure x:Sem α).run P w=.ok x w:=rfl
theorem run_bind_ok {α β:Type} {x:Sem α} {f:α→Sem β} {v:α} {w':World} (h:x.run P w=.ok v w'):(x >>= f).run P w=(f v).run P w':=by
 have:∀(x:Sem α) (w:World),(x.bind f).run P w=match x.run P w with | .ok a w'=>(f a).run P w' | .halt h w'=>.halt h w':=by
  intro x
  induction x with
  | pure a=>intro w;rfl
  | load m a k ih=>intro w;simp only [Sem.bind,Sem.run];split<;>(try split)<;>simp_all
  | store m a v k ih=>intro w;cases v<;>simp only [Sem.bind,Sem.run]<;>(try (split<;>(try split)<;>simp_all))
  | new o k ih=>intro w;simp only [Sem.bind,Sem.run,ih]
  | shape r k ih=>intro w;simp only [Sem.bind,Sem.run,ih]
  | freeze a n k ih=>intro w;simp only [Sem.bind,Sem.run,ih]
  | frozen a k ih=>intro w;simp only [Sem.bind,Sem.run,ih]
  | getObj r k ih=>intro w;simp only [Sem.bind,Sem.run];split<;>simp_all
  | setObj r o k ih=>intro w;simp only [Sem.bind,Sem.run];split<;>simp_all
  | choose q k ih=>intro w;simp only [Sem.bind,Sem.run];split<;>simp_all
  | sys c k ih=>intro w;simp only [Sem.bind,Sem.run,ih]
  | program k ih=>intro w;simp only [Sem.bind,Sem.run,ih]
  | mark m k ih=>intro w;simp only [Sem.bind,Sem.run,ih]
  | halt h=>intro w;rfl
 show (x.bind f).run P w=_
 rw [this,h]
theorem run_v {x:Sem Value} {v:Value} {w':World} (h:x.run P w=.ok v w'):((do pure (.value (←x))):Sem Next).run P w=.ok (.value v) w':=by
 rw [run_bind_ok h];rfl
theorem run_u {x:Sem Unit} {w':World} (h:x.run P w=.ok () w'):((do x;pure .skip):Sem Next).run P w=.ok .skip w':=by
 rw [run_bind_ok h];rfl
theorem good_move (h:R bd N s r g a.tmps st w) (x:Operand) (o:Oper) (ho:o.op=.move x∨o.op=.assign x):GoodP P bd N r st false (execOp a.eval o) a.tmps w (s.get x) s:=by
 obtain ⟨hv,hn⟩:=get_rep h x
 refine GoodP.look h ?_ hv hn
 rcases ho with ho | ho<;>simp only [execOp,ho]<;>exact fun _ _=>rfl
theorem eqO1_den {a b a' b':Ty} (o:O1 a b) (p:O1 a' b') (h:eqO1 o p=true) (x:a.D) (y:a'.D) (hxy:(⟨a,x⟩:AV)=⟨a',y⟩):(⟨b,o.d x⟩:AV)=⟨b',p.d y⟩:=by
 cases o<;>cases p<;>simp only [eqO1,Bool.and_eq_true,decide_eq_true_eq,Bool.false_eq_true] at h <;>
  first
  | (subst h;cases hxy;rfl)
  | (obtain ⟨rfl,rfl⟩:=h;cases hxy;rfl)
  | (obtain ⟨⟨rfl,rfl⟩,rfl⟩:=h;cases hxy;rfl)
  | (cases hxy;rfl)
theorem eqO2_den {a b c a' b' c':Ty} (o:O2 a b c) (p:O2 a' b' c') (h:eqO2 o p=true) (x:a.D) (y:a'.D) (hxy:(⟨a,x⟩:AV)=⟨a',y⟩) (u:b.D) (v:b'.D) (huv:(⟨b,u⟩:AV)=⟨b',v⟩) :
  (⟨c,o.d x u⟩:AV)=⟨c',p.d y v⟩:=by
 cases o<;>cases p<;>simp only [eqO2,Bool.and_eq_true,decide_eq_true_eq,Bool.false_eq_true] at h <;>
  first
  | (subst h;cases hxy;cases huv;rfl)
  | (obtain ⟨rfl,rfl⟩:=h;cases hxy;cases huv;rfl)
  | (obtain ⟨⟨rfl,rfl⟩,rfl⟩:=h;cases hxy;cases huv;rfl)
  | (cases hxy;cases huv;rfl)
theorem eqE_den (r:Env):∀{t t':Ty} (x:E t) (y:E t'),eqE x y=true→(⟨t,den x r⟩:AV)=⟨t',den y r⟩:=by
 intro t t' x
 induction x generalizing t' with
 | var t i=>intro y h;cases y<;>simp only [eqE,Bool.and_eq_true,decide_eq_true_eq,Bool.false_eq_true] at h;obtain ⟨rfl,rfl⟩:=h;rfl
 | int k n=>intro y h;cases y<;>simp only [eqE,Bool.and_eq_true,decide_eq_true_eq,Bool.false_eq_true] at h;obtain ⟨rfl,rfl⟩:=h;rfl
 | bool b=>intro y h;cases y<;>simp only [eqE,beq_iff_eq,Bool.false_eq_true] at h;subst h;rfl
 | o1 o x ih =>
  intro y h
  cases y<;>simp only [eqE,Bool.and_eq_true,Bool.false_eq_true] at h
  exact eqO1_den o _ h.1 _ _ (ih _ h.2)
 | o2 o x y ihx ihy =>
  intro z h
  cases z<;>simp only [eqE,Bool.and_eq_true,Bool.false_eq_true] at h
  exact eqO2_den o _ h.1.1 _ _ (ihx _ h.1.2) _ _ (ihy _ h.2)
 | _=>intro y h;cases y<;>simp [eqE] at h
theorem eqE_bool {x y:E .bool} (h:eqE x y=true) (r:Env):den x r=den y r:=by
 have:=eqE_den r x y h
 simpa using this
theorem litZ_eq {k:IntKind} {e:E (.int k)} {n:Int} (h:litZ e=some n) (r:Env):den e r=n:=by
 cases e<;>simp [litZ] at h
 subst h;rfl
theorem litB1_eq {e:E .bool} {b:Bool} (h:litB.litB1 e=some b) (r:Env):den e r=b:=by
 cases e<;>simp [litB.litB1] at h
 subst h;rfl
theorem litB_eq {c:E .bool} {b:Bool} (h:litB c=some b) (r:Env):den c r=b:=by
 unfold litB at h
 split at h
 ·cases h;rfl
 ·split at h
  ·rename_i hb
   cases h
   simp only [den,O1.d,litB1_eq hb r]
  ·cases h
 ·split at h
  ·rename_i ha hb
   cases h
   simp only [den,O2.d]
   rw [litZ_eq ha,litZ_eq hb]
  ·split at h
   ·rename_i he
    have h2:=eqE_den r _ _ he
    simp only [den,O2.d]
    have h3:∀{k k':IntKind} (x:Int) (y:Int),((⟨.int k,x⟩:AV)=⟨.int k',y⟩)→x=y:=by
     intro k k' x y hxy;cases hxy;rfl
    have h4:=h3 _ _ h2
    split at h<;>cases h<;>simp only [cmI]<;>rw [h4]<;>simp
   ·cases h
 ·cases h
theorem good_pick (h:R bd N s r g a.tmps st w) {c x y:Operand} {sv:SV} {s':St} {gs:List (E .bool)} (hs:symPick s c x y=some (gs,sv,s')) (o:Oper) (ho:o.op=.pick c x y) :
  GoodP P bd N r st false (execOp a.eval o) a.tmps w sv s':=by
 unfold symPick at hs
 split at hs
 ·rename_i ce hc
  obtain ⟨hcv,hcn⟩:=get_a h hc
  have hcv:=bool_of hcv
  have run:∀v,(if den ce r=true then a.eval x else a.eval y)=v→∀w2,(execOp a.eval o).run P w2=.ok (.value v) w2:=by
   intro v hv w2
   simp only [execOp,ho,hcv]
   rw [run_bind_ok (v:=den ce r) (w':=w2) rfl,hv]
   rfl
  split at hs
  ·rename_i hl
   simp only [one,Option.some.injEq,Prod.mk.injEq] at hs
   obtain ⟨-,rfl,rfl⟩:=hs
   obtain ⟨hv,hn⟩:=get_rep h x
   exact GoodP.look h (fun w2 _=>run _ (by rw [litB_eq hl r];rfl) w2) hv hn
  ·rename_i hl
   simp only [one,Option.some.injEq,Prod.mk.injEq] at hs
   obtain ⟨-,rfl,rfl⟩:=hs
   obtain ⟨hv,hn⟩:=get_rep h y
   exact GoodP.look h (fun w2 _=>run _ (by rw [litB_eq hl r];rfl) w2) hv hn
  ·split at hs
   ·rename_i t ex t' ey hx hy
    split at hs
    ·rename_i ht
     subst ht
     simp only [one,Option.some.injEq,Prod.mk.injEq] at hs
     obtain ⟨-,rfl,rfl⟩:=hs
     obtain ⟨hv1,hn1⟩:=get_a h hx
     obtain ⟨hv2,hn2⟩:=get_a h hy
     refine GoodP.look h (fun w2 _=>run _ rfl w2) ?_ ⟨hcn,hn1,hn2⟩
     simp only [SRep,ax,ARep,den,O3.d] at hv1 hv2 ⊢
     split
     ·exact hv1
     ·exact hv2
    ·cases hs
   ·cases hs
 ·cases hs
end
end Go.Sm
namespace Go.Sm
set_option linter.unusedVariables false
set_option linter.unusedSimpArgs false
section
variable {P:Program} {bd:Bd} {N:Nat→Prop} {s:St} {r:Env} {g:Nat→G} {st:List (Array Value)} {w:World} {a:Act}
theorem gLe_iff {k k':IntKind} {x:E (.int k)} {y:E (.int k')}:den (gLe x y) r=true↔(den x r:Int)≤den y r:=by
 simp [gLe,den,O2.d,cmI]
theorem gLt_iff {k k':IntKind} {x:E (.int k)} {y:E (.int k')}:den (gLt x y) r=true↔(den x r:Int)<den y r:=by
 simp [gLt,den,O2.d,cmI]
theorem den_eI {k:IntKind} {n:Int}:(den (eI k n) r:Int)=n:=rfl
theorem run_eqGuard (o:BinOp) (t:TypeId) (x y:Operand) (u v:Value) (h:∀l m,u=.agg l→v=.agg m→False) (h2:u=.nilIface→v=.nilIface→False):(eqGuard o t x y u v).run P w=.ok () w:=by
 unfold eqGuard
 cases o<;>first | rfl | (cases u<;>first | rfl | (cases v<;>first | rfl | exact (h2 rfl rfl).elim | exact (h _ _ rfl rfl).elim))
theorem run_binOp (o:Oper) {b:BinOp} {t ty:TypeId} {x y:Operand} (ho:o.op=.binOp b t x y ty) {u v z:Value} (hu:a.eval x=u) (hv:a.eval y=v)
  (h:∀l m,u=.agg l→v=.agg m→False) (h2:u=.nilIface→v=.nilIface→False) (hr:(binOp b t u v).run P w=.ok z w):(execOp a.eval o).run P w=.ok (.value z) w:=by
 simp only [execOp,ho,hu,hv]
 refine run_v ?_
 rw [run_bind_ok (run_eqGuard b t x y u v h h2)]
 exact hr
theorem run_underlying' {t:TypeId} {d:TypeDesc} (h:P.underlying t=some d):(underlying t).run P w=.ok d w:=by
 unfold underlying
 rw [run_bind_ok (v:=P) (w':=w) rfl,h];rfl
theorem run_typeInfo' {t:TypeId} {i:TypeInfo} (h:P.info? t=some i):(typeInfo t).run P w=.ok i w:=by
 unfold typeInfo
 rw [run_bind_ok (v:=P) (w':=w) rfl,h];rfl
theorem run_sizeOf' {t:TypeId} {i:TypeInfo} (h:P.info? t=some i):(sizeOf t).run P w=.ok i.size w:=by
 unfold sizeOf
 rw [run_bind_ok (run_typeInfo' h)];rfl
theorem run_equal_bool {t:TypeId} (ht:P.underlying t=some .bool) (x y:Bool):(Op.equal t (.bool x) (.bool y)).run P w=.ok (x==y) w:=by
 show (Op.equalIn (9999+1) t (.bool x) (.bool y)).run P w=_
 rw [Op.equalIn,run_bind_ok (run_underlying' ht)]
 rfl
theorem run_equal_sl {t e:TypeId} (ht:P.underlying t=some (.slice e)) (x:Option Addr) (n c:Nat):(Op.equal t (.slice x n c) (.slice none 0 0)).run P w=.ok (decide (x=none)) w:=by
 show (Op.equalIn (9999+1) t (.slice x n c) (.slice none 0 0)).run P w=_
 rw [Op.equalIn,run_bind_ok (run_underlying' ht)]
 cases x<;>rfl
theorem run_eql {t:TypeId} {x y:Value} {b:Bool} (h:(Op.equal t x y).run P w=.ok b w) (hb:binOp .eql t x y=do pure (.bool (←Op.equal t x y))):(binOp .eql t x y).run P w=.ok (.bool b) w:=by
 rw [hb,run_bind_ok h];rfl
theorem run_neq {t:TypeId} {x y:Value} {b:Bool} (h:(Op.equal t x y).run P w=.ok b w) (hb:binOp .neq t x y=do pure (.bool (!(←Op.equal t x y)))):(binOp .neq t x y).run P w=.ok (.bool (!b)) w:=by
 rw [hb,run_bind_ok h];rfl
theorem rep_sl_nil {M:Nat→Prop} {t:Ty} {d:List t.D} {v:Value} (h:Rep w M (.sl true t) d [v]):∃a n c,v=.slice a n c∧(a=none↔d=[]):=by
 obtain ⟨x,cp,h1,_,h3,_⟩:=h
 simp only [List.cons.injEq,and_true] at h1
 exact ⟨x,_,cp,h1,h3 rfl⟩
theorem rep_sl_ne {M:Nat→Prop} {c:Bool} {t:Ty} {d:List t.D} {v:Value} (h:Rep w M (.sl c t) d [v]) (hd:d.isEmpty=false):∃a n c,v=.slice a n c∧¬a=none:=by
 obtain ⟨x,cp,h1,h2,_,h4,_⟩:=h
 simp only [List.cons.injEq,and_true] at h1
 refine ⟨x,_,cp,h1,fun h=>?_⟩
 have h5:=h4 h
 subst h5
 cases d with
 | nil=>cases hd
 | cons a l=>exact absurd h2 (by simp only [Ty.D,List.length_cons];omega)
set_option maxHeartbeats 1000000 in
theorem good_bin (h:R bd N s r g a.tmps st w) {b:BinOp} {t ty:TypeId} {x y:Operand} (o:Oper) (ho:o.op=.binOp b t x y ty) {p q:Atom} (hx:s.get x=.a p) (hy:s.get y=.a q)
  {gs:List (E .bool)} {sv:SV} (hs:symBin b p q=some (gs,sv)) (hg:∀c∈gs,den c r=true) (hsl:∀cc u e,p=.x (.sl cc u) e→(∃e',P.underlying t=some (.slice e'))) (hbb:(∃e,p=.x .bool e)→P.underlying t=some .bool) :
  GoodP P bd N r st false (execOp a.eval o) a.tmps w sv s:=by
 obtain ⟨hpv,hpn⟩:=get_a h hx
 obtain ⟨hqv,hqn⟩:=get_a h hy
 unfold symBin at hs
 split at hs
 ·-- whole numbers
  rename_i k ea k' eb
  have hu:=int_of hpv
  have hv:=int_of hqv
  have finI:∀(kk:IntKind) (ee:E (.int kk)),sv=ax (.int kk) ee→(∀w,(binOp b t (.int k (den ea r)) (.int k' (den eb r))).run P w=.ok (.int kk (den ee r)) w)→ee.vs N→GoodP P bd N r st false (execOp a.eval o) a.tmps w sv s:=by
   intro kk ee hsv hz hn
   subst hsv
   exact GoodP.look h (fun _ _=>run_binOp o ho hu hv (by simp) (by simp) (hz _)) (int_srep _ _) hn
  have finB:∀(ee:E .bool),sv=ax .bool ee→(∀w,(binOp b t (.int k (den ea r)) (.int k' (den eb r))).run P w=.ok (.bool (den ee r)) w)→ee.vs N→GoodP P bd N r st false (execOp a.eval o) a.tmps w sv s:=by
   intro ee hsv hz hn
   subst hsv
   exact GoodP.look h (fun _ _=>run_binOp o ho hu hv (by simp) (by simp) (hz _)) (bool_srep _ _) hn
  split at hs
  ·simp only [Option.some.injEq,Prod.mk.injEq] at hs
   obtain ⟨rfl,rfl⟩:=hs
   have hg0:(0:Int)≤den eb r:=gLe_iff.1 (hg _ (List.mem_singleton.2 rfl))
   refine finI _ _ rfl ?_ ⟨hpn,hqn⟩
   intro w2
   simp only [binOp,Op.shift]
   rw [if_neg (by omega)]
   simp [shI,run_pure,den,O2.d]
  ·simp only [Option.some.injEq,Prod.mk.injEq] at hs
   obtain ⟨rfl,rfl⟩:=hs
   have hg0:(0:Int)≤den eb r:=gLe_iff.1 (hg _ (List.mem_singleton.2 rfl))
   refine finI _ _ rfl ?_ ⟨hpn,hqn⟩
   intro w2
   simp only [binOp,Op.shift]
   rw [if_neg (by omega)]
   simp [shI,run_pure,den,O2.d]
  ·rename_i hshl hshr
   split at hs
   case isFalse=>cases hs
   rename_i hk
   subst hk
   cases b<;>simp only [Option.some.injEq,Prod.mk.injEq,reduceCtorEq] at hs <;>
    first
    | exact absurd rfl hshl
    | exact absurd rfl hshr
    | (obtain ⟨rfl, rfl⟩ := hs
       first
       | (refine finI _ _ rfl ?_ ⟨hpn, hqn⟩
          intro w2
          simp only [binOp,ne_eq,not_true_eq_false,if_false,Op.intArith,Op.intBits,arI,den,O2.d];rfl)
       | (refine finB _ rfl ?_ ⟨hpn, hqn⟩
          intro w2
          simp only [binOp,ne_eq,not_true_eq_false,if_false,Op.intCmp,cmI,den,O2.d];rfl)
       | (have h0 : (den eb r : Int) ≠ 0 := by
            cases hn:litZ eb with
            | some n =>
             simp only [hn] at hg
             split at hg
             ·exact absurd (hg _ (List.mem_singleton.2 rfl)) (by simp [den])
             ·rename_i hn0;rw [litZ_eq hn r];exact hn0
            | none =>
             simp only [hn] at hg
             have:=hg _ (List.mem_singleton.2 rfl)
             simpa [den,O2.d,cmI,eI] using this
          refine finI _ _ rfl ?_ ⟨hpn,hqn⟩
          intro w2
          simp only [binOp,ne_eq,not_true_eq_false,if_false,Op.intDiv,arI,den,O2.d];rw [if_neg h0];rfl))
 ·rename_i ea eb
  have hu:=bool_of hpv
  have hv:=bool_of hqv
  split at hs<;>simp only [Option.some.injEq,Prod.mk.injEq,reduceCtorEq] at hs
  ·obtain ⟨rfl,rfl⟩:=hs
   exact GoodP.look h (fun _ _=>run_binOp o ho hu hv (by simp) (by simp) (run_eql (run_equal_bool (hbb ⟨ea,rfl⟩) _ _) rfl)) (bool_srep (.o2 .beq ea eb) _) ⟨hpn,hqn⟩
  ·obtain ⟨rfl,rfl⟩:=hs
   exact GoodP.look h (fun _ _=>run_binOp o ho hu hv (by simp) (by simp) (run_neq (run_equal_bool (hbb ⟨ea,rfl⟩) _ _) rfl)) (bool_srep (.o2 .bne ea eb) _) ⟨hpn,hqn⟩
 ·rename_i ea eb
  have hu:=str_of hpv
  have hv:=str_of hqv
  split at hs<;>simp only [Option.some.injEq,Prod.mk.injEq,reduceCtorEq] at hs
  ·obtain ⟨rfl,rfl⟩:=hs
   exact GoodP.look h (fun _ _=>run_binOp o ho hu hv (by simp) (by simp) (z:=.bool (den (.o2 .seq ea eb) r)) rfl) (bool_srep (.o2 .seq ea eb) _) ⟨hpn,hqn⟩
  ·obtain ⟨rfl,rfl⟩:=hs
   exact GoodP.look h (fun _ _=>run_binOp o ho hu hv (by simp) (by simp) (z:=.bool (den (.o2 .sne ea eb) r)) rfl) (bool_srep (.o2 .sne ea eb) _) ⟨hpn,hqn⟩
 ·rename_i u e
  split at hs<;>simp only [Option.some.injEq,Prod.mk.injEq,reduceCtorEq] at hs
  ·obtain ⟨rfl,rfl⟩:=hs
   obtain ⟨e',ht⟩:=hsl _ u e rfl
   obtain ⟨x',n,c,hxv,hnil⟩:=rep_sl_nil hpv
   have hq:a.eval y=.slice none 0 0:=hqv
   have hd:decide (x'=none)=(den (.o1 (.emp true u) e) r:Bool):=by
    simp only [den,O1.d,Ty.D]
    cases hl:den e r with
    | nil=>simpa using hnil.2 hl
    | cons z l=>simp only [List.isEmpty_cons,decide_eq_false_iff_not];intro hx';have:=hnil.1 hx';rw [hl] at this;cases this
   exact GoodP.look h (fun _ _=>run_binOp o ho hxv hq (by simp) (by simp) (run_eql (run_equal_sl ht x' n c) rfl)) (by rw [hd];exact bool_srep _ _) hpn
  ·obtain ⟨rfl,rfl⟩:=hs
   obtain ⟨e',ht⟩:=hsl _ u e rfl
   obtain ⟨x',n,c,hxv,hnil⟩:=rep_sl_nil hpv
   have hq:a.eval y=.slice none 0 0:=hqv
   have hd:(!decide (x'=none))=(den (.o1 .not (.o1 (.emp true u) e)) r:Bool):=by
    simp only [den,O1.d,Ty.D]
    cases hl:den e r with
    | nil=>simpa using hnil.2 hl
    | cons z l=>simp only [List.isEmpty_cons,Bool.not_false,Bool.not_eq_true',decide_eq_false_iff_not];intro hx';have:=hnil.1 hx';rw [hl] at this;cases this
   exact GoodP.look h (fun _ _=>run_binOp o ho hxv hq (by simp) (by simp) (run_neq (run_equal_sl ht x' n c) rfl)) (by rw [hd];exact bool_srep _ _) hpn
 ·rename_i u e
  split at hs<;>simp only [Option.some.injEq,Prod.mk.injEq,reduceCtorEq] at hs
  ·obtain ⟨rfl,rfl⟩:=hs
   obtain ⟨e',ht⟩:=hsl _ u e rfl
   have hne:=hg _ (List.mem_singleton.2 rfl)
   simp only [den,O1.d,Bool.not_eq_true'] at hne
   obtain ⟨x',n,c,hxv,hnil⟩:=rep_sl_ne hpv hne
   have hq:a.eval y=.slice none 0 0:=hqv
   have hd:decide (x'=none)=(den (.bool false) r:Bool):=decide_eq_false hnil
   exact GoodP.look h (fun _ _=>run_binOp o ho hxv hq (by simp) (by simp) (run_eql (run_equal_sl ht x' n c) rfl)) (by rw [hd];exact bool_srep _ _) trivial
  ·obtain ⟨rfl,rfl⟩:=hs
   obtain ⟨e',ht⟩:=hsl _ u e rfl
   have hne:=hg _ (List.mem_singleton.2 rfl)
   simp only [den,O1.d,Bool.not_eq_true'] at hne
   obtain ⟨x',n,c,hxv,hnil⟩:=rep_sl_ne hpv hne
   have hq:a.eval y=.slice none 0 0:=hqv
   have hd:(!decide (x'=none))=(den (.bool true) r:Bool):=by rw [decide_eq_false hnil];rfl
   exact GoodP.look h (fun _ _=>run_binOp o ho hxv hq (by simp) (by simp) (run_neq (run_equal_sl ht x' n c) rfl)) (by rw [hd];exact bool_srep _ _) trivial
 ·cases hs
end
end Go.Sm
