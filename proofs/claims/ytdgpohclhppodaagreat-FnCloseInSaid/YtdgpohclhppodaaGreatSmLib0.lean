/- A machine over symbols for loaded functions, and that it tells the truth; no condition. -/
import Derived.Calls
import Derived.Below
import Derived.Laws.OwnMore
import Derived.OrdersHeld
import Derived.KernelRfl
set_option linter.unusedSimpArgs false
set_option linter.unusedVariables false
abbrev Y0:=@List.mem_append_right
abbrev Y1:=@List.mem_singleton
abbrev Y3:=@List.mem_append_left
abbrev Y4:=@Option.some.injEq
abbrev Y5:=@Bool.and_eq_true
abbrev Y6:=@List.mem_append
abbrev Y7:=@List.length_append
abbrev Y8:=@List.getD_eq_getElem?_getD
abbrev Y9:=@Prod.mk.injEq
abbrev Ya:=@Option.map_eq_some_iff
abbrev Yb:=@List.length_take
abbrev Yc:=@List.mem_cons_of_mem
abbrev Yd:=@List.mem_cons_self
abbrev Ye:=@decide_eq_true_eq
abbrev Yf:=@Nat.zero_le
abbrev Yg:=@Bool.false_eq_true
abbrev Yh:=@Nat.le_refl
abbrev Yi:=@Array.length_toList
abbrev Yj:=@List.length_singleton
abbrev Yk:=@Nat.mul_le_mul_right
abbrev Yl:=@List.mem_cons
abbrev Ym:=@List.append_assoc
abbrev Yn:=@List.getElem?_eq_some_iff
abbrev Yo:=@List.mem_map
abbrev Yp:=@List.nodup_append
abbrev Yq:=@List.length_drop
abbrev Yr:=@Bool.not_eq_true'
abbrev Ys:=@List.map_congr_left
abbrev Yt:=@List.getElem?_append_right
abbrev Yu:=@List.take_length
abbrev Yv:=@Int.toNat_natCast
abbrev Yw:=@List.getElem?_append_left
abbrev Yx:=@List.append_nil
abbrev Yy:=@List.length_replicate
abbrev Yz:=@List.getElem?_eq_none
abbrev YA:=@List.length_cons
abbrev YB:=@List.getElem?_drop
abbrev YC:=@List.length_set
abbrev YD:=@List.mem_of_getElem?
abbrev YE:=@Option.isSome_iff_exists
abbrev YF:=@List.length_map
abbrev YG:=@List.all_eq_true
abbrev YH:=@decide_eq_false_iff_not
abbrev YI:=@List.take_of_length_le
abbrev YJ:=@List.length_pos_iff
abbrev YK:=@List.map_append
abbrev YL:=@Bool.or_eq_true
abbrev YM:=@List.getElem?_set
abbrev YN:=@List.contains_eq_mem
abbrev YO:=@List.mem_filterMap
abbrev YP:=@Nat.lt_of_lt_of_le
abbrev YQ:=@List.any_eq_true
namespace Go.Sm
inductive Ty where
 | int (k:IntKind) | bool | str | sl (c:Bool) (e:Ty) | pr (a b:Ty)
def Ty.beq:Ty→Ty→Bool
 | .int k,.int k'=>decide (k=k')
 | .bool,.bool=>true
 | .str,.str=>true
 | .sl c e,.sl c' e'=>(c==c')&&Ty.beq e e'
 | .pr a b,.pr a' b'=>Ty.beq a a'&&Ty.beq b b'
 | _,_=>false
theorem Ty.eq_of_beq:∀{a b:Ty},Ty.beq a b=true→a=b:=by
 intro a
 induction a with
 | int k=>intro b h;cases b<;>simp_all [Ty.beq]
 | bool=>intro b h;cases b<;>simp_all [Ty.beq]
 | str=>intro b h;cases b<;>simp_all [Ty.beq]
 | sl c e ih=>intro b h;cases b<;>simp_all [Ty.beq];exact ih h.2
 | pr a b iha ihb=>intro b' h;cases b'<;>simp_all [Ty.beq];exact ⟨iha h.1,ihb h.2⟩
theorem Ty.beq_refl:∀a:Ty,Ty.beq a a=true:=by
 intro a
 induction a<;>simp_all [Ty.beq]
instance : DecidableEq Ty := fun a b =>
 if h:Ty.beq a b=true then .isTrue (Ty.eq_of_beq h) else .isFalse fun e=>h (e▸Ty.beq_refl a)
@[reducible] def Ty.D:Ty→Type
 | .int _=>Int
 | .bool=>Bool
 | .str=>ByteArray
 | .sl _ e=>List e.D
 | .pr a b=>a.D×b.D
def Ty.z:(t:Ty)→t.D
 | .int _=>(0:Int)
 | .bool=>false
 | .str=>ByteArray.empty
 | .sl _ e=>([]:List e.D)
 | .pr a b=>(a.z,b.z)
def Ty.size:Ty→Nat
 | .pr a b=>a.size+b.size
 | _=>1
theorem Ty.size_pos:∀t:Ty,0<t.size
 | .int _=>Nat.one_pos
 | .bool=>Nat.one_pos
 | .str=>Nat.one_pos
 | .sl _ _=>Nat.one_pos
 | .pr a b=>Nat.add_pos_left a.size_pos b.size
def arI (o:BinOp) (k:IntKind) (x y:Int):Int :=
 match o with
 | .add=>k.wrap (x+y)
 | .sub=>k.wrap (x - y)
 | .mul=>k.wrap (x * y)
 | .quo=>k.wrap (x.tdiv y)
 | .rem=>x.tmod y
 | .and=>k.wrap ((BitVec.ofInt k.bits x &&& BitVec.ofInt k.bits y).toNat)
 | .or=>k.wrap ((BitVec.ofInt k.bits x ||| BitVec.ofInt k.bits y).toNat)
 | .xor=>k.wrap ((BitVec.ofInt k.bits x ^^^ BitVec.ofInt k.bits y).toNat)
 | .andNot=>k.wrap ((BitVec.ofInt k.bits x &&& ~~~BitVec.ofInt k.bits y).toNat)
 | _=>0
def cmI (o:BinOp) (x y:Int):Bool :=
 match o with
 | .eql=>x==y
 | .neq=>x != y
 | .lss=>decide (x<y)
 | .leq=>decide (x≤y)
 | .gtr=>decide (x > y)
 | .geq=>decide (x≥y)
 | _=>false
def shI (left:Bool) (k:IntKind) (x y:Int):Int :=
 if left then k.wrap (x * 2 ^ min y.toNat k.bits) else x.fdiv (2 ^ min y.toNat k.bits)
inductive O1:Ty→Ty→Type
 | neg (k:IntKind):O1 (.int k) (.int k)
 | not:O1 .bool .bool
 | len (c:Bool) (e:Ty):O1 (.sl c e) (.int .i64)
 | slen:O1 .str (.int .i64)
 | fst (a b:Ty):O1 (.pr a b) a
 | snd (a b:Ty):O1 (.pr a b) b
 | re (c c':Bool) (e:Ty):O1 (.sl c e) (.sl c' e)
 | emp (c:Bool) (e:Ty):O1 (.sl c e) .bool
 | conv (k k':IntKind):O1 (.int k) (.int k')
 | one (e:Ty):O1 e (.sl false e)
 | hnd (k:Nat):O1 (.sl false (.int .i64)) (.sl false (.int .i64))
inductive O2:Ty→Ty→Ty→Type
 | ar (o:BinOp) (k:IntKind):O2 (.int k) (.int k) (.int k)
 | sh (left:Bool) (k k':IntKind):O2 (.int k) (.int k') (.int k)
 | cm (o:BinOp) (k k':IntKind):O2 (.int k) (.int k') .bool
 | mx (k:IntKind):O2 (.int k) (.int k) (.int k)
 | mn (k:IntKind):O2 (.int k) (.int k) (.int k)
 | beq:O2 .bool .bool .bool
 | bne:O2 .bool .bool .bool
 | and:O2 .bool .bool .bool
 | or:O2 .bool .bool .bool
 | seq:O2 .str .str .bool
 | sne:O2 .str .str .bool
 | scat:O2 .str .str .str
 | sidx (k:IntKind):O2 .str (.int k) (.int .u8)
 | idx (c:Bool) (e:Ty) (k:IntKind):O2 (.sl c e) (.int k) e
 | app (e:Ty):O2 (.sl false e) (.sl false e) (.sl false e)
 | take (e:Ty) (k:IntKind):O2 (.sl false e) (.int k) (.sl false e)
 | drop (e:Ty) (k:IntKind):O2 (.sl false e) (.int k) (.sl false e)
 | rep (e:Ty) (k:IntKind):O2 (.int k) e (.sl false e)
 | over (e:Ty):O2 (.sl false e) (.sl false e) (.sl false e)
 | pair (a b:Ty):O2 a b (.pr a b)
inductive O3:Ty→Ty→Ty→Ty→Type
 | pick (e:Ty):O3 .bool e e e
 | set (e:Ty) (k:IntKind):O3 (.sl false e) (.int k) e (.sl false e)
def Z00 {α:Type} (a b:List α):List α:=b.take a.length++a.drop b.length
def Z01 (x:Int):List Int→List Int
 | []=>[x]
 | y::l=>if x≤y then x::y::l else y::Z01 x l
def Z02:List Int→List Int
 | []=>[]
 | x::l=>Z01 x (Z02 l)
def Z03:List Int→List Int
 | []=>[]
 | [x]=>[x]
 | x::y::l=>if x=y then Z03 (y::l) else x::Z03 (y::l)
def Z04 (k:Nat) (l:List Int):List Int:=if k=0 then Z02 l else Z03 l
def O1.d:{a b:Ty}→O1 a b→a.D→b.D
 | _,_,.neg k,x=>k.wrap (0 - x)
 | _,_,.not,x=>!x
 | _,_,.len _ _,x=>(x.length:Int)
 | _,_,.slen,x=>(x.size:Int)
 | _,_,.fst _ _,x=>x.1
 | _,_,.snd _ _,x=>x.2
 | _,_,.re _ _ _,x=>x
 | _,_,.emp _ _,x=>x.isEmpty
 | _,_,.conv _ k',x=>k'.wrap x
 | _,_,.one _,x=>[x]
 | _,_,.hnd k,x=>Z04 k x
def O2.d:{a b c:Ty}→O2 a b c→a.D→b.D→c.D
 | _,_,_,.ar o k,x,y=>arI o k x y
 | _,_,_,.sh l k _,x,y=>shI l k x y
 | _,_,_,.cm o _ _,x,y=>cmI o x y
 | _,_,_,.mx _,x,y=>if (y:Int) > x then y else x
 | _,_,_,.mn _,x,y=>if (y:Int)<x then y else x
 | _,_,_,.beq,x,y=>x==y
 | _,_,_,.bne,x,y=>x != y
 | _,_,_,.and,x,y=>x&&y
 | _,_,_,.or,x,y=>x||y
 | _,_,_,.seq,x,y=>x.toList==y.toList
 | _,_,_,.sne,x,y=>!(x.toList==y.toList)
 | _,_,_,.scat,x,y=>x++y
 | _,_,_,.sidx _,x,y=>((x.data.getD (Int.toNat y) 0).toNat:Int)
 | _,_,_,.idx _ e _,x,y=>x.getD (Int.toNat y) e.z
 | _,_,_,.app _,x,y=>x++y
 | _,_,_,.take _ _,x,y=>x.take (Int.toNat y)
 | _,_,_,.drop _ _,x,y=>x.drop (Int.toNat y)
 | _,_,_,.rep _ _,x,y=>List.replicate (Int.toNat x) y
 | _,_,_,.over _,x,y=>Z00 x y
 | _,_,_,.pair _ _,x,y=>(x,y)
def O3.d:{a b c d:Ty}→O3 a b c d→a.D→b.D→c.D→d.D
 | _,_,_,_,.pick _,c,x,y=>if c=true then x else y
 | _,_,_,_,.set _ _,l,i,x=>l.set (Int.toNat i) x
inductive E:Ty→Type
 | var (t:Ty) (i:Nat):E t
 | int (k:IntKind) (n:Int):E (.int k)
 | bool (b:Bool):E .bool
 | str (s:ByteArray):E .str
 | nil (c:Bool) (e:Ty):E (.sl c e)
 | z (t:Ty):E t
 | o1 {a b:Ty} (o:O1 a b) (x:E a):E b
 | o2 {a b c:Ty} (o:O2 a b c) (x:E a) (y:E b):E c
 | o3 {a b c d:Ty} (o:O3 a b c d) (x:E a) (y:E b) (z:E c):E d
abbrev AV:=(t:Ty)×t.D
abbrev AE:=(t:Ty)×E t
abbrev Env:=Nat→AV
def AV.as (t:Ty) (v:AV):t.D:=if h:v.1=t then h▸v.2 else t.z
def Z05:AV:=⟨.bool,false⟩
theorem AV.as_mk (t:Ty) (d:t.D):AV.as t ⟨t,d⟩=d:=by simp [AV.as]
def den:{t:Ty}→E t→Env→t.D
 | _,.var t i,r=>(r i).as t
 | _,.int _ n,_=>n
 | _,.bool b,_=>b
 | _,.str s,_=>s
 | _,.nil _ e,_=>([]:List e.D)
 | t,.z _,_=>t.z
 | _,.o1 o x,r=>o.d (den x r)
 | _,.o2 o x y,r=>o.d (den x r) (den y r)
 | _,.o3 o x y z,r=>o.d (den x r) (den y r) (den z r)
def Z0 (a:AE) (r:Env):AV:=⟨a.1,den a.2 r⟩
def Z06:{a b a' b':Ty}→O1 a b→O1 a' b'→Bool
 | _,_,_,_,.neg k,.neg k'=>decide (k=k')
 | _,_,_,_,.not,.not=>true
 | _,_,_,_,.len c e,.len c' e'=>decide (c=c')&&decide (e=e')
 | _,_,_,_,.slen,.slen=>true
 | _,_,_,_,.fst a b,.fst a' b'=>decide (a=a')&&decide (b=b')
 | _,_,_,_,.snd a b,.snd a' b'=>decide (a=a')&&decide (b=b')
 | _,_,_,_,.re c d e,.re c' d' e'=>decide (c=c')&&decide (d=d')&&decide (e=e')
 | _,_,_,_,.emp c e,.emp c' e'=>decide (c=c')&&decide (e=e')
 | _,_,_,_,.conv a b,.conv a' b'=>decide (a=a')&&decide (b=b')
 | _,_,_,_,.one e,.one e'=>decide (e=e')
 | _,_,_,_,.hnd k,.hnd k'=>decide (k=k')
 | _,_,_,_,_,_=>false
def Z07:{a b c a' b' c':Ty}→O2 a b c→O2 a' b' c'→Bool
 | _,_,_,_,_,_,.ar o k,.ar o' k'=>decide (o=o')&&decide (k=k')
 | _,_,_,_,_,_,.cm o k j,.cm o' k' j'=>decide (o=o')&&decide (k=k')&&decide (j=j')
 | _,_,_,_,_,_,.idx c e k,.idx c' e' k'=>decide (c=c')&&decide (e=e')&&decide (k=k')
 | _,_,_,_,_,_,.mx k,.mx k'=>decide (k=k')
 | _,_,_,_,_,_,.mn k,.mn k'=>decide (k=k')
 | _,_,_,_,_,_,.beq,.beq=>true
 | _,_,_,_,_,_,.bne,.bne=>true
 | _,_,_,_,_,_,.and,.and=>true
 | _,_,_,_,_,_,.or,.or=>true
 | _,_,_,_,_,_,.seq,.seq=>true
 | _,_,_,_,_,_,.sne,.sne=>true
 | _,_,_,_,_,_,.sidx k,.sidx k'=>decide (k=k')
 | _,_,_,_,_,_,_,_=>false
def eqE:{a b:Ty}→E a→E b→Bool
 | _,_,.var t i,.var t' j=>decide (t=t')&&decide (i=j)
 | _,_,.int k n,.int k' m=>decide (k=k')&&decide (n=m)
 | _,_,.bool a,.bool b=>a==b
 | _,_,.o1 o x,.o1 p y=>Z06 o p&&eqE x y
 | _,_,.o2 o x y,.o2 p u v=>Z07 o p&&eqE x u&&eqE y v
 | _,_,_,_=>false
def Z08:{t:Ty}→E t→Option Int
 | _,.int _ n=>some n
 | _,_=>none
def litB:E .bool→Option Bool
 | .bool b=>some b
 | .o1 .not x=>match litB1 x with
  | some b=>some (!b)
  | none=>none
 | .o2 (.cm o _ _) x y =>
  match Z08 x,Z08 y with
  | some a,some b=>some (cmI o a b)
  | _,_=>if eqE x y then (match o with | .leq=>some true | .geq=>some true | .eql=>some true | _=>none) else none
 | _=>none
where
 litB1:{t:Ty}→E t→Option Bool
 | _,.bool b=>some b
 | _,_=>none
inductive Atom where
 | no
 | un
 | nil
 | x (t:Ty) (e:E t)
 | xc (t:Ty) (e:E (.sl false t))
 | ref (id:Nat)
 | ptr (id j:Nat)
 | eptr (id:Nat) (t:Ty) (k:IntKind) (i:E (.int k)) (j:Nat)
 | xptr (c:Bool) (t:Ty) (l:E (.sl c t)) (k:IntKind) (i:E (.int k)) (j:Nat)
 | clo (f:FuncId) (caps:List (Nat×Nat))
 | nref (id:Nat) (t:Ty) (k:IntKind) (i:E (.int k)) (j:Nat)
 | nptr (id:Nat) (t:Ty) (k:IntKind) (i:E (.int k)) (j:Nat) (u:Ty) (k':IntKind) (i':E (.int k')) (j':Nat)
 | vw (id:Nat) (t:Ty) (lo hi:E (.int .i64))
inductive SV where
 | a (x:Atom)
 | agg (l:List Atom)
 | tup (l:List (Bool×List Atom))
inductive Blk where
 | box (l:List Atom)
 | arr (dp:Bool) (t:Ty) (e:E (.sl false t))
 | hole (t:Ty) (e:E (.sl false t)) (k:IntKind) (i:E (.int k)) (j:Nat) (a:Atom)
 | lent (t:Ty) (e:E (.sl false t)) (k:IntKind) (i:E (.int k)) (a:Atom)
structure St where
 cur:List SV
 stk:List (List SV)
 heap:Nat→Option Blk
 base:Nat
 np:Nat
 kp:List (Nat×Nat)
inductive Ex where
 | normal | exit (id:Nat) | ret
 deriving DecidableEq
inductive Tr where
 | leaf (x:Ex) (s:St)
 | bad
 | ite (c:E .bool) (a b:Tr)
 | guard (c:E .bool) (t:Tr)
 | call (f:FuncId) (ins:List AE) (b:Nat) (t:Tr)
 | jump (l:Nat) (vs:List AE)
 | ret (vs:List AE)
 | join (t k:Tr)
 | loop (init:List AE) (body:Tr)
inductive Out where
 | leaf (x:Ex) (s:St) (r:Env)
 | jump (l:Nat) (vs:List AV)
 | ret (vs:List AV)
def Z1 (vs:List AV):Env:=fun i=>vs.getD i Z05
def Z2 (r:Env) (b:Nat) (vs:List AV):Env:=fun i=>if i<b then r i else if i - b<vs.length then vs.getD (i - b) Z05 else r i
def Z3 (f:Env→Option Out):Nat→List AV→Option Out
 | 0,_=>none
 | n+1,vs =>
  match f (Z1 vs) with
  | some (.jump 0 us)=>Z3 f n us
  | some (.jump (l+1) us)=>some (.jump l us)
  | some (.leaf x s r)=>some (.leaf x s r)
  | some (.ret us)=>some (.ret us)
  | none=>none
abbrev Z4:=FuncId→List AV→Option (List AV)
def run (K:Z4) (m:Nat):Tr→Env→Option Out
 | .leaf x s,r=>some (.leaf x s r)
 | .bad,_=>none
 | .ite c a b,r=>if den c r=true then run K m a r else run K m b r
 | .guard c t,r=>if den c r=true then run K m t r else none
 | .call f ins b t,r =>
  match K f (ins.map (Z0 · r)) with
  | some vs=>run K m t (Z2 r b vs)
  | none=>none
 | .jump l vs,r=>some (.jump l (vs.map (Z0 · r)))
 | .ret vs,r=>some (.ret (vs.map (Z0 · r)))
 | .join t k,r =>
  match run K m t r with
  | some (.jump 0 us)=>run K m k (Z1 us)
  | some (.jump (l+1) us)=>some (.jump l us)
  | some (.leaf x s r)=>some (.leaf x s r)
  | some (.ret us)=>some (.ret us)
  | none=>none
 | .loop init body,r=>Z3 (run K m body) m (init.map (Z0 · r))
def Z09 (F:FuncId→Option Tr) (H:Z4):Nat→Z4
 | 0=>fun _ _=>none
 | n+1=>fun f ins =>
  match F f with
  | some t=>match run (Z09 F H n) n t (Z1 ins) with
   | some (.ret vs)=>some vs
   | _=>none
  | none=>H f ins
end Go.Sm
namespace Go.Sm
def E.vs (N:Nat→Prop):{t:Ty}→E t→Prop
 | _,.var _ i=>N i
 | _,.int _ _=>True
 | _,.bool _=>True
 | _,.str _=>True
 | _,.nil _ _=>True
 | _,.z _=>True
 | _,.o1 _ x=>x.vs N
 | _,.o2 _ x y=>x.vs N∧y.vs N
 | _,.o3 _ x y u=>x.vs N∧y.vs N∧u.vs N
theorem E.vs_mono {N N':Nat→Prop} (h:∀i,N i→N' i):∀{t:Ty} (e:E t),e.vs N→e.vs N':=by
 intro t e
 induction e with
 | var t i=>exact h i
 | o1 o x ih=>exact ih
 | o2 o x y ihx ihy=>exact fun ⟨a,b⟩=>⟨ihx a,ihy b⟩
 | o3 o x y z ihx ihy ihz=>exact fun ⟨a,b,c⟩=>⟨ihx a,ihy b,ihz c⟩
 | _=>exact fun _=>trivial
theorem Z0a {N:Nat→Prop} {r r':Env} (h:∀i,N i→r' i=r i):∀{t:Ty} (e:E t),e.vs N→den e r'=den e r:=by
 intro t e
 induction e with
 | var t i=>intro hv;simp only [den];rw [h i hv]
 | o1 o x ih=>intro hv;simp only [den];rw [ih hv]
 | o2 o x y ihx ihy=>intro hv;simp only [den];rw [ihx hv.1,ihy hv.2]
 | o3 o x y z ihx ihy ihz=>intro hv;simp only [den];rw [ihx hv.1,ihy hv.2.1,ihz hv.2.2]
 | _=>intro _;simp only [den]
def Atom.vs (N:Nat→Prop):Atom→Prop
 | .x _ e=>e.vs N
 | .xc _ e=>e.vs N
 | .eptr _ _ _ i _=>i.vs N
 | .xptr _ _ l _ i _=>l.vs N∧i.vs N
 | .nref _ _ _ i _=>i.vs N
 | .nptr _ _ _ i _ _ _ i' _=>i.vs N∧i'.vs N
 | .vw _ _ lo hi=>lo.vs N∧hi.vs N
 | _=>True
theorem Atom.vs_mono {N N':Nat→Prop} (h:∀i,N i→N' i) (a:Atom):a.vs N→a.vs N':=by
 cases a<;>simp only [Atom.vs]<;>first | exact E.vs_mono h _ | exact fun ⟨a,b⟩=>⟨E.vs_mono h _ a,E.vs_mono h _ b⟩ | exact id
def Atom.uses (id:Nat):Atom→Bool
 | .ref i=>i==id
 | .ptr i _=>i==id
 | .eptr i _ _ _ _=>i==id
 | .clo _ caps=>caps.any (·.1==id)
 | .nref i _ _ _ _=>i==id
 | .nptr i _ _ _ _ _ _ _ _=>i==id
 | .vw i _ _ _=>i==id
 | _=>false
def SV.all (p:Atom→Prop):SV→Prop
 | .a x=>p x
 | .agg l=>∀a∈l,p a
 | .tup l=>∀c∈l,∀a∈c.2,p a
def Atom.nst:Atom→Bool
 | .nref _ _ _ _ _=>true
 | .nptr _ _ _ _ _ _ _ _ _=>true
 | _=>false
def Atom.ok (N:Nat→Prop) (h:Nat→Option Blk):Atom→Prop
 | .no=>True
 | .un=>True
 | .nil=>True
 | .x _ e=>e.vs N
 | .xc _ e=>e.vs N
 | .ref id=>(h id).isSome=true
 | .ptr id _=>(h id).isSome=true
 | .eptr id _ _ i _=>i.vs N∧(h id).isSome=true
 | .xptr _ _ l _ i _=>l.vs N∧i.vs N
 | .clo _ caps=>∀c∈caps,(h c.1).isSome=true
 | .nref id _ _ i _=>i.vs N∧(h id).isSome=true
 | .nptr id _ _ i _ _ _ i' _=>(i.vs N∧i'.vs N)∧(h id).isSome=true
 | .vw id _ lo hi=>(lo.vs N∧hi.vs N)∧(h id).isSome=true
theorem Atom.ok.vs {N:Nat→Prop} {h:Nat→Option Blk} {a:Atom} (ha:a.ok N h):a.vs N:=by
 cases a<;>first | exact ha | exact ha.1 | trivial
theorem Atom.ok.live {N:Nat→Prop} {h:Nat→Option Blk} {a:Atom} (ha:a.ok N h) {i:Nat} (hu:a.uses i=true):(h i).isSome=true:=by
 cases a<;>simp only [Atom.uses,beq_iff_eq,Yg,YQ] at hu <;>
  first
  | (subst hu;first | exact ha | exact ha.2)
  | (obtain ⟨c,hc,rfl⟩:=hu;exact ha c hc)
theorem Atom.ok_mk {N:Nat→Prop} {h:Nat→Option Blk} {a:Atom} (hv:a.vs N) (hl:∀i,a.uses i=true→(h i).isSome=true):a.ok N h:=by
 cases a<;>simp only [Atom.uses,Atom.vs,Atom.ok] at * <;>
  first
  | trivial
  | exact hv
  | exact hl _ (by simp)
  | exact ⟨hv,hl _ (by simp)⟩
  | exact fun c hc=>hl c.1 (YQ.2 ⟨c,hc,by simp⟩)
theorem Atom.ok_mono {N N':Nat→Prop} {h h':Nat→Option Blk} (hN:∀i,N i→N' i) (hh:∀i,(h i).isSome=true→(h' i).isSome=true) {a:Atom} (ha:a.ok N h):a.ok N' h' :=
 Atom.ok_mk (Atom.vs_mono hN a ha.vs) fun i hu=>hh i (ha.live hu)
def Blk.ok (N:Nat→Prop) (h:Nat→Option Blk):Blk→Prop
 | .box l=>∀a∈l,a.ok N h
 | .arr _ _ e=>e.vs N
 | .hole _ e _ i _ a=>e.vs N∧i.vs N∧a.ok N h
 | .lent _ e _ i a=>e.vs N∧i.vs N∧a.ok N h
def Blk.vs (N:Nat→Prop):Blk→Prop
 | .box l=>∀a∈l,a.vs N
 | .arr _ _ e=>e.vs N
 | .hole _ e _ i _ a=>e.vs N∧i.vs N∧a.vs N
 | .lent _ e _ i a=>e.vs N∧i.vs N∧a.vs N
abbrev cell (w:World) (b o:Nat):Option Value:=w.cell? ⟨b,o,none⟩
theorem Z0b (w:World) (b o:Nat):cell w b o=match w.heap[b]? with | some (.cells c _ _)=>c[o]? | _=>none:=by
 simp only [cell,World.cell?];cases w.heap[b]? with
 | none=>rfl
 | some o=>cases o<;>simp
theorem Z0c {w w':World} {b:Nat} (h:w'.heap[b]?=w.heap[b]?) (o:Nat):cell w' b o=cell w b o:=by
 rw [Z0b,Z0b,h]
theorem Z0d {w:World} {b o:Nat} {v:Value} (h:cell w b o=some v):b<w.heap.size:=by
 rw [Z0b] at h
 rcases Nat.lt_or_ge b w.heap.size with hl | hl
 ·exact hl
 ·simp [Array.getElem?_eq_none hl] at h
theorem Z0e {a:Addr} (h:a.spot=none) (n:Nat):a.add n=⟨a.block,a.off+n,none⟩:=by
 cases a with
 | mk b o s =>
  simp only at h;subst h
  simp only [Addr.add];split<;>simp_all
def Rows (f:Nat→Option Value) (sz:Nat) {α:Type} (rep:α→List Value→Prop) (ds:List α):Prop :=
 ∀i (h:i<ds.length),∃us,us.length=sz∧(∀j u,us[j]?=some u→f (i * sz+j)=some u)∧rep ds[i] us
def Rep (w:World) (M:Nat→Prop):(t:Ty)→t.D→List Value→Prop
 | .int k,n,vs=>vs=[.int k n]
 | .bool,b,vs=>vs=[.bool b]
 | .str,s,vs=>vs=[.string s]
 | .sl c e,xs,vs=>∃(a:Option Addr) (cap:Nat),vs=[.slice a xs.length cap]∧xs.length≤cap∧(c=true→(a=none↔xs=[]))∧(a=none→cap=0) ∧
   ∀p,a=some p→xs≠[]→p.spot=none∧¬M p.block∧Rows (fun k=>cell w p.block (p.off+k)) e.size (Rep w M e) xs
 | .pr s t,p,vs=>∃l r,vs=l++r∧Rep w M s p.1 l∧Rep w M t p.2 r
theorem Rep.len {w:World} {M:Nat→Prop}:∀{t:Ty} {d:t.D} {vs:List Value},Rep w M t d vs→vs.length=t.size:=by
 intro t
 induction t with
 | int k=>intro d vs h;simp only [Rep] at h;simp [h,Ty.size]
 | bool=>intro d vs h;simp only [Rep] at h;simp [h,Ty.size]
 | str=>intro d vs h;simp only [Rep] at h;simp [h,Ty.size]
 | sl c e ih=>intro d vs h;obtain ⟨a,cap,h,_⟩:=h;simp [h,Ty.size]
 | pr s t ihs iht=>intro d vs h;obtain ⟨l,r,rfl,hl,hr⟩:=h;simp [Ty.size,ihs hl,iht hr]
structure Kept (w:World) (M:Nat→Prop) (w':World) (M':Nat→Prop):Prop where
 heap:∀b,b<w.heap.size→¬M b→w'.heap[b]?=w.heap[b]?
 less:∀b,b<w.heap.size→M' b→M b
theorem Kept.refl (w:World) (M:Nat→Prop):Kept w M w M:=⟨fun _ _ _=>rfl,fun _ _ h=>h⟩
theorem Rep.keep {w w':World} {M M':Nat→Prop} (hk:Kept w M w' M'):∀{t:Ty} {d:t.D} {vs:List Value},Rep w M t d vs→Rep w' M' t d vs:=by
 intro t
 induction t with
 | int k=>intro d vs h;exact h
 | bool=>intro d vs h;exact h
 | str=>intro d vs h;exact h
 | sl c e ih =>
  intro d vs h
  obtain ⟨a,cap,h1,h2,h3,h4,h5⟩:=h
  refine ⟨a,cap,h1,h2,h3,h4,?_⟩
  intro p hp hne
  obtain ⟨hs,hm,hr⟩:=h5 p hp hne
  have h0:0<d.length:=YJ.2 hne
  have hb:p.block<w.heap.size:=by
   obtain ⟨us,hl,hc,_⟩:=hr 0 h0
   have hpos:=e.size_pos
   have hlt:0<us.length:=by omega
   exact Z0d (hc 0 us[0] (List.getElem?_eq_getElem hlt))
  refine ⟨hs,fun hM=>hm (hk.less _ hb hM),?_⟩
  intro i hi
  obtain ⟨us,hl,hc,hrep⟩:=hr i hi
  exact ⟨us,hl,fun j u hu=>(Z0c (hk.heap _ hb hm) _).trans (hc j u hu),ih hrep⟩
 | pr s t ihs iht =>
  intro d vs h
  obtain ⟨l,r,h1,hl,hr⟩:=h
  exact ⟨l,r,h1,ihs hl,iht hr⟩
structure G where
 blk:Nat
 val:Value
 foot:List Nat
def Z5 (w:World) (v:Value) (o:Option Nat) (sz n:Nat) (xs:List Value):Prop :=
 xs.length=n * sz∧((∃a,v=.slice a 0 0∧n=0∧o=none) ∨
  ∃b off cap cur ety,o=some b∧v=.slice (some ⟨b,off,none⟩) n cap∧w.heap[b]?=some (.cells cur ety (0,0))∧n≤cap∧cap≤maxLen∧off+cap * sz≤cur.size∧(cur.toList.drop off).take (n * sz)=xs)
theorem Z5.keep {w w':World} {v:Value} {o:Option Nat} {sz n:Nat} {xs:List Value} (hb:∀b,o=some b→w'.heap[b]?=w.heap[b]?) (h:Z5 w v o sz n xs):Z5 w' v o sz n xs:=by
 refine ⟨h.1,?_⟩
 rcases h.2 with h | ⟨b,off,cap,cur,ety,h1,h2,h3,h4⟩
 ·exact .inl h
 ·exact .inr ⟨b,off,cap,cur,ety,h1,h2,(hb b h1).trans h3,h4⟩
def Z6 (w:World):(t:Ty)→Option Nat→List Nat→t.D→List Value→Prop
 | .int k,ho,F,n,vs=>F=[]∧if ho=some 0 then vs.length=1 else vs=[.int k n]
 | .bool,ho,F,b,vs=>F=[]∧if ho=some 0 then vs.length=1 else vs=[.bool b]
 | .str,ho,F,s,vs=>F=[]∧if ho=some 0 then vs.length=1 else vs=[.string s]
 | .sl c e,ho,F,xs,vs=>if ho=some 0 then F=[]∧vs.length=1 else
   ∃(v:Value) (o:Option Nat) (us:List Value) (Fs:List (List Nat)),vs=[v]∧Z5 w v o e.size xs.length us∧(c=true→(v=.slice none 0 0↔xs=[]))∧F=o.toList++Fs.flatten∧Fs.length=xs.length ∧
    ∀i (h:i<xs.length),∃cs,cs.length=e.size∧(∀j u,cs[j]?=some u→us[i * e.size+j]?=some u)∧Z6 w e none (Fs.getD i []) (xs[i]) cs
 | .pr s t,ho,F,p,vs=>∃F1 F2 l r,F=F1++F2∧vs=l++r∧Z6 w s (match ho with | some j=>if j<s.size then some j else none | none=>none) F1 p.1 l ∧
   Z6 w t (match ho with | some j=>if j<s.size then none else some (j - s.size) | none=>none) F2 p.2 r
theorem Z0f {Fs:List (List Nat)} {i b:Nat} (h:b∈Fs.getD i []):b∈Fs.flatten:=by
 rw [Y8] at h
 cases hi:Fs[i]? with
 | none=>simp [hi] at h
 | some l=>simp [hi] at h;exact List.mem_flatten.2 ⟨l,YD hi,h⟩
theorem Z6.keep {w w':World}:∀{t:Ty} {ho:Option Nat} {F:List Nat} {d:t.D} {vs:List Value},(∀b∈F,w'.heap[b]?=w.heap[b]?)→Z6 w t ho F d vs→Z6 w' t ho F d vs:=by
 intro t
 induction t with
 | int k=>intro ho F d vs _ h;exact h
 | bool=>intro ho F d vs _ h;exact h
 | str=>intro ho F d vs _ h;exact h
 | sl c e ih =>
  intro ho F d vs hb h
  simp only [Z6] at h ⊢
  split
  ·rename_i hh;simpa [hh] using h
  ·rename_i hh
   simp only [hh,if_false] at h
   obtain ⟨v,o,us,Fs,h1,h2,h3,h4,h5,h6⟩:=h
   subst h4
   refine ⟨v,o,us,Fs,h1,h2.keep fun b hb'=>hb b (by simp [hb']),h3,rfl,h5,fun i hi=>?_⟩
   obtain ⟨cs,a1,a2,a3⟩:=h6 i hi
   exact ⟨cs,a1,a2,ih (fun b hb'=>hb b (Y0 _ (Z0f hb'))) a3⟩
 | pr s t ihs iht =>
  intro ho F d vs hb h
  simp only [Z6] at h ⊢
  obtain ⟨F1,F2,l,r,h1,h2,h3,h4⟩:=h
  subst h1
  exact ⟨F1,F2,l,r,rfl,h2,ihs (fun b hb'=>hb b (Y3 _ hb')) h3,iht (fun b hb'=>hb b (Y0 _ hb')) h4⟩
def Z7 (w:World) (M:Nat→Prop) (g:Nat→G) (r:Env):Atom→Value→Prop
 | .no,_=>True
 | .un,v=>v=undef
 | .nil,v=>v=.slice none 0 0
 | .x t e,v=>Rep w M t (den e r) [v]
 | .xc t e,v=>Rep w M (.sl false t) (den e r) [v]∧∃a,v=.slice a (den e r).length (den e r).length
 | .ref id,v=>v=(g id).val
 | .ptr id j,v=>v=.pointer (some ⟨(g id).blk,j,none⟩)
 | .eptr id t _ i j,v=>∃p n c,(g id).val=.slice (some p) n c∧p.spot=none∧(0:Int)≤den i r∧Int.toNat (den i r)<n∧v=.pointer (some ⟨p.block,p.off+(Int.toNat (den i r) * t.size+j),none⟩)
 | .xptr c t l _ i j,v=>∃p n cp,Rep w M (.sl c t) (den l r) [.slice (some p) n cp]∧p.spot=none∧(0:Int)≤den i r∧Int.toNat (den i r)<n∧v=.pointer (some ⟨p.block,p.off+(Int.toNat (den i r) * t.size+j),none⟩)
 | .clo f caps,v=>v=.func (.func f) #[] (caps.map fun c=>Value.pointer (some ⟨(g c.1).blk,c.2,none⟩)).toArray
 | .nref id t _ i j,v=>∃p n c,(g id).val=.slice (some p) n c∧p.block∈(g id).foot∧(0:Int)≤den i r∧Int.toNat (den i r)<n∧cell w p.block (p.off+(Int.toNat (den i r) * t.size+j))=some v
 | .nptr id t _ i j u _ i' j',v=>∃p n c q n' c',(g id).val=.slice (some p) n c∧p.block∈(g id).foot∧(0:Int)≤den i r∧Int.toNat (den i r)<n∧cell w p.block (p.off+(Int.toNat (den i r) * t.size+j))=some (.slice (some q) n' c') ∧
   q.spot=none∧(0:Int)≤den i' r∧Int.toNat (den i' r)<n'∧v=.pointer (some ⟨q.block,q.off+(Int.toNat (den i' r) * u.size+j'),none⟩)
 | .vw id t lo hi,v=>∃(x:Option Addr) (n c l h:Nat),(g id).val=.slice x n c∧l≤h∧h≤n∧(den lo r:Int)=l∧(den hi r:Int)=h∧v=.slice (if c=l then x else x.map (·.add (l * t.size))) (h - l) (c - l)
def Z8 (w:World) (M:Nat→Prop) (g:Nat→G) (r:Env):List Atom→List Value→Prop
 | [],[]=>True
 | a::l,v::vs=>Z7 w M g r a v∧Z8 w M g r l vs
 | _,_=>False
def Z0g (w:World) (M:Nat→Prop) (g:Nat→G) (r:Env) (c:Bool×List Atom) (v:Value):Prop :=
 if c.1=true then ∃cs,v=.agg cs∧Z8 w M g r c.2 cs.toList else Z8 w M g r c.2 [v]
def Z0h (w:World) (M:Nat→Prop) (g:Nat→G) (r:Env):List (Bool×List Atom)→List Value→Prop
 | [],[]=>True
 | a::l,v::vs=>Z0g w M g r a v∧Z0h w M g r l vs
 | _,_=>False
def Z9 (w:World) (M:Nat→Prop) (g:Nat→G) (r:Env):SV→Value→Prop
 | .a x,v=>Z7 w M g r x v
 | .agg l,v=>∃cs,v=.agg cs∧Z8 w M g r l cs.toList
 | .tup l,v=>∃cs,v=.tuple cs∧Z0h w M g r l cs.toList
def Za (w:World) (M:Nat→Prop) (g:Nat→G) (r:Env):List SV→List Value→Prop
 | [],[]=>True
 | a::l,v::vs=>Z9 w M g r a v∧Za w M g r l vs
 | _,_=>False
def Z0i (w:World) (M:Nat→Prop) (g:Nat→G) (r:Env):List (List SV)→List (Array Value)→Prop
 | [],[]=>True
 | a::l,v::vs=>Za w M g r a v.toList∧Z0i w M g r l vs
 | _,_=>False
def Row (w:World) (M:Nat→Prop) (dp:Bool) (t:Ty) (ho:Option Nat) (F:List Nat) (d:t.D) (us:List Value):Prop :=
 if dp=true then Z6 w t ho F d us else F=[]∧Rep w M t d us
def Zb (w:World) (M:Nat→Prop) (g:G) (dp:Bool) (t:Ty) (ho:Nat→Option Nat) (ds:List t.D):Prop :=
 ∃(o:Option Nat) (xs:List Value) (Fs:List (List Nat)),Z5 w g.val o t.size ds.length xs∧g.foot=o.toList++Fs.flatten∧Fs.length=ds.length ∧
  ∀i (h:i<ds.length),∃us,us.length=t.size∧(∀j u,us[j]?=some u→xs[i * t.size+j]?=some u)∧Row w M dp t (ho i) (Fs.getD i []) ds[i] us
def Z0j (w:World) (M:Nat→Prop) (g:G) (t:Ty) (n:Nat) (ds:List t.D) (v:Value):Prop :=
 t.size=1∧∃(o:Option Nat) (xs:List Value),Z5 w g.val o t.size ds.length xs∧g.foot=o.toList∧n<ds.length∧xs[n]?=some v ∧
  ∀m (h:m<ds.length),m≠n→∃us,us.length=t.size∧(∀j u,us[j]?=some u→xs[m * t.size+j]?=some u)∧Rep w M t ds[m] us
def Zc (w:World) (M:Nat→Prop) (g:Nat→G) (r:Env) (id:Nat):Blk→Prop
 | .box l=>(g id).foot=[(g id).blk]∧∃c ty,w.heap[(g id).blk]?=some (.cells c ty (0,0))∧Z8 w M g r l c.toList
 | .arr dp t e=>Zb w M (g id) dp t (fun _=>none) (den e r)
 | .hole t e k i j a=>Zb w M (g id) true t (fun k=>if k=Int.toNat (den i r) then some j else none) (den e r)∧∃v,Z7 w M g r (.nref id t k i j) v∧Z7 w M g r a v
 | .lent t e k i a=>∃v,Z0j w M (g id) t (Int.toNat (den i r)) (den e r) v∧Z7 w M g r a v
def Mt (Z:Nat→Prop) (h:Nat→Option Blk) (g:Nat→G) (b:Nat):Prop:=(∃id B,h id=some B∧b∈(g id).foot)∨Z b
structure Bd where
 M0:Nat→Prop
 w0:World
 pins:List G
 kp:List (Nat×Nat)
 kept:Nat→Nat→Option Value
 Z:Nat→Prop
structure Wd (b:Bd) (w:World):Prop where
 os:w.os=b.w0.os
 tape:w.tape=b.w0.tape
 output:w.output=b.w0.output
 size:b.w0.heap.size≤w.heap.size
 heap:∀k,k<b.w0.heap.size→¬b.M0 k→w.heap[k]?=b.w0.heap[k]?
 zone:∀k,b.Z k→k<b.w0.heap.size∧¬b.M0 k
structure R (bd:Bd) (N:Nat→Prop) (s:St) (r:Env) (g:Nat→G) (tm:Array Value) (st:List (Array Value)) (w:World):Prop where
 cur:Za w (Mt bd.Z s.heap g) g r s.cur tm.toList
 stk:Z0i w (Mt bd.Z s.heap g) g r s.stk st
 heap:∀id B,s.heap id=some B→Zc w (Mt bd.Z s.heap g) g r id B
 inj:∀id id' B B' b,s.heap id=some B→s.heap id'=some B'→b∈(g id).foot→b∈(g id').foot→id=id'
 nodup:∀id B,s.heap id=some B→(g id).foot.Nodup
 own:∀id B,s.heap id=some B→∀b∈(g id).foot,bd.M0 b∨bd.w0.heap.size≤b
 lt:∀id B,s.heap id=some B→∀b∈(g id).foot,b<w.heap.size
 world:Wd bd w
 pin:∀k p,bd.pins[k]?=some p→k<s.np→(g k).blk=p.blk∧(g k).val=p.val
 np:s.np=bd.pins.length
 kp:s.kp=bd.kp
 kept:∀c∈bd.kp,cell w (g c.1).blk c.2=bd.kept c.1 c.2
 kpl:∀c∈bd.kp,c.1<s.np∧∃l,s.heap c.1=some (.box l)
 ncur:∀v∈s.cur,v.all (Atom.ok N s.heap)
 nstk:∀f∈s.stk,∀v∈f,v.all (Atom.ok N s.heap)
 nheap:∀id B,s.heap id=some B→B.ok N s.heap
theorem Z7.keep {w w':World} {M M':Nat→Prop} {g g':Nat→G} {r r':Env} (hk:Kept w M w' M') {N:Nat→Prop} (hr:∀i,N i→r' i=r i) {a:Atom} (hn:a.vs N)
  (hg:∀id,a.uses id=true→(g' id).blk=(g id).blk∧(g' id).val=(g id).val)
  (hs:∀id,a.nst=true→a.uses id=true→g' id=g id∧∀p n c,(g id).val=.slice (some p) n c→p.block∈(g id).foot→w'.heap[p.block]?=w.heap[p.block]?) {v:Value} (h:Z7 w M g r a v):Z7 w' M' g' r' a v:=by
 cases a with
 | no=>trivial
 | un=>exact h
 | nil=>exact h
 | x t e=>simp only [Z7] at h ⊢;rw [Z0a hr e hn];exact h.keep hk
 | xc t e=>simp only [Z7] at h ⊢;rw [Z0a hr e hn];exact ⟨h.1.keep hk,h.2⟩
 | ref id=>simp only [Z7] at h ⊢;rw [(hg id (by simp [Atom.uses])).2];exact h
 | ptr id j=>simp only [Z7] at h ⊢;rw [(hg id (by simp [Atom.uses])).1];exact h
 | eptr id t k i j=>simp only [Z7] at h ⊢;rw [(hg id (by simp [Atom.uses])).2,Z0a hr i hn];exact h
 | xptr c t l k i j =>
  simp only [Z7] at h ⊢
  rw [Z0a hr i hn.2,Z0a hr l hn.1]
  obtain ⟨p,n,cp,h1,h2⟩:=h
  exact ⟨p,n,cp,h1.keep hk,h2⟩
 | clo f caps =>
  simp only [Z7] at h ⊢
  rw [h]
  congr 2
  refine Ys fun c hc=>?_
  rw [(hg c.1 (by simp only [Atom.uses,YQ];exact ⟨c,hc,by simp⟩)).1]
 | nref id t k i j =>
  simp only [Z7] at h ⊢
  obtain ⟨e1,e2⟩:=hs id rfl (by simp [Atom.uses])
  rw [e1,Z0a hr i hn]
  obtain ⟨p,n,c,h1,h2,h3,h4,h5⟩:=h
  exact ⟨p,n,c,h1,h2,h3,h4,(Z0c (e2 p n c h1 h2) _).trans h5⟩
 | nptr id t k i j u k' i' j' =>
  simp only [Z7] at h ⊢
  obtain ⟨e1,e2⟩:=hs id rfl (by simp [Atom.uses])
  rw [e1,Z0a hr i hn.1,Z0a hr i' hn.2]
  obtain ⟨p,n,c,q,n',c',h1,h2,h3,h4,h5,h6⟩:=h
  exact ⟨p,n,c,q,n',c',h1,h2,h3,h4,(Z0c (e2 p n c h1 h2) _).trans h5,h6⟩
 | vw id t lo hi =>
  simp only [Z7] at h ⊢
  rw [(hg id (by simp [Atom.uses])).2,Z0a hr lo hn.1,Z0a hr hi hn.2]
  exact h
theorem Z8.imp {w w':World} {M M':Nat→Prop} {g g':Nat→G} {r r':Env}:∀{l l':List Atom} {vs:List Value},Z8 w M g r l vs→l'.length=l.length →
  (∀(i:Nat) a a' v,l[i]?=some a→l'[i]?=some a'→vs[i]?=some v→Z7 w M g r a v→Z7 w' M' g' r' a' v)→Z8 w' M' g' r' l' vs
 | [],[],[],_,_,_=>trivial
 | a::l,a'::l',v::vs,h,hl,hi=>⟨hi 0 a a' v rfl rfl rfl h.1,Z8.imp h.2 (by simpa using hl) fun i b b' u hb hb' hu=>hi (i+1) b b' u hb hb' hu⟩
 | [],[],_::_,h,_,_=>h.elim
 | _::_,_,[],h,_,_=>h.elim
 | [],_::_,_,_,hl,_=>by simp at hl
 | _::_,[],_,_,hl,_=>by simp at hl
def SV.map (f:Atom→Atom):SV→SV
 | .a x=>.a (f x)
 | .agg l=>.agg (l.map f)
 | .tup l=>.tup (l.map fun c=>(c.1,c.2.map f))
def Blk.map (f:Atom→Atom):Blk→Blk
 | .box l=>.box (l.map f)
 | .arr dp t e=>.arr dp t e
 | .hole t e k i j a=>.hole t e k i j (f a)
 | .lent t e k i a=>.lent t e k i (f a)
section
variable {w w':World} {M M':Nat→Prop} {g g':Nat→G} {r r':Env} {f:Atom→Atom} {N N':Nat→Prop} {p p':Atom→Prop}
theorem Z8.map (hf:∀a v,p a→Z7 w M g r a v→Z7 w' M' g' r' (f a) v):∀{l:List Atom} {vs:List Value},(∀a∈l,p a)→Z8 w M g r l vs→Z8 w' M' g' r' (l.map f) vs
 | [],[],_,_=>trivial
 | a::l,v::vs,hn,h=>⟨hf a v (hn a (Yd ..)) h.1,Z8.map hf (fun b hb=>hn b (Yc _ hb)) h.2⟩
 | [],_::_,_,h=>h.elim
 | _::_,[],_,h=>h.elim
theorem Z0h.map (hf:∀a v,p a→Z7 w M g r a v→Z7 w' M' g' r' (f a) v):∀{l:List (Bool×List Atom)} {vs:List Value},(∀c∈l,∀a∈c.2,p a)→Z0h w M g r l vs →
  Z0h w' M' g' r' (l.map fun c=>(c.1,c.2.map f)) vs
 | [],[],_,_=>trivial
 | (true,l)::t,v::vs,hn,⟨⟨cs,h1,h2⟩,h3⟩=>⟨⟨cs,h1,Z8.map hf (hn _ (Yd ..)) h2⟩,Z0h.map hf (fun c hc=>hn c (Yc _ hc)) h3⟩
 | (false,l)::t,v::vs,hn,⟨h,h3⟩=>⟨Z8.map hf (hn _ (Yd ..)) h,Z0h.map hf (fun c hc=>hn c (Yc _ hc)) h3⟩
 | [],_::_,_,h=>h.elim
 | _::_,[],_,h=>h.elim
theorem Z9.map (hf:∀a v,p a→Z7 w M g r a v→Z7 w' M' g' r' (f a) v) {s:SV} {v:Value} (hn:s.all p) (h:Z9 w M g r s v):Z9 w' M' g' r' (s.map f) v:=by
 cases s with
 | a x=>exact hf x v hn h
 | agg l=>obtain ⟨cs,h1,h2⟩:=h;exact ⟨cs,h1,h2.map hf hn⟩
 | tup l=>obtain ⟨cs,h1,h2⟩:=h;exact ⟨cs,h1,h2.map hf hn⟩
theorem Za.map (hf:∀a v,p a→Z7 w M g r a v→Z7 w' M' g' r' (f a) v):∀{l:List SV} {vs:List Value},(∀c∈l,c.all p)→Za w M g r l vs →
  Za w' M' g' r' (l.map (SV.map f)) vs
 | [],[],_,_=>trivial
 | a::l,v::vs,hn,h=>⟨h.1.map hf (hn a (Yd ..)),Za.map hf (fun b hb=>hn b (Yc _ hb)) h.2⟩
 | [],_::_,_,h=>h.elim
 | _::_,[],_,h=>h.elim
theorem Z0i.map (hf:∀a v,p a→Z7 w M g r a v→Z7 w' M' g' r' (f a) v):∀{l:List (List SV)} {vs:List (Array Value)},(∀c∈l,∀v∈c,v.all p)→Z0i w M g r l vs →
  Z0i w' M' g' r' (l.map (List.map (SV.map f))) vs
 | [],[],_,_=>trivial
 | a::l,v::vs,hn,h=>⟨h.1.map hf (hn a (Yd ..)),Z0i.map hf (fun b hb=>hn b (Yc _ hb)) h.2⟩
 | [],_::_,_,h=>h.elim
 | _::_,[],_,h=>h.elim
theorem SV.all_map {s:SV} (h:s.all p) (hf:∀a,p a→p' (f a)):(s.map f).all p':=by
 cases s with
 | a x=>exact hf x h
 | agg l=>intro a ha;obtain ⟨b,hb,rfl⟩:=Yo.1 ha;exact hf b (h b hb)
 | tup l =>
  intro c hc a ha
  obtain ⟨c',hc',rfl⟩:=Yo.1 hc
  obtain ⟨b,hb,rfl⟩:=Yo.1 ha
  exact hf b (h c' hc' b hb)
theorem Za.length:∀{l:List SV} {vs:List Value},Za w M g r l vs→l.length=vs.length
 | [],[],_=>rfl
 | _::_,_::_,h=>congrArg (·+1) (Za.length h.2)
 | [],_::_,h=>h.elim
 | _::_,[],h=>h.elim
theorem Za.get:∀{l:List SV} {vs:List Value} {i:Nat} {s:SV},Za w M g r l vs→l[i]?=some s→∃v,vs[i]?=some v∧Z9 w M g r s v
 | [],[],_,_,_,h=>by simp at h
 | _::_,v::_,0,s,h,hs=>⟨v,rfl,by simp at hs;exact hs▸h.1⟩
 | a::l,b::bs,i+1,s,h,hs=>let ⟨u,hu,hr⟩:=Za.get (l:=l) (vs:=bs) (i:=i) h.2 (by simpa using hs);⟨u,by simpa using hu,hr⟩
 | [],_::_,_,_,h,_=>h.elim
 | _::_,[],_,_,h,_=>h.elim
theorem Za.set:∀{l:List SV} {vs:List Value} {i:Nat} {s:SV} {v:Value},Za w M g r l vs→Z9 w M g r s v→Za w M g r (l.set i s) (vs.set i v)
 | [],[],_,_,_,_,_=>trivial
 | _::_,_::_,0,_,_,h,hs=>⟨hs,h.2⟩
 | _::_,_::_,i+1,_,_,h,hs=>⟨h.1,Za.set h.2 hs⟩
 | [],_::_,_,_,_,h,_=>h.elim
 | _::_,[],_,_,_,h,_=>h.elim
theorem Z8.length:∀{l:List Atom} {vs:List Value},Z8 w M g r l vs→l.length=vs.length
 | [],[],_=>rfl
 | _::_,_::_,h=>congrArg (·+1) (Z8.length h.2)
 | [],_::_,h=>h.elim
 | _::_,[],h=>h.elim
theorem Z8.get:∀{l:List Atom} {vs:List Value} {i:Nat} {s:Atom},Z8 w M g r l vs→l[i]?=some s→∃v,vs[i]?=some v∧Z7 w M g r s v
 | [],[],_,_,_,h=>by simp at h
 | _::_,v::_,0,s,h,hs=>⟨v,rfl,by simp at hs;exact hs▸h.1⟩
 | a::l,b::bs,i+1,s,h,hs=>let ⟨u,hu,hr⟩:=Z8.get (l:=l) (vs:=bs) (i:=i) h.2 (by simpa using hs);⟨u,by simpa using hu,hr⟩
 | [],_::_,_,_,h,_=>h.elim
 | _::_,[],_,_,h,_=>h.elim
theorem Z8.set:∀{l:List Atom} {vs:List Value} {i:Nat} {s:Atom} {v:Value},Z8 w M g r l vs→Z7 w M g r s v→Z8 w M g r (l.set i s) (vs.set i v)
 | [],[],_,_,_,_,_=>trivial
 | _::_,_::_,0,_,_,h,hs=>⟨hs,h.2⟩
 | _::_,_::_,i+1,_,_,h,hs=>⟨h.1,Z8.set h.2 hs⟩
 | [],_::_,_,_,_,h,_=>h.elim
 | _::_,[],_,_,_,h,_=>h.elim
theorem Z8.append:∀{l l':List Atom} {vs vs':List Value},Z8 w M g r l vs→Z8 w M g r l' vs'→Z8 w M g r (l++l') (vs++vs')
 | [],_,[],_,_,h'=>h'
 | _::_,_,_::_,_,h,h'=>⟨h.1,Z8.append h.2 h'⟩
 | [],_,_::_,_,h,_=>h.elim
 | _::_,_,[],_,h,_=>h.elim
theorem Z8.take:∀{l:List Atom} {vs:List Value} (n:Nat),Z8 w M g r l vs→Z8 w M g r (l.take n) (vs.take n)
 | [],[],_,_=>by simp [Z8]
 | _::_,_::_,0,_=>trivial
 | _::_,_::_,n+1,h=>⟨h.1,Z8.take n h.2⟩
 | [],_::_,_,h=>h.elim
 | _::_,[],_,h=>h.elim
theorem Z8.drop:∀{l:List Atom} {vs:List Value} (n:Nat),Z8 w M g r l vs→Z8 w M g r (l.drop n) (vs.drop n)
 | [],[],_,_=>by simp [Z8]
 | _::_,_::_,0,h=>h
 | _::_,_::_,n+1,h=>Z8.drop n h.2
 | [],_::_,_,h=>h.elim
 | _::_,[],_,h=>h.elim
theorem Row.keep (hk:Kept w M w' M') {dp:Bool} {t:Ty} {ho:Option Nat} {F:List Nat} {d:t.D} {us:List Value} (hF:∀b∈F,w'.heap[b]?=w.heap[b]?)
  (h:Row w M dp t ho F d us):Row w' M' dp t ho F d us:=by
 unfold Row at *
 split
 ·rename_i hd;simp only [hd,if_true] at h;exact h.keep hF
 ·rename_i hd;simp only [hd,if_false,Yg] at h;exact ⟨h.1,h.2.keep hk⟩
theorem Zb.keep (hk:Kept w M w' M') {g0:G} {dp:Bool} {t:Ty} {ho:Nat→Option Nat} {ds:List t.D} (hb:∀b∈g0.foot,w'.heap[b]?=w.heap[b]?)
  (h:Zb w M g0 dp t ho ds):Zb w' M' g0 dp t ho ds:=by
 obtain ⟨o,xs,Fs,h1,h2,h3,h4⟩:=h
 refine ⟨o,xs,Fs,h1.keep fun b ho=>hb b (by rw [h2];simp [ho]),h2,h3,fun i hi=>?_⟩
 obtain ⟨us,a1,a2,a3⟩:=h4 i hi
 exact ⟨us,a1,a2,a3.keep hk fun b hb'=>hb b (by rw [h2];exact Y0 _ (Z0f hb'))⟩
theorem Z0j.keep (hk:Kept w M w' M') {g0:G} {t:Ty} {n:Nat} {ds:List t.D} {v:Value} (hb:∀b∈g0.foot,w'.heap[b]?=w.heap[b]?)
  (h:Z0j w M g0 t n ds v):Z0j w' M' g0 t n ds v:=by
 obtain ⟨h0,o,xs,h1,h2,h3,h4,h5⟩:=h
 refine ⟨h0,o,xs,h1.keep fun b ho=>hb b (by rw [h2];simp [ho]),h2,h3,h4,fun i hi hn=>?_⟩
 obtain ⟨us,a1,a2,a3⟩:=h5 i hi hn
 exact ⟨us,a1,a2,a3.keep hk⟩
theorem Zc.keep {h0:Nat→Option Blk} (hk:Kept w M w' M') (hr:∀i,N i→r' i=r i) (hf:∀a v,a.ok N h0→Z7 w M g r a v→Z7 w' M' g' r' (f a) v) {id:Nat} {B:Blk}
  (hn:B.ok N h0) (hg:g' id=g id) (hb:∀b∈(g id).foot,w'.heap[b]?=w.heap[b]?) (h:Zc w M g r id B):Zc w' M' g' r' id (B.map f):=by
 cases B with
 | box l =>
  obtain ⟨h0,c,ty,h1,h2⟩:=h
  refine ⟨by rw [hg];exact h0,c,ty,?_,h2.map hf hn⟩
  rw [hg,hb _ (by rw [h0];simp)]
  exact h1
 | arr dp t e =>
  simp only [Zc,Blk.map] at h ⊢
  rw [hg,Z0a hr e hn]
  exact h.keep hk hb
 | hole t e k i j a =>
  simp only [Zc,Blk.map] at h ⊢
  obtain ⟨h1,v,h2,h3⟩:=h
  refine ⟨?_,v,?_,hf a v hn.2.2 h3⟩
  ·rw [hg,Z0a hr e hn.1,Z0a hr i hn.2.1]
   exact h1.keep hk hb
  ·refine Z7.keep hk hr (N:=N) (a:=.nref id t k i j) hn.2.1 (fun m hm=>?_) (fun m _ hm=>?_) h2
   ·simp only [Atom.uses,beq_iff_eq] at hm;subst hm;rw [hg];exact ⟨rfl,rfl⟩
   ·simp only [Atom.uses,beq_iff_eq] at hm;subst hm;exact ⟨hg,fun p n c _ hp=>hb _ hp⟩
 | lent t e k i a =>
  simp only [Zc,Blk.map] at h ⊢
  obtain ⟨v,h1,h3⟩:=h
  refine ⟨v,?_,hf a v hn.2.2 h3⟩
  rw [hg,Z0a hr e hn.1,Z0a hr i hn.2.1]
  exact h1.keep hk hb
end
theorem R.step {bd:Bd} {N N':Nat→Prop} {s:St} {r r':Env} {g g':Nat→G} {tm:Array Value} {st:List (Array Value)} {w w':World} (h:R bd N s r g tm st w)
  (f:Atom→Atom) (h':Nat→Option Blk) (b':Nat)
  (hf:∀a v,a.ok N s.heap→Z7 w (Mt bd.Z s.heap g) g r a v→Z7 w' (Mt bd.Z h' g') g' r' (f a) v) (hfn:∀a,a.ok N s.heap→(f a).ok N' h')
  (heap:∀id B,h' id=some B→Zc w' (Mt bd.Z h' g') g' r' id B)
  (inj:∀id id' B B' b,h' id=some B→h' id'=some B'→b∈(g' id).foot→b∈(g' id').foot→id=id')
  (nodup:∀id B,h' id=some B→(g' id).foot.Nodup)
  (own:∀id B,h' id=some B→∀b∈(g' id).foot,bd.M0 b∨bd.w0.heap.size≤b)
  (lt:∀id B,h' id=some B→∀b∈(g' id).foot,b<w'.heap.size)
  (world:Wd bd w') (kept:∀c∈bd.kp,cell w' (g' c.1).blk c.2=bd.kept c.1 c.2) (pin:∀k,k<s.np→(g' k).blk=(g k).blk∧(g' k).val=(g k).val) (kpl:∀c∈bd.kp,∃l,h' c.1=some (.box l)) (nheap:∀id B,h' id=some B→B.ok N' h') :
  R bd N' ⟨s.cur.map (SV.map f),s.stk.map (List.map (SV.map f)),h',b',s.np,s.kp⟩ r' g' tm st w' where
 cur:=h.cur.map hf h.ncur
 stk:=h.stk.map hf h.nstk
 heap:=heap
 inj:=inj
 nodup:=nodup
 own:=own
 lt:=lt
 world:=world
 pin:=fun k p hp hk=>by
  obtain ⟨h1,h2⟩:=h.pin k p hp hk
  obtain ⟨h3,h4⟩:=pin k hk
  exact ⟨h3.trans h1,h4.trans h2⟩
 np:=h.np
 kp:=h.kp
 kept:=kept
 kpl:=fun c hc=>⟨(h.kpl c hc).1,kpl c hc⟩
 ncur:=by
  intro v hv
  obtain ⟨u,hu,rfl⟩:=Yo.1 hv
  exact SV.all_map (h.ncur u hu) hfn
 nstk:=by
  intro fr hfr v hv
  obtain ⟨fr',hfr',rfl⟩:=Yo.1 hfr
  obtain ⟨u,hu,rfl⟩:=Yo.1 hv
  exact SV.all_map (h.nstk fr' hfr' u hu) hfn
 nheap:=nheap
theorem R.put {bd:Bd} {N:Nat→Prop} {s:St} {r:Env} {g:Nat→G} {tm:Array Value} {st:List (Array Value)} {w:World} (h:R bd N s r g tm st w)
  {d:Nat} {sv:SV} {v:Value} (hv:Z9 w (Mt bd.Z s.heap g) g r sv v) (hn:sv.all (Atom.ok N s.heap)) :
  R bd N { s with cur:=s.cur.set d sv } r g (tm.setIfInBounds d v) st w where
 cur:=by rw [Array.toList_setIfInBounds];exact h.cur.set hv
 stk:=h.stk
 heap:=h.heap
 inj:=h.inj
 nodup:=h.nodup
 own:=h.own
 lt:=h.lt
 world:=h.world
 pin:=h.pin
 np:=h.np
 kp:=h.kp
 kept:=h.kept
 kpl:=h.kpl
 ncur:=by
  intro u hu
  rcases List.mem_or_eq_of_mem_set hu with hu | rfl
  ·exact h.ncur u hu
  ·exact hn
 nstk:=h.nstk
 nheap:=h.nheap
theorem R.notZ {bd:Bd} {N:Nat→Prop} {s:St} {r:Env} {g:Nat→G} {tm:Array Value} {st:List (Array Value)} {w:World} (h:R bd N s r g tm st w) {id:Nat} {B:Blk} (hB:s.heap id=some B) {b:Nat} (hb:b∈(g id).foot):¬bd.Z b:=by
 intro hz
 obtain ⟨h1,h2⟩:=h.world.zone b hz
 rcases h.own id B hB b hb with h3 | h3
 ·exact h2 h3
 ·omega
theorem Bd.newZ {bd:Bd} {w:World} (h:Wd bd w) {b:Nat} (hb:w.heap.size≤b):¬bd.Z b:=by
 intro hz
 have h1:=(h.zone b hz).1
 have h2:=h.size
 omega
end Go.Sm
namespace Go.Sm
inductive OC where
 | p (t:Ty) | arr (dp:Bool) (t:Ty) | pr (a b:OC)
@[reducible] def OC.ty:OC→Ty
 | .p t=>t
 | .arr _ t=>.sl false t
 | .pr a b=>.pr a.ty b.ty
def OC.n:OC→Nat
 | .pr a b=>a.n+b.n
 | _=>1
inductive CS where
 | p (t:Ty) | arr (dp:Bool) (t:Ty)
 | box (t:Ty) | eat (dp:Bool) (t:Ty)
 | self (f:FuncId) | obj (o:OC)
inductive Sh where
 | p (t:Ty) | agg (l:List CS) | arr (dp:Bool) (t:Ty) | box (t:Ty) | eat (dp:Bool) (t:Ty) | self (f:FuncId) | obj (o:OC)
structure Sig where
 ps:List Sh
 rs:List Sh
inductive Trn where
 | own (dp:Bool) (t:Ty) | pure (t:Ty) | shal | nul (t:Ty) | back
structure Hint where
 live:List (Nat×List Nat×List Nat):=[]
 acts:List (Nat×List (Nat×Option Nat×Trn)):=[]
 frz:List (Nat×Nat):=[]
 vws:List (Nat×Nat):=[]
 dup:List Nat:=[]
structure Cx where
 P:Program
 sg:FuncId→Option Sig
 hint:FuncId→Hint
 ins:FuncId→Option Ty:=fun _=>none
def coe (s t:Ty) (e:E s):Option (E t) :=
 if h:s=t then some (h▸e) else
 match s,t,e with
 | .sl true a,.sl false b,e=>if h:a=b then some (h▸(.o1 (.re true false a) e)) else none
 | _,_,_=>none
def Ty.hasSl:Ty→Bool
 | .sl _ _=>true
 | .pr a b=>a.hasSl||b.hasSl
 | _=>false
def Zd:(t:Ty)→Nat→E t→Option AE
 | .pr a b,j,e=>if j<a.size then Zd a j (.o1 (.fst a b) e) else Zd b (j - a.size) (.o1 (.snd a b) e)
 | .int k,0,e=>some ⟨.int k,e⟩
 | .bool,0,e=>some ⟨.bool,e⟩
 | .str,0,e=>some ⟨.str,e⟩
 | .sl c t,0,e=>some ⟨.sl c t,e⟩
 | _,_+1,_=>none
def Z0k (h:Nat→Option Blk) (id:Nat) (t:Ty) (k:IntKind) (i:E (.int k)) (j:Nat):Option AE :=
 match h id with
 | some (.arr true t' e)=>if hh:t'=t then Zd t j (.o2 (.idx false t k) (hh▸e) i) else none
 | _=>none
def Atom.toE (h:Nat→Option Blk) (t:Ty):Atom→Option (E t)
 | .x s e=>coe s t e
 | .xc s e=>coe (.sl false s) t e
 | .nil=>match t with
  | .sl c e=>some (.nil c e)
  | _=>none
 | .ref id=>match h id with
  | some (.arr _ s e)=>coe (.sl false s) t e
  | _=>none
 | .nref id s k i j=>(Z0k h id s k i j).bind fun a=>coe a.1 t a.2
 | _=>none
def Z0l:Value→Atom
 | .int k n=>.x (.int k) (.int k n)
 | .bool b=>.x .bool (.bool b)
 | .string s=>.x .str (.str s)
 | .slice none 0 0=>.nil
 | _=>.no
def St.get (s:St):Operand→SV
 | .tmp t=>s.cur.getD t (.a .no)
 | .const v=>.a (Z0l v)
 | .func f=>.a (.clo f [])
 | .global _=>.a .no
def SV.cells:SV→List Atom
 | .a x=>[x]
 | .agg l=>l
 | .tup _=>[]
def SV.atom:SV→Atom
 | .a x=>x
 | _=>.no
def upd (h:Nat→Option Blk) (id:Nat) (b:Option Blk):Nat→Option Blk:=fun k=>bif k==id then b else h k
def free (s:St) (id:Nat):Bool:=(s.heap id).isNone&&decide (s.np≤id)
def St.new (s:St) (id:Nat) (b:Blk):St:={ s with heap:=upd s.heap id (some b) }
def Z0m (id:Nat) (a:Atom):Atom:=bif a.uses id then .no else a
def Z0n (id:Nat) (h:Nat→Option Blk):Nat→Option Blk:=fun k=>bif k==id then none else (h k).map (Blk.map (Z0m id))
def St.kill (s:St) (id:Nat):St:=⟨s.cur.map (SV.map (Z0m id)),s.stk.map (List.map (SV.map (Z0m id))),Z0n id s.heap,s.base,s.np,s.kp⟩
def Z0o (id:Nat) (t:Ty) (e:E (.sl false t)) (a:Atom):Atom :=
 bif a.uses id then
  match a with
  | .ref _=>.x (.sl false t) e
  | .eptr _ t' k i j=>if h:t'=t then .xptr false t e k i j else .no
  | .nref _ t' k i j=>if h:t'=t then (match Zd t j (.o2 (.idx false t k) e i) with | some a=>.x a.1 a.2 | none=>.no) else .no
  | .vw _ t' lo hi=>if t'=t then .x (.sl false t) (.o2 (.drop t .i64) (.o2 (.take t .i64) e hi) lo) else .no
  | _=>.no
 else a
def St.freeze (s:St) (id:Nat):St :=
 match s.heap id with
 | some (.arr _ t e)=>⟨s.cur.map (SV.map (Z0o id t e)),s.stk.map (List.map (SV.map (Z0o id t e))),fun k=>bif k==id then none else (s.heap k).map (Blk.map (Z0o id t e)),s.base,s.np,s.kp⟩
 | _=>s
def Z0p (id:Nat) (t:Ty) (e:E (.sl false t)) (a:Atom):Atom :=
 bif a.nst&&a.uses id then
  match a with
  | .nref _ t' k i j=>if h:t'=t then (match Zd t j (.o2 (.idx false t k) e i) with | some a=>.x a.1 a.2 | none=>.no) else .no
  | _=>.no
 else a
def St.shallow (s:St) (id:Nat):St :=
 match s.heap id with
 | some (.arr true t e)=>⟨s.cur.map (SV.map (Z0p id t e)),s.stk.map (List.map (SV.map (Z0p id t e))),fun k=>bif k==id then some (.arr false t e) else (s.heap k).map (Blk.map (Z0p id t e)),s.base,s.np,s.kp⟩
 | _=>s
def Ze (id:Nat) (a:Atom):Atom:=bif a.nst&&a.uses id then .no else a
def St.unnest (s:St) (id:Nat):St:=⟨s.cur.map (SV.map (Ze id)),s.stk.map (List.map (SV.map (Ze id))),fun k=>(s.heap k).map (Blk.map (Ze id)),s.base,s.np,s.kp⟩
def refsOf (l:List Atom):List Nat:=l.filterMap fun | .ref id=>some id | .nref id _ _ _ _=>some id | .vw id _ _ _=>some id | _=>none
def St.solid (s:St) (x:Operand):St:=(refsOf (s.get x).cells).foldl St.freeze s
def St.solids (s:St) (l:List Operand):St:=l.foldl St.solid s
def Z0q (P:Program) (t:TypeId):Option Bool :=
 match P.underlying t with
 | some (.struct _)=>some true
 | some (.array _ _)=>some true
 | some _=>some false
 | none=>none
def Z0r:List Ty→Option Ty
 | []=>none
 | [a]=>some a
 | a::l=>(Z0r l).map (.pr a)
def Z0s (P:Program):Nat→TypeId→Option Ty
 | 0,_=>none
 | n+1,t =>
  match P.underlying t with
  | some (.int k)=>some (.int k)
  | some .bool=>some .bool
  | some .string=>some .str
  | some (.slice e)=>(Z0s P n e).map (.sl false)
  | some (.struct fs)=>(fs.toList.mapM fun f=>Z0s P n f.type).bind Z0r
  | _=>none
def isZ:Ty→List Value→Option (List Value)
 | .int k,.int k' 0::r=>if k=k' then some r else none
 | .bool,.bool false::r=>some r
 | .str,.string s::r=>if s.size=0 then some r else none
 | .sl _ _,.slice none 0 0::r=>some r
 | .pr a b,l=>(isZ a l).bind (isZ b)
 | _,_=>none
def Z0t (P:Program) (t:TypeId):Option Ty :=
 match P.underlying t with
 | some (.slice e) =>
  match P.info? e,Z0s P 8 e with
  | some i,some ty =>
   match i.zero with
   | some z=>if i.size=ty.size∧z.cells.size=ty.size∧i.bytes≤128 then (if (isZ ty z.cells.toList).map List.length=some 0 then some ty else none) else none
   | none=>none
  | _,_=>none
 | _=>none
def lim:Int:=549755813888
def eI (k:IntKind) (n:Int):E (.int k):=.int k n
def gLe {k k':IntKind} (a:E (.int k)) (b:E (.int k')):E .bool:=.o2 (.cm .leq k k') a b
def gLt {k k':IntKind} (a:E (.int k)) (b:E (.int k')):E .bool:=.o2 (.cm .lss k k') a b
def Zf:(t:Ty)→E t→List Atom
 | .pr a b,e=>Zf a (.o1 (.fst a b) e)++Zf b (.o1 (.snd a b) e)
 | .int k,e=>[.x (.int k) e]
 | .bool,e=>[.x .bool e]
 | .str,e=>[.x .str e]
 | .sl c t,e=>[.x (.sl c t) e]
def mkE (h:Nat→Option Blk):(t:Ty)→List Atom→Option (E t×List Atom)
 | .pr a b,l =>
  match mkE h a l with
  | some (x,l1)=>match mkE h b l1 with
   | some (y,l2)=>some (.o2 (.pair a b) x y,l2)
   | none=>none
  | none=>none
 | .int k,x::l=>(x.toE h (.int k)).map (·,l)
 | .bool,x::l=>(x.toE h .bool).map (·,l)
 | .str,x::l=>(x.toE h .str).map (·,l)
 | .sl c t,x::l=>(x.toE h (.sl c t)).map (·,l)
 | _,[]=>none
def Z0u (h:Nat→Option Blk):(t:Ty)→Nat→E t→Atom→Option (E t)
 | .pr a b,j,e,x =>
  if j<a.size then (Z0u h a j (.o1 (.fst a b) e) x).map fun u=>.o2 (.pair a b) u (.o1 (.snd a b) e)
  else (Z0u h b (j - a.size) (.o1 (.snd a b) e) x).map fun u=>.o2 (.pair a b) (.o1 (.fst a b) e) u
 | .int k,0,_,x=>x.toE h (.int k)
 | .bool,0,_,x=>x.toE h .bool
 | .str,0,_,x=>x.toE h .str
 | .sl c t,0,_,x=>x.toE h (.sl c t)
 | _,_+1,_,_=>none
abbrev Res:=Option (List (E .bool)×SV×St)
def one (s:St) (v:SV):Res:=some ([],v,s)
def ax (t:Ty) (e:E t):SV:=.a (.x t e)
def part (l:List Atom) (agg:Bool) (j n:Nat):Option SV :=
 if agg then (if j+n≤l.length∧0<n then some (.agg ((l.drop j).take n)) else none) else (l[j]?).map .a
def Z0v (id:Nat) (t0:Ty) (k:IntKind) (i:E (.int k)):(t:Ty)→Nat→E t→List Atom
 | .pr a b,o,e=>Z0v id t0 k i a o (.o1 (.fst a b) e)++Z0v id t0 k i b (o+a.size) (.o1 (.snd a b) e)
 | .sl _ _,o,_=>[.nref id t0 k i o]
 | .int k',_,e=>[.x (.int k') e]
 | .bool,_,e=>[.x .bool e]
 | .str,_,e=>[.x .str e]
def Z0w (P:Program) (s:St) (t:TypeId) (x:Operand):Res :=
 match Z0q P t,P.info? t with
 | some g,some i =>
  match s.get x with
  | .a (.ptr id j) =>
   match s.heap id with
   | some (.box l)=>(part l g j i.size).bind (one s)
   | _=>none
  | .a (.eptr id ty k ix j) =>
   match s.heap id with
   | some (.arr false ty' e)=>if h:ty'=ty then (part (Zf ty (.o2 (.idx false ty k) (h▸e) ix)) g j i.size).bind (one s) else none
   | some (.arr true ty' e)=>if h:ty'=ty then (part (Z0v id ty k ix ty 0 (.o2 (.idx false ty k) (h▸e) ix)) g j i.size).bind (one s) else none
   | some (.hole ty' _ k' ix' j' b)=>if ty'=ty∧j'=j∧i.size=1∧g=false then some (if eqE ix ix' then [] else [.o2 (.cm .eql k k') ix ix'],.a b,s) else none
   | some (.lent ty' _ k' ix' b)=>if ty'=ty∧j=0∧i.size=1∧g=false then some (if eqE ix ix' then [] else [.o2 (.cm .eql k k') ix ix'],.a b,s) else none
   | _=>none
  | .a (.xptr c ty l k ix j)=>(part (Zf ty (.o2 (.idx c ty k) l ix)) g j i.size).bind (one s)
  | .a (.nptr id ty k ix j u k' ix' j') =>
   match Z0k s.heap id ty k ix j with
   | some ⟨.sl c u',l⟩=>if h:u'=u then (if u.hasSl then none else (part (Zf u (.o2 (.idx c u k') (h▸l) ix')) g j' i.size).bind (one s)) else none
   | _=>none
  | _=>none
 | _,_=>none
def Atom.one (h:Nat→Option Blk):Atom→Bool
 | .no=>false
 | .un=>false
 | .vw _ _ _ _=>false
 | .ref id=>match h id with
  | some (.arr _ _ _)=>true
  | _=>false
 | .nref id t k i j=>(Z0k h id t k i j).isSome
 | _=>true
def SV.one (h:Nat→Option Blk):SV→Bool
 | .a x=>x.one h
 | .agg _=>true
 | .tup _=>false
def Zg (h:Nat→Option Blk):List Atom→Option (List Nat)
 | []=>some []
 | .ref id::l =>
  match h id,Zg h l with
  | some (.arr dp t _),some r=>if (dp||!t.hasSl)&&!(r.contains id) then some (id::r) else none
  | _,_=>none
 | .x t _::l=>if t.hasSl then none else Zg h l
 | .nil::l=>Zg h l
 | _::_=>none
def Atom.pure:Atom→Bool
 | .ref _=>false
 | .nref _ _ _ _ _=>false
 | .vw _ _ _ _=>false
 | _=>true
def Z0x (ty:Ty) (l:List Atom):Bool:=!ty.hasSl||l.all Atom.pure
def St.kills (s:St) (l:List Nat):St:=l.foldl St.kill s
def Z0y (h:Nat→Option Blk) (ty:Ty) (j:Nat) (row:E ty) (cs:List Atom):Option (E ty) :=
 if cs.length=ty.size∧j=0 then
  match mkE h ty cs with
  | some (u,[])=>some u
  | _=>none
 else match cs with
  | [a]=>Z0u h ty j row a
  | _=>none
def Z0z (s:St) (n:Nat) (id:Nat) (ty:Ty) (k:IntKind) (ix:E (.int k)) (j:Nat) (v:Operand):Res :=
 match s.heap id with
 | some (.arr false ty' e) =>
  if h:ty'=ty then
   if (s.get v).cells.length=n∧Z0x ty (s.get v).cells=true∧(s.get v).cells.all (Atom.one s.heap)=true then
    match Z0y s.heap ty j (.o2 (.idx false ty k) (h▸e) ix) (s.get v).cells with
    | some u=>one (s.new id (.arr false ty (.o3 (.set ty k) (h▸e) ix u))) (.a .no)
    | none=>none
   else none
  else none
 | _=>none
def Z0A (s:St) (n:Nat) (id:Nat) (ty:Ty) (k:IntKind) (ix:E (.int k)) (j:Nat) (v:Operand) (mv:List Nat):Res :=
 match s.heap id with
 | some (.arr true ty' e) =>
  if h:ty'=ty then
   if (s.get v).cells.length=n∧(s.get v).cells.all (Atom.one s.heap)=true∧!(mv.contains id) then
    match Z0y s.heap ty j (.o2 (.idx false ty k) (h▸e) ix) (s.get v).cells with
    | some u=>one (((s.kills mv).unnest id).new id (.arr true ty (.o3 (.set ty k) (h▸e) ix u))) (.a .no)
    | none=>none
   else none
  else none
 | _=>none
def Z0B (s:St) (n:Nat) (id:Nat) (ty:Ty) (k:IntKind) (ix:E (.int k)) (j:Nat) (v:Operand) (mv:List Nat):Res :=
 match s.heap id with
 | some (.hole ty' e k' ix' j' _) =>
  if h:ty'=ty then
   if j'=j∧n=1∧(s.get v).cells.length=1∧(s.get v).cells.all (Atom.one s.heap)=true∧!(mv.contains id) then
    match Z0u s.heap ty j (.o2 (.idx false ty k') (h▸e) ix') (s.get v).atom with
    | some u=>some (if eqE ix ix' then [] else [.o2 (.cm .eql k k') ix ix'],.a .no,((s.kills mv).unnest id).new id (.arr true ty (.o3 (.set ty k') (h▸e) ix' u)))
    | none=>none
   else none
  else none
 | _=>none
def Z0C (s:St) (n:Nat) (id:Nat) (ty:Ty) (k:IntKind) (ix:E (.int k)) (j:Nat) (u:Ty) (k':IntKind) (ix':E (.int k')) (j':Nat) (v:Operand):Res :=
 match s.heap id with
 | some (.arr true ty' e) =>
  if h:ty'=ty then
   match Zd ty j (.o2 (.idx false ty k) (h▸e) ix) with
   | some ⟨.sl false u',l⟩ =>
    if hu:u'=u then
     if u.hasSl=false∧(s.get v).cells.length=n∧(s.get v).cells.all (Atom.one s.heap)=true then
      match Z0y s.heap u j' (.o2 (.idx false u k') (hu▸l) ix') (s.get v).cells with
      | some c =>
       match Z0u s.heap ty j (.o2 (.idx false ty k) (h▸e) ix) (.x (.sl false u) (.o3 (.set u k') (hu▸l) ix' c)) with
       | some r=>one { s with heap:=upd s.heap id (some (.arr true ty (.o3 (.set ty k) (h▸e) ix r))) } (.a .no)
       | none=>none
      | none=>none
     else none
    else none
   | _=>none
  else none
 | _=>none
def Z0D (s:St) (n:Nat) (id j:Nat) (v:Operand):Res :=
 match s.heap id with
 | some (.box l) =>
  let cs:=(s.get v).cells
  if cs.length=n∧0<n∧cs.all (Atom.one s.heap)∧j+cs.length≤l.length∧!(s.kp.any fun c=>c.1==id&&decide (j≤c.2)&&decide (c.2<j+cs.length)) then one (s.new id (.box (l.take j++cs++l.drop (j+cs.length)))) (.a .no) else none
 | _=>none
def Z0E (P:Program) (frz:Bool) (s0:St) (t:TypeId) (x v:Operand):Res :=
 match P.info? t with
 | some i =>
  match s0.get x with
  | .a (.ptr id j)=>Z0D (s0.unnest id) i.size id j v
  | .a (.eptr id ty k ix j) =>
   match s0.heap id with
   | some (.arr true _ _) =>
    match (if frz then none else Zg s0.heap (s0.get v).cells) with
    | some mv=>Z0A s0 i.size id ty k ix j v mv
    | none=>Z0z (((s0.shallow id).solid v).unnest id) i.size id ty k ix j v
   | some (.hole _ _ _ _ _ _) =>
    match Zg s0.heap (s0.get v).cells with
    | some mv=>Z0B s0 i.size id ty k ix j v mv
    | none=>none
   | _=>Z0z ((s0.solid v).unnest id) i.size id ty k ix j v
  | .a (.nptr id ty k ix j u k' ix' j')=>Z0C s0 i.size id ty k ix j u k' ix' j' v
  | _=>none
 | none=>none
def Z0F (neq:Bool):List Atom→List Atom→Option (E .bool)
 | [.x (.int k) a],[.x (.int k') b]=>if h:k=k' then some (.o2 (.cm (if neq then .neq else .eql) k' k') (h▸a) b) else none
 | [.x .bool a],[.x .bool b]=>some (.o2 (if neq then .bne else .beq) a b)
 | .x (.int k) a::l,.x (.int k') b::m=>if h:k=k' then (Z0F neq l m).map fun r=>.o2 (if neq then .or else .and) (.o2 (.cm (if neq then .neq else .eql) k' k') (h▸a) b) r else none
 | .x .bool a::l,.x .bool b::m=>(Z0F neq l m).map fun r=>.o2 (if neq then .or else .and) (.o2 (if neq then .bne else .beq) a b) r
 | _,_=>none
def eqFields (P:Program):List Field→Nat→List Atom→Bool
 | [],_,[]=>true
 | f :: fs, i, .x (.int _) _ :: l => decide (f.offset = i) && decide (f.name ≠ "_") && decide (Z0q P f.type = some false) && (match P.underlying f.type with | some (.int _) => true | _ => false) && eqFields P fs (i + 1) l
 | f :: fs, i, .x .bool _ :: l => decide (f.offset = i) && decide (f.name ≠ "_") && decide (Z0q P f.type = some false) && (match P.underlying f.type with | some .bool => true | _ => false) && eqFields P fs (i + 1) l
 | _,_,_=>false
def Z0G (P:Program) (t:TypeId) (l:List Atom):Bool :=
 match P.underlying t with
 | some (.struct fs)=>!(P.stoodInHeld t)&&eqFields P fs.toList 0 l
 | _=>false
def Z0H (o:BinOp) (x y:Atom):Option (List (E .bool)×SV) :=
 match x,y with
 | .x (.int k) a,.x (.int k') b =>
  match o with
  | .shl=>some ([gLe (eI k' 0) b],ax (.int k) (.o2 (.sh true k k') a b))
  | .shr=>some ([gLe (eI k' 0) b],ax (.int k) (.o2 (.sh false k k') a b))
  | o =>
   if h:k=k' then
    match o with
    | .add | .sub | .mul | .and | .or | .xor | .andNot=>some ([],ax (.int k') (.o2 (.ar o k') (h▸a) b))
    | .quo | .rem=>some (match Z08 b with | some n=>if n=0 then [.bool false] else [] | none=>[.o2 (.cm .neq k' k') b (eI k' 0)],ax (.int k') (.o2 (.ar o k') (h▸a) b))
    | .eql | .neq | .lss | .leq | .gtr | .geq=>some ([],ax .bool (.o2 (.cm o k' k') (h▸a) b))
    | _=>none
   else none
 | .x .bool a,.x .bool b =>
  match o with
  | .eql=>some ([],ax .bool (.o2 .beq a b))
  | .neq=>some ([],ax .bool (.o2 .bne a b))
  | _=>none
 | .x .str a,.x .str b =>
  match o with
  | .eql=>some ([],ax .bool (.o2 .seq a b))
  | .neq=>some ([],ax .bool (.o2 .sne a b))
  | _=>none
 | .x (.sl true t) a,.nil =>
  match o with
  | .eql=>some ([],ax .bool (.o1 (.emp true t) a))
  | .neq=>some ([],ax .bool (.o1 .not (.o1 (.emp true t) a)))
  | _=>none
 | .x (.sl false t) a,.nil =>
  match o with
  | .eql=>some ([.o1 .not (.o1 (.emp false t) a)],ax .bool (.bool false))
  | .neq=>some ([.o1 .not (.o1 (.emp false t) a)],ax .bool (.bool true))
  | _=>none
 | _,_=>none
def Z0I (h:Nat→Option Blk) (t:Ty):Atom→Option (E (.sl false t)):=Atom.toE h (.sl false t)
def vwE (h:Nat→Option Blk) (t:Ty):Atom→Option (E (.sl false t))
 | .vw id u lo hi=>match h id with
  | some (.arr _ u' e)=>if hh:u'=t∧u=t then some (.o2 (.drop t .i64) (.o2 (.take t .i64) (hh.1▸e) hi) lo) else none
  | _=>none
 | _=>none
def Z0J (h:Nat→Option Blk):Atom→Option (E (.int .i64))
 | .x (.sl c t) e=>some (.o1 (.len c t) e)
 | .x .str e=>some (.o1 .slen e)
 | .xc t e=>some (.o1 (.len false t) e)
 | .nil=>some (.int .i64 0)
 | .ref id=>match h id with
  | some (.arr _ t e)=>some (.o1 (.len false t) e)
  | _=>none
 | .nref id t k i j=>match Z0k h id t k i j with
  | some ⟨.sl c u,l⟩=>some (.o1 (.len c u) l)
  | _=>none
 | .vw id t lo hi=>(vwE h t (.vw id t lo hi)).map fun l=>.o1 (.len false t) l
 | _=>none
def Z0K (P:Program) (t:TypeId):Atom→Bool
 | .x .str _=>match P.underlying t with
  | some .string=>true
  | _=>false
 | _=>match P.underlying t with
  | some (.slice _)=>true
  | _=>false
def Atom.isRef (i:Nat):Atom→Bool
 | .ref j=>j==i
 | .nref j _ _ _ _=>j==i
 | _=>false
def Zh {t:Ty} (e:E (.sl false t)):E (.int .i64):=.o1 (.len false t) e
def Z0L {t:Ty} (a b:E (.sl false t)):List (E .bool):=[gLe (Zh a) (eI .i64 lim),gLe (Zh b) (eI .i64 lim)]
def Z0M (h:Nat→Option Blk) (dp:Bool) (ty:Ty) (a:Atom):Option (E (.sl false ty)×List Nat) :=
 match a.toE h (.sl false ty) with
 | some e =>
  if dp then
   match a with
   | .ref id=>match h id with
    | some (.arr true _ _)=>some (e,[id])
    | _=>none
   | .nil=>some (e,[])
   | _=>none
  else if ty.hasSl then
   match a with
   | .x _ _=>some (e,[])
   | .xc _ _=>some (e,[])
   | .nil=>some (e,[])
   | .ref id=>match h id with
    | some (.arr false _ _)=>some (e,[])
    | _=>none
   | _=>none
  else some (e,[])
 | none=>none
def Z0N:{t:Ty}→E t→Bool
 | _,.o1 (.one _) _=>true
 | _,_=>false
def Z0O {t:Ty} (e1 e2:E (.sl false t)):List (E .bool):=if Z0N e2 then [] else [.o2 .or (.o1 .not (.o1 (.emp false t) e2)) (.o1 (.emp false t) e1)]
def Z0P (P:Program) (t:TypeId):Bool:=match P.underlying t with
 | some (.slice _)=>true
 | _=>false
def Z0Q (frz:Bool) (s:St) (ty:Ty) (x y:Operand):St :=
 match (s.get x).atom with
 | .ref i=>if frz||(Z0M s.heap true ty (s.get y).atom).isNone then s.shallow i else s
 | _=>s
def Z0R (s:St) (id:Nat) (ty:Ty) (i:Nat) (y:Operand):Res :=
 match s.heap i with
 | some (.arr dp ty' e1) =>
  if h:ty'=ty then
   match Z0M s.heap dp ty (s.get y).atom with
   | some (e2,mv) =>
    if !((s.get y).atom.isRef i)&&free s id then
     some (Z0L (h▸e1) e2,.a (.ref id),(s.kills (mv++[i])).new id (.arr dp ty (.o2 (.app ty) (h▸e1) e2)))
    else none
   | none=>none
  else none
 | _=>none
def Z0S (frz:Bool) (s:St) (id:Nat) (ty:Ty) (y:Operand):Res :=
 match (if frz then none else Z0M s.heap ty.hasSl ty (s.get y).atom) with
 | some (e2,mv)=>if free s id then some ([gLe (Zh e2) (eI .i64 lim)],.a (.ref id),(s.kills mv).new id (.arr ty.hasSl ty e2)) else none
 | none =>
  match Z0M (s.solid y).heap false ty ((s.solid y).get y).atom with
  | some (e2,mv)=>if free (s.solid y) id then some ([gLe (Zh e2) (eI .i64 lim)],.a (.ref id),((s.solid y).kills mv).new id (.arr false ty e2)) else none
  | none=>none
def Z0T (s:St) (id:Nat) (ty:Ty) (e1:E (.sl false ty)) (y:Operand):Res :=
 match Z0M s.heap false ty (s.get y).atom with
 | some (e2,mv)=>if free s id then some (Z0O e1 e2++Z0L e1 e2,.a (.ref id),(s.kills mv).new id (.arr false ty (.o2 (.app ty) e1 e2))) else none
 | none=>none
def Z0U (s:St) (id:Nat) (ty:Ty) (i:Nat) (t0:Ty) (k:IntKind) (ix:E (.int k)) (j:Nat) (y:Operand):Res :=
 match s.heap i with
 | some (.arr true t' e) =>
  if ht:t'=t0 then
   match Zd t0 j (.o2 (.idx false t0 k) (ht▸e) ix) with
   | some ⟨.sl false u,l⟩ =>
    if hu:u=ty then
     match Z0M s.heap ty.hasSl ty (s.get y).atom with
     | some (e2,mv) =>
      if !((s.get y).atom.isRef i)&&free s id then
       some (Z0L (hu▸l) e2,.a (.ref id),(((s.kills mv).unnest i).new id (.arr ty.hasSl ty (.o2 (.app ty) (hu▸l) e2))).new i (.hole t0 (ht▸e) k ix j .no))
      else none
     | none=>none
    else none
   | _=>none
  else none
 | _=>none
def Z0V (s:St) (ty:Ty) (x y:Operand):Res :=
 match (s.get x).atom with
 | .vw j ty1 lo hi =>
  match s.heap j with
  | some (.arr false ty' e1) =>
   if h:ty'=ty then
    if ty1=ty then
     match Z0M s.heap false ty (s.get y).atom with
     | some (e2,mv) =>
      if !((s.get y).atom.isRef j)&&mv.isEmpty then
       some (.o2 (.cm .eql .i64 .i64) hi (Zh (h▸e1:E (.sl false ty)))::Z0L (h▸e1) e2,.a (.x (.sl false ty) (.o2 (.app ty) (.o2 (.drop ty .i64) (.o2 (.take ty .i64) (h▸e1) hi) lo) e2)),(s.unnest j).freeze j)
      else none
     | none=>none
    else none
   else none
  | _=>none
 | _=>none
def Z0W (frz:Bool) (s:St) (id:Nat) (ty:Ty) (x y:Operand):Res :=
 match (s.get x).atom with
 | .vw _ _ _ _=>Z0V (s.solid y) ty x y
 | .ref i=>Z0R s id ty i y
 | .nil=>Z0S frz s id ty y
 | .xc ty' e1=>if h:ty'=ty then Z0T s id ty (h▸e1) y else none
 | .nref i t0 k ix j=>Z0U s id ty i t0 k ix j y
 | _=>none
def Z0X (P:Program) (frz:Bool) (s:St) (id:Nat) (t:TypeId) (x y:Operand):Res :=
 match Z0t P t with
 | some ty=>Z0W frz (Z0Q frz s ty x y) id ty x y
 | none=>none
def Z0Y (s:St) (ty:Ty) (i:Nat) (y:Operand):Res :=
 match Z0M s.heap false ty (s.get y).atom with
 | some (e2,_) =>
  match s.heap i with
  | some (.arr false ty' e1) =>
   if h:ty'=ty then
    if !((s.get y).atom.isRef i) then
     some ([],ax (.int .i64) (.o2 (.mn .i64) (Zh e2) (Zh (h▸e1:E (.sl false ty)))),s.new i (.arr false ty (.o2 (.over ty) (h▸e1) e2)))
    else none
   else none
  | _=>none
 | none=>none
def Z0Z (s:St) (ty:Ty) (i:Nat) (y:Operand):Res :=
 match s.heap i with
 | some (.arr true ty' e1) =>
  if h:ty'=ty then
   match Z0M s.heap true ty (s.get y).atom with
   | some (e2,mv) =>
    if !((s.get y).atom.isRef i)&&!(mv.contains i) then
     some ([],ax (.int .i64) (.o2 (.mn .i64) (Zh e2) (Zh (h▸e1:E (.sl false ty)))),((s.kills mv).unnest i).new i (.arr true ty (.o2 (.over ty) (h▸e1) e2)))
    else none
   | none=>none
  else none
 | _=>none
def Z0_ (s:St) (ty:Ty) (i:Nat) (e1:E (.sl false ty)):Atom→Option (E (.sl false ty))
 | .vw j ty2 lo hi=>if j=i∧ty2=ty then some (.o2 (.drop ty .i64) (.o2 (.take ty .i64) e1 hi) lo) else none
 | a=>if a.isRef i then none else (Z0M s.heap false ty a).map (·.1)
def Z10 (s:St) (ty:Ty) (i:Nat) (lo hi:E (.int .i64)) (y:Operand):Res :=
 match s.heap i with
 | some (.arr false ty' e1) =>
  if h:ty'=ty then
   match Z0_ s ty i (h▸e1) (s.get y).atom with
   | some e2 =>
    some ([],ax (.int .i64) (.o2 (.mn .i64) (Zh e2) (Zh (.o2 (.drop ty .i64) (.o2 (.take ty .i64) (h▸e1) hi) lo:E (.sl false ty)))),
     s.new i (.arr false ty (.o2 (.app ty) (.o2 (.app ty) (.o2 (.take ty .i64) (h▸e1) lo) (.o2 (.over ty) (.o2 (.drop ty .i64) (.o2 (.take ty .i64) (h▸e1) hi) lo) e2)) (.o2 (.drop ty .i64) (h▸e1) hi))))
   | none=>none
  else none
 | _=>none
def Z11 (P:Program) (frz:Bool) (s:St) (t:TypeId) (x y:Operand):Res :=
 match Z0t P t with
 | some ty =>
  match (s.get x).atom with
  | .ref i=>match (if frz then none else Z0Z s ty i y) with
   | some q=>some q
   | none=>Z0Y ((s.shallow i).unnest i) ty i y
  | .vw i ty' lo hi=>if ty'=ty then Z10 (s.unnest i) ty i lo hi y else none
  | _=>none
 | none=>none
def Z12 (P:Program) (s:St) (id:Nat) (t:TypeId) (x y:Operand):Res :=
 match Z0t P t with
 | some ty =>
  match (s.get x).atom,(s.get y).atom with
  | .x (.int .i64) n,.x (.int .i64) c =>
   if free s id then some ([gLe (eI .i64 0) n,gLe n c,gLe c (eI .i64 lim)],.a (.ref id),s.new id (.arr ty.hasSl ty (.o2 (.rep ty .i64) n (.z ty)))) else none
  | _,_=>none
 | none=>none
def Z13 (h:Nat→Option Blk) (ty:Ty):List SV→Option (E (.sl false ty))
 | []=>some (.nil false ty)
 | v::l =>
  match mkE h ty v.cells,Z13 h ty l with
  | some (e,[]),some r=>match l with
   | []=>some (.o1 (.one ty) e)
   | _=>some (.o2 (.app ty) (.o1 (.one ty) e) r)
  | _,_=>none
def Z14 (s:St) (id:Nat) (ty:Ty) (vs:List Operand):Res :=
 if free s id&&Z0x ty (vs.flatMap fun v=>(s.get v).cells)&&(vs.all fun v=>(s.get v).one s.heap) then (Z13 s.heap ty (vs.map s.get)).map fun e=>([],.a (.ref id),s.new id (.arr false ty e)) else none
def Z15 (s:St) (id:Nat) (ty:Ty) (vs:List Operand) (mv:List Nat):Res :=
 if free s id&&(vs.all fun v=>(s.get v).one s.heap) then (Z13 s.heap ty (vs.map s.get)).map fun e=>([],.a (.ref id),(s.kills mv).new id (.arr true ty e)) else none
def Z16 (P:Program) (frz:Bool) (s0:St) (id:Nat) (t:TypeId) (n:Nat) (parts:List (Nat×Operand)):Res :=
 match Z0t P t with
 | some ty =>
  if (parts.map (·.1)==List.range n)&&decide (n * ty.size≤1000000) then
   match (if frz||!ty.hasSl then none else Zg s0.heap (parts.flatMap fun p=>(s0.get p.2).cells)) with
   | some mv=>Z15 s0 id ty (parts.map (·.2)) mv
   | none=>Z14 (s0.solids (parts.map (·.2))) id ty (parts.map (·.2))
  else none
 | none=>none
def Z17 (P:Program) (t:TypeId):Option (List Atom) :=
 match P.info? t with
 | some i=>i.zero.map fun z=>z.cells.toList.map Z0l
 | none=>none
def Z18 (P:Program) (s:St) (id:Nat) (t:TypeId):Res :=
 match Z17 P t with
 | some l=>if free s id then some ([],.a (.ptr id 0),s.new id (.box l)) else none
 | none=>none
def Z19 (s:St) (id:Nat) (v:Operand):Res :=
 match s.get v with
 | .tup _=>none
 | x=>if x.one s.heap&&free s id then some ([],.a (.ptr id 0),s.new id (.box x.cells)) else none
def Z1a (P:Program) (fs:Array Field) (s:St):List (Nat×Operand)→List Atom→Option (List Atom)
 | [],l=>some l
 | (i,x)::r,l =>
  match fs[i]? with
  | some f =>
   match P.info? f.type,s.get x with
   | _,.tup _=>none
   | some inf,v =>
    let cs:=v.cells
    if cs.length=inf.size∧v.one s.heap∧f.offset+cs.length≤l.length then Z1a P fs s r (l.take f.offset++cs++l.drop (f.offset+cs.length)) else none
   | none,_=>none
  | none=>none
def Z1b (P:Program) (s:St) (t:TypeId) (parts:List (Nat×Operand)):Res :=
 match P.underlying t,P.info? t with
 | some (.struct fs),some i =>
  match i.zero with
  | some (.agg z)=>if fs.toList.all fun f=>(P.info? f.type).isSome then (Z1a P fs s parts (z.toList.map Z0l)).map fun l=>([],.agg l,s) else none
  | _=>none
 | _,_=>none
def Z1c (P:Program) (s:St) (t:TypeId) (x:Operand) (f:Nat):Res :=
 match P.underlying t with
 | some (.struct fs) =>
  match fs[f]? with
  | some fd =>
   match P.info? fd.type with
   | some i =>
    if i.size=0 then none else
    match s.get x with
    | .a (.ptr id j)=>one s (.a (.ptr id (j+fd.offset)))
    | .a (.eptr id ty k ix j)=>one s (.a (.eptr id ty k ix (j+fd.offset)))
    | .a (.xptr c ty l k ix j)=>one s (.a (.xptr c ty l k ix (j+fd.offset)))
    | .a (.nptr id ty k ix j u k' ix' j')=>one s (.a (.nptr id ty k ix j u k' ix' (j'+fd.offset)))
    | _=>none
   | none=>none
  | none=>none
 | _=>none
def Z1d (P:Program) (s:St) (t:TypeId) (x ix:Operand):Res :=
 match P.underlying t with
 | some (.slice e) =>
  match P.info? e,s.get ix with
  | some i,.a (.x (.int k) n) =>
   match s.get x with
   | .a (.ref id) =>
    match s.heap id with
    | some (.arr _ ty l)=>if i.size=ty.size then some ([gLe (eI k 0) n,gLt n (Zh l)],.a (.eptr id ty k n 0),s) else none
    | some (.hole ty l _ _ _ _)=>if i.size=ty.size then some ([gLe (eI k 0) n,gLt n (Zh l)],.a (.eptr id ty k n 0),s) else none
    | some (.lent ty l _ _ _)=>if i.size=ty.size then some ([gLe (eI k 0) n,gLt n (Zh l)],.a (.eptr id ty k n 0),s) else none
    | _=>none
   | .a (.nref id t k' n' j) =>
    match Z0k s.heap id t k' n' j with
    | some ⟨.sl c u,l⟩=>if i.size=u.size then some ([gLe (eI k 0) n,gLt n (.o1 (.len c u) l)],.a (.nptr id t k' n' j u k n 0),s) else none
    | _=>none
   | .a (.x (.sl c ty) l)=>if i.size=ty.size then some ([gLe (eI k 0) n,gLt n (.o1 (.len c ty) l)],.a (.xptr c ty l k n 0),s) else none
   | .a (.xc ty l)=>if i.size=ty.size then some ([gLe (eI k 0) n,gLt n (Zh l)],.a (.xptr false ty l k n 0),s) else none
   | .a (.vw id ty lo hi) =>
    match vwE s.heap ty (.vw id ty lo hi) with
    | some l=>if hk:k=.i64 then (if i.size=ty.size then some ([gLe (eI k 0) n,gLt n (Zh l),gLe hi (eI .i64 lim)],.a (.eptr id ty .i64 (.o2 (.ar .add .i64) lo (hk▸n)) 0),s) else none) else none
    | none=>none
   | _=>none
  | _,_=>none
 | _=>none
def Z1e (s:St):Option Operand→Option (E (.int .i64))→Option (E (.int .i64))
 | none,d=>d
 | some x,_=>match s.get x with
  | .a (.x (.int .i64) n)=>some n
  | _=>none
def Z1f {t:Ty} (l:E (.sl false t)) (lo:Option (E (.int .i64))) (hi:Option (E (.int .i64))):E (.sl false t) :=
 let a:E (.sl false t):=match hi with | some h=>.o2 (.take t .i64) l h | none=>l
 match lo with | some n=>.o2 (.drop t .i64) a n | none=>a
def Z1g (s:St):Option Operand→Option (Option (E (.int .i64)))
 | none=>some none
 | some x=>match s.get x with
  | .a (.x (.int .i64) n)=>some (some n)
  | _=>none
def Z1h {c:Bool} {t:Ty} (l:E (.sl c t)) (lo hi:Option (E (.int .i64))):List (E .bool) :=
 let top:E (.int .i64):=match hi with | some h=>h | none=>.o1 (.len c t) l
 (match hi with | some h=>[gLe h (.o1 (.len c t) l)] | none=>[])++(match lo with | some n=>[gLe (eI .i64 0) n,gLe n top] | none=>match hi with | some h=>[gLe (eI .i64 0) h] | none=>[])
def sliceTo (s:St) (id:Nat) (sz:Nat) (x:Operand) (lo hi mx:Option Operand):Res :=
 match Z1g s lo,Z1g s hi,Z1g s mx with
 | some l,some h,some m =>
  match s.get x with
  | .a (.ref r) =>
   match s.heap r with
   | some (.arr dp ty e) =>
    if sz=ty.size then
     match m,h with
     | none,_ =>
      if free s id then some (Z1h e l h,.a (.ref id),(s.kills [r]).new id (.arr dp ty (Z1f e l h))) else none
     | some m,some h=>some (.o2 (.cm .eql .i64 .i64) h m::.o2 (.cm .eql .i64 .i64) h (eI .i64 0)::Z1h e l (some h),.a (.xc ty (Z1f e l (some h))),s)
     | _,_=>none
    else none
   | _=>none
  | .a (.x (.sl c ty) e) =>
   if sz=ty.size then
    match m,h with
    | none,_=>some (Z1h (.o1 (.re c false ty) e:E (.sl false ty)) l h,ax (.sl false ty) (Z1f (.o1 (.re c false ty) e) l h),s)
    | some m,some h'=>some (.o2 (.cm .eql .i64 .i64) h' m::Z1h (.o1 (.re c false ty) e:E (.sl false ty)) l (some h'),.a (.xc ty (Z1f (.o1 (.re c false ty) e) l (some h'))),s)
    | _,_=>none
   else none
  | _=>none
 | _,_,_=>none
def Z1i (P:Program) (frz:Bool) (s:St) (id:Nat) (t:TypeId) (x:Operand) (lo hi mx:Option Operand):Res :=
 match P.underlying t with
 | some (.slice e) =>
  match P.info? e with
  | some i=>sliceTo (if frz then s.solid x else s) id i.size x lo hi mx
  | none=>none
 | _=>none
def Z1j (P:Program) (s:St):Op→Res
 | .slice t x lo hi none =>
  match P.underlying t with
  | some (.slice e) =>
   match P.info? e,s.get x with
   | some i,.a (.ref r) =>
    match Z1g s lo,Z1g s hi,s.heap r with
    | some l,some h,some (.arr false ty e)=>if i.size=ty.size then some (Z1h e l h,.a (.vw r ty (l.getD (eI .i64 0)) (h.getD (Zh e))),s) else none
    | _,_,_=>none
   | _,_=>none
  | _=>none
 | _=>none
def Z1k (s:St) (c a b:Operand):Res :=
 match s.get c with
 | .a (.x .bool c) =>
  match litB c with
  | some true=>one s (s.get a)
  | some false=>one s (s.get b)
  | none =>
   match s.get a,s.get b with
   | .a (.x t x),.a (.x t' y)=>if h:t'=t then one s (ax t (.o3 (.pick t) c x (h▸y))) else none
   | _,_=>none
 | _=>none
def Z1l (mx:Bool) (s:St) (l:List Operand):Res :=
 match l.map s.get with
 | [.a (.x (.int k) a),.a (.x (.int k') b)]=>if h:k'=k then one s (ax (.int k) (.o2 (if mx then .mx k else .mn k) a (h▸b))) else none
 | _=>none
def Z1m:List SV→Option (List (Nat×Nat))
 | []=>some []
 | .a (.ptr id j)::l=>(Z1m l).map ((id,j)::·)
 | _::_=>none
def Z1n (P:Program) (t:TypeId):Atom→Bool
 | .x .bool _=>match P.underlying t with
  | some .bool=>true
  | _=>false
 | .x (.sl _ _) _=>match P.underlying t with
  | some (.slice _)=>true
  | _=>false
 | _=>true
def Z1o (P:Program) (h:Nat→Option Blk) (o:BinOp) (t:TypeId):Atom→Atom→Option (List (E .bool)×SV)
 | .ref id,.nil =>
  match P.underlying t,h id with
  | some (.slice _),some (.arr _ _ e)=>match o with
   | .eql=>some ([.o1 .not (.o1 (.emp false _) e)],ax .bool (.bool false))
   | .neq=>some ([.o1 .not (.o1 (.emp false _) e)],ax .bool (.bool true))
   | _=>none
  | _,_=>none
 | .nil,.nil =>
  match P.underlying t with
  | some (.slice _)=>match o with
   | .eql=>some ([],ax .bool (.bool true))
   | .neq=>some ([],ax .bool (.bool false))
   | _=>none
  | _=>none
 | _,_=>none
def Z1p (P:Program) (frz:Bool) (s:St) (id:Nat):Op→Res
 | .move x=>one s (s.get x)
 | .assign x=>one s (s.get x)
 | .pick c a b=>Z1k s c a b
 | .alloc t=>Z18 P s id t
 | .box _ v=>Z19 s id v
 | .build t ps=>Z1b P s t ps.toList
 | .buildSlice t n ps=>Z16 P frz s id t n ps.toList
 | .load t x=>Z0w P s t x
 | .store t x v=>Z0E P frz s t x v
 | .nilCheck x =>
  match s.get x with
  | .a (.ptr i j)=>one s (.a (.ptr i j))
  | .a (.eptr i t k ix j)=>one s (.a (.eptr i t k ix j))
  | .a (.xptr c t l k ix j)=>one s (.a (.xptr c t l k ix j))
  | _=>none
 | .binOp o t x y _ =>
  match s.get x,s.get y with
  | .a a,.a b=>match Z1o P s.heap o t a b with
   | some p=>some (p.1,p.2,s)
   | none=>if Z1n P t a then (Z0H o a b).map fun p=>(p.1,p.2,s) else none
  | .agg a,.agg b =>
   if P.eqGuardType P.depth t||!(Z0G P t a) then none else
   match o with
   | .eql=>(Z0F false a b).map fun e=>([],ax .bool e,s)
   | .neq=>(Z0F true a b).map fun e=>([],ax .bool e,s)
   | _=>none
  | _,_=>none
 | .unOp o _ x =>
  match o,s.get x with
  | .not,.a (.x .bool e)=>one s (ax .bool (.o1 .not e))
  | .neg,.a (.x (.int k) e)=>one s (ax (.int k) (.o1 (.neg k) e))
  | _,_=>none
 | .convert sr d x =>
  match P.underlying sr,P.underlying d,s.get x with
  | some _,some (.int k'),.a (.x (.int k) e)=>one s (ax (.int k') (.o1 (.conv k k') e))
  | _,_,_=>none
 | .makeFunc (.func f) first caps=>if first.size=0 then (Z1m (caps.toList.map s.get)).bind fun l=>one s (.a (.clo f l)) else none
 | .makeSlice t l c=>Z12 P s id t l c
 | .slice t x lo hi mx=>Z1i P frz s id t x lo hi mx
 | .fieldAddr t x f=>Z1c P s t x f
 | .indexAddr t x i=>Z1d P s t x i
 | .index t x i =>
  match P.underlying t,s.get x,s.get i with
  | some .string,.a (.x .str a),.a (.x (.int k) n)=>some ([gLe (eI k 0) n,gLt n (.o1 .slen a)],ax (.int .u8) (.o2 (.sidx k) a n),s)
  | _,_,_=>none
 | .field t x f =>
  match P.underlying t,s.get x with
  | some (.struct fs),.agg l =>
   match fs[f]? with
   | some fd=>if Z0q P fd.type=some false then (match l[fd.offset]? with | some a=>one s (.a a) | none=>none) else none
   | none=>none
  | _,_=>none
 | .extract t i =>
  match s.get t with
  | .tup l=>match l[i]? with
   | some (true,cs)=>one s (.agg cs)
   | some (false,[a])=>one s (.a a)
   | _=>none
  | _=>none
 | .call { callee:=.builtin b,args:=args,argTypes:=ts } =>
  match b,args.toList,ts[0]? with
  | .len,[x],some t=>if Z0K P t (s.get x).atom then (Z0J s.heap (s.get x).atom).bind fun e=>one s (ax (.int .i64) e) else none
  | .append,[x,y],some t=>match ts[1]? with
   | some t2=>if Z0P P t2=true∧ts.size=2 then Z0X P frz s id t x y else none
   | none=>none
  | .copy,[x,y],some t=>Z11 P frz s t x y
  | .max,l,_=>Z1l true s l
  | .min,l,_=>Z1l false s l
  | _,_,_=>none
 | _=>none
def Z1q (s:St) (t n:Nat):Option (Nat×St) :=
 match s.cur.getD t (.a .no) with
 | .a (.nref i t0 k ix j) =>
  match s.heap i with
  | some (.arr true t' e) =>
   if ht:t'=t0 then
    match Zd t0 j (.o2 (.idx false t0 k) (ht▸e) ix) with
    | some ⟨.sl false u,l⟩ =>
     if free s n then some (i,⟨((s.unnest i).cur).set t (.a (.ref n)),(s.unnest i).stk,upd (upd (s.unnest i).heap n (some (.arr u.hasSl u l))) i (some (.hole t0 (ht▸e) k ix j (.ref n))),s.base,s.np,s.kp⟩)
     else none
    | _=>none
   else none
  | _=>none
 | _=>none
def Z1r (s:St) (i n:Nat):Option St :=
 match s.heap i with
 | some (.hole t e k ix j (.ref n')) =>
  match Zg s.heap [.ref n] with
  | some mv =>
   if n'=n∧mv.contains i=false then
    match Z0u s.heap t j (.o2 (.idx false t k) e ix) (.ref n) with
    | some row=>some (((s.kills mv).unnest i).new i (.arr true t (.o3 (.set t k) e ix row)))
    | none=>none
   else none
  | none=>none
 | _=>none
def settle (s:St) (i:Nat):Option St :=
 match s.heap i with
 | some (.lent t e k ix (.x t' v))=>if h:t'=t then some { s with heap:=upd s.heap i (some (.arr false t (.o3 (.set t k) e ix (h▸v)))) } else none
 | _=>none
def back (s:St) (i:Nat):Option St :=
 match s.heap i with
 | some (.lent _ _ _ _ (.ref m))=>settle (s.freeze m) i
 | some (.lent _ _ _ _ (.x _ _))=>settle s i
 | some (.hole _ _ _ _ _ (.ref m))=>Z1r s i m
 | _=>none
def Z1s (P:Program) (s:St) (id:Nat):Op→Res
 | .load t x =>
  match Z0w P s t x with
  | some (gs,.a (.nref i t0 k ix j),s1) =>
   match Z1q { s1 with cur:=s1.cur++[.a (.nref i t0 k ix j)] } s1.cur.length (id+32) with
   | some (_,s2)=>some (gs,s2.cur.getD s1.cur.length (.a .no),{ s2 with cur:=s2.cur.take s1.cur.length })
   | none=>none
  | q=>q
 | _=>none
def Z1t (P:Program) (s:St):Op→Res
 | .store t x v =>
  match P.info? t,s.get x,s.get v with
  | some i,.a (.eptr id ty k ix 0),.a (.ref m) =>
   match s.heap id,s.heap m with
   | some (.arr false ty' e),some (.arr _ _ _) =>
    if h:ty'=ty then
     if i.size=1∧ty.size=1∧m≠id then some ([],.a .no,((s.kills []).unnest id).new id (.lent ty (h▸e) k ix (.ref m))) else none
    else none
   | _,_=>none
  | _,_,_=>none
 | _=>none
end Go.Sm
namespace Go.Sm
def Tr.bind:Tr→(Ex→St→Tr)→Tr
 | .leaf x s,f=>f x s
 | .bad,_=>.bad
 | .ite c a b,f=>.ite c (a.bind f) (b.bind f)
 | .guard c t,f=>.guard c (t.bind f)
 | .call g ins b t,f=>.call g ins b (t.bind f)
 | .jump l vs,_=>.jump l vs
 | .ret vs,_=>.ret vs
 | .join t k,f=>.join (t.bind f) (k.bind f)
 | .loop i b,f=>.loop i (b.bind f)
def Tr.guards:List (E .bool)→Tr→Tr
 | [],t=>t
 | c::gs,t=>match litB c with
  | some true=>Tr.guards gs t
  | some false=>.bad
  | none=>.guard c (Tr.guards gs t)
def Z1u (e:E .bool) (b:Bool):Atom→Atom
 | .x .bool e'=>if eqE e e' then .x .bool (.bool b) else .x .bool e'
 | a=>a
def St.asm (s:St) (e:E .bool) (b:Bool):St:={ s with cur:=s.cur.map (SV.map (Z1u e b)) }
def Tr.normals:Tr→List St
 | .leaf .normal s=>[s]
 | .leaf _ _=>[]
 | .bad=>[]
 | .ite _ a b=>a.normals++b.normals
 | .guard _ t=>t.normals
 | .call _ _ _ t=>t.normals
 | .jump _ _=>[]
 | .ret _=>[]
 | .join t k=>t.normals++k.normals
 | .loop _ b=>b.normals
structure NS where
 cur:List SV
 stk:List (List SV)
 hl:List Blk
 np:Nat
 kp:List (Nat×Nat)
def NS.toSt (n:NS) (base:Nat):St:=⟨n.cur,n.stk,fun k=>n.hl[k]?,base,n.np,n.kp⟩
def Atom.ids:Atom→List Nat
 | .ref id=>[id]
 | .ptr id _=>[id]
 | .eptr id _ _ _ _=>[id]
 | .clo _ caps=>caps.map (·.1)
 | .nref id _ _ _ _=>[id]
 | .nptr id _ _ _ _ _ _ _ _=>[id]
 | .vw id _ _ _=>[id]
 | _=>[]
def SV.ids:SV→List Nat
 | .a x=>x.ids
 | .agg l=>l.flatMap Atom.ids
 | .tup l=>l.flatMap fun c=>c.2.flatMap Atom.ids
def Blk.ids:Blk→List Nat
 | .box l=>l.flatMap Atom.ids
 | .hole _ _ _ _ _ a=>a.ids
 | .lent _ _ _ _ a=>a.ids
 | _=>[]
def Z1v (h:Nat→Option Blk):Nat→List Nat→List Nat→List Nat
 | 0,_,acc=>acc
 | _+1,[],acc=>acc
 | n+1,id::r,acc =>
  if acc.contains id then Z1v h n r acc else
  match h id with
  | some b=>Z1v h n (b.ids++r) (acc++[id])
  | none=>Z1v h n r acc
def nodupB:List Nat→Bool
 | []=>true
 | a::l=>!l.contains a&&nodupB l
def Z1w:List Nat→Nat→Option Nat
 | [],_=>none
 | a::l,x=>if a=x then some 0 else (Z1w l x).map (·+1)
def Z1x (L:List Nat):List (Nat×Nat)→Option (List (Nat×Nat))
 | []=>some []
 | (i,j)::l =>
  match Z1w L i,Z1x L l with
  | some k,some r=>some ((k,j)::r)
  | _,_=>none
def ren (L:List Nat):Atom→Atom
 | .ref id=>match Z1w L id with | some k=>.ref k | none=>.no
 | .ptr id j=>match Z1w L id with | some k=>.ptr k j | none=>.no
 | .eptr id t k' i j=>match Z1w L id with | some k=>.eptr k t k' i j | none=>.no
 | .clo f caps=>match Z1x L caps with | some l=>.clo f l | none=>.no
 | .nref id t k' i j=>match Z1w L id with | some k=>.nref k t k' i j | none=>.no
 | .nptr id t k' i j u k2 i2 j2=>match Z1w L id with | some k=>.nptr k t k' i j u k2 i2 j2 | none=>.no
 | .vw id t lo hi=>match Z1w L id with | some k=>.vw k t lo hi | none=>.no
 | a=>a
def isLit:{t:Ty}→E t→Bool
 | _,.int _ _=>true
 | _,.bool _=>true
 | _,_=>false
def Atom.es (b:Bool):Atom→List AE
 | .x t e=>if b&&isLit e then [] else [⟨t,e⟩]
 | .xc t e=>[⟨.sl false t,e⟩]
 | .eptr _ _ k i _=>[⟨.int k,i⟩]
 | .xptr c t l k i _=>[⟨.sl c t,l⟩,⟨.int k,i⟩]
 | .nref _ _ k i _=>[⟨.int k,i⟩]
 | .nptr _ _ k i _ _ k' i' _=>[⟨.int k,i⟩,⟨.int k',i'⟩]
 | .vw _ _ lo hi=>[⟨.int .i64,lo⟩,⟨.int .i64,hi⟩]
 | _=>[]
def Atom.sub (b:Bool) (n:Nat):Atom→Atom
 | .x t e=>if b&&isLit e then .x t e else .x t (.var t n)
 | .xc t _=>.xc t (.var (.sl false t) n)
 | .eptr id t k _ j=>.eptr id t k (.var (.int k) n) j
 | .xptr c t _ k _ j=>.xptr c t (.var (.sl c t) n) k (.var (.int k) (n+1)) j
 | .nref id t k _ j=>.nref id t k (.var (.int k) n) j
 | .nptr id t k _ j u k' _ j'=>.nptr id t k (.var (.int k) n) j u k' (.var (.int k') (n+1)) j'
 | .vw id t _ _=>.vw id t (.var (.int .i64) n) (.var (.int .i64) (n+1))
 | a=>a
def esL (b:Bool):List Atom→List AE
 | []=>[]
 | a::l=>a.es b++esL b l
def Z1y (b:Bool):Nat→List Atom→List Atom
 | _,[]=>[]
 | n,a::l=>a.sub b n::Z1y b (n+(a.es b).length) l
def esC (b:Bool):List (Bool×List Atom)→List AE
 | []=>[]
 | c::l=>esL b c.2++esC b l
def Z1z (b:Bool):Nat→List (Bool×List Atom)→List (Bool×List Atom)
 | _,[]=>[]
 | n,c::l=>(c.1,Z1y b n c.2)::Z1z b (n+(esL b c.2).length) l
def SV.es (b:Bool):SV→List AE
 | .a x=>x.es b
 | .agg l=>esL b l
 | .tup l=>esC b l
def SV.sub (b:Bool) (n:Nat):SV→SV
 | .a x=>.a (x.sub b n)
 | .agg l=>.agg (Z1y b n l)
 | .tup l=>.tup (Z1z b n l)
def esS (b:Bool):List SV→List AE
 | []=>[]
 | v::l=>v.es b++esS b l
def Z1A (b:Bool):Nat→List SV→List SV
 | _,[]=>[]
 | n,v::l=>v.sub b n::Z1A b (n+(v.es b).length) l
def Z1B:List (List SV)→List AE
 | []=>[]
 | v::l=>esS true v++Z1B l
def Z1C:Nat→List (List SV)→List (List SV)
 | _,[]=>[]
 | n,v::l=>Z1A true n v::Z1C (n+(esS true v).length) l
def Blk.es:Blk→List AE
 | .box l=>esL false l
 | .arr _ t e=>[⟨.sl false t,e⟩]
 | .hole t e k i _ a=>[⟨.sl false t,e⟩,⟨.int k,i⟩]++a.es false
 | .lent t e k i a=>[⟨.sl false t,e⟩,⟨.int k,i⟩]++a.es false
def Blk.sub (n:Nat):Blk→Blk
 | .box l=>.box (Z1y false n l)
 | .arr dp t _=>.arr dp t (.var (.sl false t) n)
 | .hole t _ k _ j a=>.hole t (.var (.sl false t) n) k (.var (.int k) (n+1)) j (a.sub false (n+2))
 | .lent t _ k _ a=>.lent t (.var (.sl false t) n) k (.var (.int k) (n+1)) (a.sub false (n+2))
def esB:List Blk→List AE
 | []=>[]
 | v::l=>v.es++esB l
def Z1D:Nat→List Blk→List Blk
 | _,[]=>[]
 | n,v::l=>v.sub n::Z1D (n+v.es.length) l
def Z1E (s:St) (L:List Nat):List Nat→Option (List Blk)
 | []=>some []
 | id::r =>
  match s.heap id,Z1E s L r with
  | some b,some l=>some (b.map (ren L)::l)
  | _,_=>none
def norm (s:St):Option (List AE×NS) :=
 let L:=Z1v s.heap 400 ((List.range s.np).flatMap (fun k=>((s.heap k).map Blk.ids).getD [])++(s.cur.flatMap SV.ids++s.stk.flatMap (List.flatMap SV.ids))) (List.range s.np)
 if nodupB L&&(L.take s.np==List.range s.np) then
  (Z1E s L L).map fun hl =>
   let cur:=s.cur.map (SV.map (ren L))
   let stk:=s.stk.map (List.map (SV.map (ren L)))
   let n1:=(esS false cur).length
   let n2:=n1+(Z1B stk).length
   (esS false cur++(Z1B stk++esB hl),⟨Z1A false 0 cur,Z1C n1 stk,Z1D n2 hl,s.np,s.kp⟩)
 else none
def eqV:{t t':Ty}→E t→E t'→Bool
 | _,_,.var t i,.var t' j=>decide (t=t')&&decide (i=j)
 | _,_,_,_=>false
def Z1F:{t t':Ty}→E t→E t'→Bool
 | _,_,.var t i,.var t' j=>decide (t=t')&&decide (i=j)
 | _,_,.int k n,.int k' m=>decide (k=k')&&decide (n=m)
 | _,_,.bool a,.bool b=>a==b
 | _,_,_,_=>false
def eqA:Atom→Atom→Bool
 | .no,.no=>true
 | .un,.un=>true
 | .nil,.nil=>true
 | .x t e,.x t' e'=>decide (t=t')&&Z1F e e'
 | .xc t e,.xc t' e'=>decide (t=t')&&eqV e e'
 | .ref i,.ref j=>decide (i=j)
 | .ptr i a,.ptr j b=>decide (i=j)&&decide (a=b)
 | .eptr i t k e a,.eptr j t' k' e' b=>decide (i=j)&&decide (t=t')&&decide (k=k')&&eqV e e'&&decide (a=b)
 | .xptr c t l k e a,.xptr c' t' l' k' e' b=>decide (c=c')&&decide (t=t')&&eqV l l'&&decide (k=k')&&eqV e e'&&decide (a=b)
 | .clo f l,.clo g m=>decide (f=g)&&decide (l=m)
 | .nref i t k e a,.nref j t' k' e' b=>decide (i=j)&&decide (t=t')&&decide (k=k')&&eqV e e'&&decide (a=b)
 | .nptr i t k e a u m f c,.nptr j t' k' e' b u' m' f' c'=>decide (i=j)&&decide (t=t')&&decide (k=k')&&eqV e e'&&decide (a=b)&&decide (u=u')&&decide (m=m')&&eqV f f'&&decide (c=c')
 | .vw i t a b,.vw j t' a' b'=>decide (i=j)&&decide (t=t')&&eqV a a'&&eqV b b'
 | _,_=>false
def eqL {α:Type} (p:α→α→Bool):List α→List α→Bool
 | [],[]=>true
 | a::l,b::m=>p a b&&eqL p l m
 | _,_=>false
def Z1G:SV→SV→Bool
 | .a x,.a y=>eqA x y
 | .agg l,.agg m=>eqL eqA l m
 | .tup l,.tup m=>eqL (fun c d=>decide (c.1=d.1)&&eqL eqA c.2 d.2) l m
 | _,_=>false
def eqB:Blk→Blk→Bool
 | .box l,.box m=>eqL eqA l m
 | .arr d t e,.arr d' t' e'=>decide (d=d')&&decide (t=t')&&eqV e e'
 | .hole t e k i j a,.hole t' e' k' i' j' a'=>decide (t=t')&&eqV e e'&&decide (k=k')&&eqV i i'&&decide (j=j')&&eqA a a'
 | .lent t e k i a,.lent t' e' k' i' a'=>decide (t=t')&&eqV e e'&&decide (k=k')&&eqV i i'&&eqA a a'
 | _,_=>false
def NS.eq (a b:NS):Bool:=eqL Z1G a.cur b.cur&&eqL (eqL Z1G) a.stk b.stk&&eqL eqB a.hl b.hl&&decide (a.np=b.np)&&decide (a.kp=b.kp)
def Z1H (live:List Nat):Nat→List SV→List SV
 | _,[]=>[]
 | i,v::l=>(bif live.contains i then v else .a .no)::Z1H live (i+1) l
def St.keep (s:St) (live:List Nat):St:={ s with cur:=Z1H live 0 s.cur }
def Z1I (s:St) (slot:Nat):Option (Nat×List Atom) :=
 match s.cur.getD slot (.a .no) with
 | .a (.ptr id 0)=>match s.heap id with
  | some (.box l)=>some (id,l)
  | _=>none
 | _=>none
def Z1J (s:St) (id:Nat) (a:Atom):Trn→Option (St×Option Atom)
 | .own dp t =>
  match a with
  | .nil=>if free s id then some (s.new id (.arr dp t (.nil false t)),some (.ref id)) else none
  | _=>none
 | .pure t =>
  match a with
  | .nil=>some (s,some (.x (.sl false t) (.nil false t)))
  | .ref i=>some (s.freeze i,none)
  | .nref i _ _ _ _=>some (s.freeze i,none)
  | .vw i _ _ _=>some (s.freeze i,none)
  | .xc t e=>some (s,some (.x (.sl false t) e))
  | .x (.sl true t) e=>some (s,some (.x (.sl false t) (.o1 (.re true false t) e)))
  | _=>none
 | .shal =>
  match a with
  | .ref i=>match back s i with
   | some s'=>some (s',none)
   | none=>some (s.shallow i,none)
  | _=>none
 | .nul t =>
  match a with
  | .nil=>some (s,some (.x (.sl true t) (.nil true t)))
  | _=>none
 | .back =>
  match a with
  | .ref i=>match back s i with
   | some s'=>some (s',none)
   | none=>none
  | _=>none
def Z1K (s:St) (id:Nat) (slot:Nat) (c:Option Nat) (act:Trn):St :=
 match c with
 | none =>
  match s.cur.getD slot (.a .no) with
  | .a a=>match Z1J s id a act with
   | some (s',some a')=>{ s' with cur:=s'.cur.set slot (.a a') }
   | some (s',none)=>s'
   | none=>s
  | _=>s
 | some c =>
  match Z1I s slot with
  | some (b,l)=>match Z1J s id (l.getD c .no) act with
   | some (s',some a')=>match s'.heap b with
    | some (.box l')=>{ s' with heap:=upd s'.heap b (some (.box (l'.set c a'))) }
    | _=>s
   | some (s',none)=>s'
   | none=>s
  | none=>s
def Z1L (s:St):Nat→List (Nat×Option Nat×Trn)→St
 | _,[]=>s
 | id,(slot,c,a)::l=>Z1L (Z1K s id slot c a) (id+1) l
def Hint.liveIn (h:Hint) (k:Nat):List Nat:=((h.live.find? (·.1==k)).map (·.2.1)).getD []
def Hint.liveOut (h:Hint) (k:Nat):List Nat:=((h.live.find? (·.1==k)).map (·.2.2)).getD []
def Hint.act (h:Hint) (k:Nat):List (Nat×Option Nat×Trn):=((h.acts.find? (·.1==k)).map (·.2)).getD []
def Z1M (h:Hint) (k:Nat) (s:St):Option (List AE×NS):=norm (Z1L (s.keep (h.liveIn k)) (s.base+1000000) (h.act k))
def Tr.toJumps (h:Hint) (k:Nat) (T:NS):Nat→Tr→Tr
 | d,.leaf .normal s =>
  match Z1M h k s with
  | some (vs,n)=>if n.eq T then .jump d vs else .bad
  | none=>.bad
 | _,.leaf x s=>.leaf x s
 | _,.bad=>.bad
 | d,.ite c a b=>.ite c (a.toJumps h k T d) (b.toJumps h k T d)
 | d,.guard c t=>.guard c (t.toJumps h k T d)
 | d,.call f ins b t=>.call f ins b (t.toJumps h k T d)
 | _,.jump l vs=>.jump l vs
 | _,.ret vs=>.ret vs
 | d,.join t u=>.join (t.toJumps h k T (d+1)) (u.toJumps h k T d)
 | d,.loop i b=>.loop i (b.toJumps h k T (d+1))
def NS.base (n:NS):Nat:=(esS false n.cur).length+(Z1B n.stk).length+(esB n.hl).length+n.hl.length
def Zi (n:Nat):(o:OC)→Nat→E o.ty→List Atom
 | .p t,_,e=>[.x t e]
 | .arr _ _,j,_=>[.ref (n+j)]
 | .pr a b,j,e=>Zi n a j (.o1 (.fst a.ty b.ty) e)++Zi n b (j+a.n) (.o1 (.snd a.ty b.ty) e)
def Zj (n:Nat):(o:OC)→Nat→E o.ty→List (Nat×Blk)
 | .p _,_,_=>[]
 | .arr dp t,j,e=>[(n+j,.arr dp t e)]
 | .pr a b,j,e=>Zj n a j (.o1 (.fst a.ty b.ty) e)++Zj n b (j+a.n) (.o1 (.snd a.ty b.ty) e)
def Z1N:OC→List Nat
 | .p (.sl false _)=>[0]
 | .pr a b=>Z1N a++(Z1N b).map (·+a.n)
 | _=>[]
def OC.flat (b:Bool):OC→Bool
 | .p t=>(match t with | .sl false _=>b | _=>!t.hasSl)
 | .arr dp t=>dp||!t.hasSl
 | .pr x y=>x.flat b&&y.flat b
def CS.pins:CS→Nat
 | .arr _ _=>1
 | .box _=>1
 | .p _=>0
 | .eat _ _=>0
 | .self _=>1
 | .obj _=>1
def CS.at (v p:Nat):CS→Atom
 | .p t=>.x t (.var t v)
 | .arr _ _=>.ref p
 | .box _=>.ptr p 0
 | .eat _ _=>.ref (2000+v)
 | .self _=>.ptr p 0
 | .obj _=>.ptr p 0
def CS.bl (v p:Nat):CS→List (Nat×Blk)
 | .arr dp t=>[(p,.arr dp t (.var (.sl false t) v))]
 | .box t=>[(p,.box (Zf t (.var t v)))]
 | .eat dp t=>[(2000+v,.arr dp t (.var (.sl false t) v))]
 | .p _=>[]
 | .self _=>[(p,.box [.no])]
 | .obj o=>(p,.box (Zi (3000+16 * v) o 0 (.var o.ty v)))::Zj (3000+16 * v) o 0 (.var o.ty v)
def Zk:List CS→Nat
 | []=>0
 | c::l=>c.pins+Zk l
def csA:Nat→Nat→List CS→List Atom
 | _,_,[]=>[]
 | v,p,c::l=>c.at v p::csA (v+1) (p+c.pins) l
def csB:Nat→Nat→List CS→List (Nat×Blk)
 | _,_,[]=>[]
 | v,p,c::l=>c.bl v p++csB (v+1) (p+c.pins) l
def Sh.cs:Sh→List CS
 | .p t=>[.p t]
 | .agg l=>l
 | .arr dp t=>[.arr dp t]
 | .box t=>[.box t]
 | .eat dp t=>[.eat dp t]
 | .self f=>[.self f]
 | .obj o=>[.obj o]
def Sh.sv (v n:Nat):Sh→SV
 | .p t=>.a (.x t (.var t v))
 | .agg l=>.agg (csA v n l)
 | .arr _ _=>.a (.ref n)
 | .box _=>.a (.ptr n 0)
 | .eat _ _=>.a (.ref (2000+v))
 | .self _=>.a (.ptr n 0)
 | .obj _=>.a (.ptr n 0)
def Z1O:Nat→Nat→List Sh→List SV
 | _,_,[]=>[]
 | v,p,h::l=>h.sv v p::Z1O (v+h.cs.length) (p+Zk h.cs) l
def shB:Nat→Nat→List Sh→List (Nat×Blk)
 | _,_,[]=>[]
 | v,p,h::l=>csB v p h.cs++shB (v+h.cs.length) (p+Zk h.cs) l
def shN:List Sh→Nat
 | []=>0
 | h::l=>h.cs.length+shN l
def Zl:List Sh→Nat
 | []=>0
 | h::l=>Zk h.cs+Zl l
def look (l:List (Nat×Blk)) (k:Nat):Option Blk :=
 match l with
 | []=>none
 | (i,b)::r=>bif i==k then some b else look r k
def Zm:List CS→List Sh
 | []=>[]
 | .arr dp t::l=>.arr dp t::Zm l
 | .box t::l=>.box t::Zm l
 | .p _::l=>Zm l
 | .eat _ _::l=>Zm l
 | .self f::l=>.self f::Zm l
 | .obj o::l=>.obj o::Zm l
def Z1P:List Sh→List Sh
 | []=>[]
 | h::l=>Zm h.cs++Z1P l
def Z1Q:Nat→List Sh→List SV
 | _,[]=>[]
 | p,.box _::l=>.a (.ptr p 0)::Z1Q (p+1) l
 | p,.self _::l=>.a (.ptr p 0)::Z1Q (p+1) l
 | p,.obj _::l=>.a (.ptr p 0)::Z1Q (p+1) l
 | p,_::l=>.a (.ref p)::Z1Q (p+1) l
def Z1R:Ty→List Nat
 | .pr a b=>Z1R a++(Z1R b).map (·+a.size)
 | .sl c _=>if c then [] else [0]
 | _=>[]
def Ty.hasNl:Ty→Bool
 | .pr a b=>a.hasNl||b.hasNl
 | .sl c _=>c
 | _=>false
def CS.kp (p:Nat):CS→List (Nat×Nat)
 | .box t=>(Z1R t).map fun j=>(p,j)
 | .self _=>[(p,0)]
 | .obj o=>(Z1N o).map fun j=>(p,j)
 | _=>[]
def Z1S:Nat→List CS→List (Nat×Nat)
 | _,[]=>[]
 | p,c::l=>c.kp p++Z1S (p+c.pins) l
def Zn:Nat→List Sh→List (Nat×Nat)
 | _,[]=>[]
 | p,h::l=>Z1S p h.cs++Zn (p+Zk h.cs) l
structure MO where
 gs:List (E .bool)
 es:List AE
 tg:List (Nat×Option Nat)
 rd:List Nat
def MO.add (a b:MO):MO:=⟨a.gs++b.gs,a.es++b.es,a.tg++b.tg,a.rd++b.rd⟩
def Z1T (h:Nat→Option Blk) (t:Ty) (a:Atom):Option (List (E .bool)×E t) :=
 match a.toE h t with
 | some e=>some ([],e)
 | none =>
  match t with
  | .sl false u=>(vwE h u a).map fun e=>([],e)
  | .sl true u=>(a.toE h (.sl false u)).map fun e=>([.o1 .not (.o1 (.emp false u) e)],.o1 (.re false true u) e)
  | _=>none
structure MX (o:OC) where
 gs:List (E .bool)
 e:E o.ty
 tg:List (Nat×Option Nat)
 rd:List Nat
def Z1U (h:Nat→Option Blk) (n:Nat):(o:OC)→Nat→List Atom→Option (MX o×List Atom)
 | .p t,_,a::l=>(Z1T h t a).map fun r=>(⟨r.1,r.2,[],refsOf [a]⟩,l)
 | .arr dp t,j,.ref i::l =>
  match h i with
  | some (.arr dp' t' e)=>if dp'=dp then (if h:t'=t then some (⟨[],h▸e,[(n+j,some i)],[]⟩,l) else none) else none
  | _=>none
 | .arr _ t,j,.nil::l=>some (⟨[],.nil false t,[(n+j,none)],[]⟩,l)
 | .pr a b,j,l =>
  match Z1U h n a j l with
  | some (x,l1)=>match Z1U h n b (j+a.n) l1 with
   | some (y,l2)=>some (⟨x.gs++y.gs,.o2 (.pair a.ty b.ty) x.e y.e,x.tg++y.tg,x.rd++y.rd⟩,l2)
   | none=>none
  | none=>none
 | _,_,_=>none
def Z1V (h:Nat→Option Blk) (v p:Nat) (c:CS) (a:Atom):Option MO :=
 match c with
 | .p t=>(Z1T h t a).map fun r=>⟨r.1,[⟨t,r.2⟩],[],refsOf [a]⟩
 | .arr dp t =>
  match a with
  | .ref i =>
   match h i with
   | some (.arr dp' t' e)=>if dp'=dp then (if h:t'=t then some ⟨[],[⟨.sl false t,h▸e⟩],[(p,some i)],[]⟩ else none) else none
   | _=>none
  | .nil=>some ⟨[],[⟨.sl false t,.nil false t⟩],[(p,none)],[]⟩
  | _=>none
 | .box t =>
  match a with
  | .ptr i 0 =>
   match h i with
   | some (.box l)=>match mkE h t l with
    | some (e,[])=>some ⟨[],[⟨t,e⟩],[(p,some i)],refsOf l⟩
    | _=>none
   | _=>none
  | _=>none
 | .eat dp t =>
  match a with
  | .ref i =>
   match h i with
   | some (.arr dp' t' e)=>if dp'=dp then (if h:t'=t then some ⟨[],[⟨.sl false t,h▸e⟩],[(2000+v,some i)],[]⟩ else none) else none
   | _=>none
  | .nil=>some ⟨[],[⟨.sl false t,.nil false t⟩],[(2000+v,none)],[]⟩
  | _=>none
 | .self _ =>
  match a with
  | .ptr i 0 =>
   match h i with
   | some (.box [_])=>some ⟨[],[⟨.bool,.bool true⟩],[(p,some i)],[]⟩
   | _=>none
  | _=>none
 | .obj o =>
  match a with
  | .ptr i 0 =>
   match h i with
   | some (.box l) =>
    match Z1U h (3000+16 * v) o 0 l with
    | some (x,[])=>some ⟨x.gs,[⟨o.ty,x.e⟩],(p,some i)::x.tg,x.rd⟩
    | _=>none
   | _=>none
  | _=>none
def Zo (h:Nat→Option Blk):Nat→Nat→List CS→List Atom→Option MO
 | _,_,[],[]=>some ⟨[],[],[],[]⟩
 | v,p,c::l,a::m =>
  match Z1V h v p c a,Zo h (v+1) (p+c.pins) l m with
  | some x,some y=>some (x.add y)
  | _,_=>none
 | _,_,_,_=>none
def Z1W (h:Nat→Option Blk) (v p:Nat):Sh→SV→Option MO
 | .agg l,.agg m=>Zo h v p l m
 | .p t,.a a=>Zo h v p [.p t] [a]
 | .arr dp t,.a a=>Zo h v p [.arr dp t] [a]
 | .box t,.a a=>Zo h v p [.box t] [a]
 | .eat dp t,.a a=>Zo h v p [.eat dp t] [a]
 | .self f,.a a=>Zo h v p [.self f] [a]
 | .obj o,.a a=>Zo h v p [.obj o] [a]
 | _,_=>none
def Z1X (h:Nat→Option Blk):Nat→Nat→List Sh→List SV→Option MO
 | _,_,[],[]=>some ⟨[],[],[],[]⟩
 | v,p,s::l,x::m =>
  match Z1W h v p s x,Z1X h (v+s.cs.length) (p+Zk s.cs) l m with
  | some x,some y=>some (x.add y)
  | _,_=>none
 | _,_,_,_=>none
def MO.ids (o:MO):List Nat:=o.tg.filterMap (·.2)
def MO.ok (o:MO):Bool:=nodupB o.ids&&nodupB (o.tg.map (·.1))&&o.rd.all fun i=>!o.ids.contains i
def Zp (tg:List (Nat×Option Nat)) (p:Nat):Option Nat :=
 match tg with
 | []=>none
 | (i,t)::r=>if i=p then t else Zp r p
def CS.byRef:CS→Bool
 | .p _=>false
 | _=>true
def Sh.byRef (h:Sh):Bool:=h.cs.any CS.byRef
def Sig.ini (g:Sig):St:=⟨Z1O 0 0 g.ps,[],look (shB 0 0 g.ps),100000,Zl g.ps,Zn 0 g.ps⟩
def Z1Y:Nat→List Sh→Option (Nat×FuncId)
 | _,[]=>none
 | p,.self f::_=>some (p,f)
 | p,h::l=>Z1Y (p+Zk h.cs) l
def Z1Z (l:List Sh) (h:Nat→Option Blk):Nat→Option Blk :=
 match Z1Y 0 l with
 | some (p,f)=>upd h p (some (.box [.clo f ((List.range (Zl l)).map fun k=>(k,0))]))
 | none=>h
def Z1_ (l:List Sh) (h:Nat→Option Blk) (tg:List (Nat×Option Nat)):Bool :=
 match Z1Y 0 l with
 | none=>true
 | some (p,f) =>
  match Zp tg p with
  | some i =>
   match h i with
   | some (.box [.clo f' caps])=>decide (f'=f)&&(List.range (Zl l)).all (fun k=>(Zp tg k).isSome)&&decide (caps=(List.range (Zl l)).map fun k=>((Zp tg k).getD 0,0))
   | _=>false
  | none=>false
def Sig.ini1 (g:Sig):St:=⟨Z1O 0 0 g.ps,[],Z1Z g.ps (look (shB 0 0 g.ps)),100000,Zl g.ps,Zn 0 g.ps⟩
def Sig.init (g:Sig) (ntmps:Nat):St:=⟨Z1O 0 0 g.ps++List.replicate (ntmps - g.ps.length) (.a .un),[],Z1Z g.ps (look (shB 0 0 g.ps)),100000,Zl g.ps,Zn 0 g.ps⟩
def Z20 (g:Sig):List (Nat×Blk):=shB 0 1000 g.rs++shB (shN g.rs) 0 (Z1P g.ps)
def Sig.fin (g:Sig):St:=⟨Z1O 0 1000 g.rs,[],look (Z20 g),0,Zl g.ps,Zn 0 g.ps⟩
def Sig.outs (g:Sig):Nat:=shN g.rs+shN (Z1P g.ps)
def Z21:List SV→Option (List (Bool×List Atom))
 | []=>some []
 | .a x::l=>(Z21 l).map ((false,[x])::·)
 | .agg m::l=>(Z21 l).map ((true,m)::·)
 | .tup _::_=>none
def single:List SV→Option SV
 | [v]=>some v
 | l=>(Z21 l).map .tup
def Z22 (d:Nat):{t:Ty}→E t→E t
 | _,.var t i=>.var t (i+d)
 | _,.o1 o x=>.o1 o (Z22 d x)
 | _,e=>e
def Zq (ψ:Nat→Nat) (d:Nat):Atom→Atom
 | .x t e=>.x t (Z22 d e)
 | .ref k=>.ref (ψ k)
 | .ptr k j=>.ptr (ψ k) j
 | _=>.no
def Z23 (ψ:Nat→Nat) (d:Nat):Blk→Blk
 | .arr dp t e=>.arr dp t (Z22 d e)
 | .box l=>.box (l.map (Zq ψ d))
 | b=>b
def CS.flat:CS→Bool
 | .p t=>!t.hasSl
 | .arr dp t=>dp||!t.hasSl
 | .box t=>!t.hasSl
 | .eat dp t=>dp||!t.hasSl
 | .self _=>true
 | .obj o=>o.flat false
def CS.flatB:CS→Bool
 | .box t=>!t.hasNl
 | .obj o=>o.flat true
 | c=>c.flat
def Sig.leaks (g:Sig):Bool:=!(g.rs.all (fun h=>h.cs.all CS.flat)&&(Z1P g.ps).all (fun h=>h.cs.all CS.flatB))
def Z24 (v:Nat→Bool):Option Atom→Atom
 | some (.x (.sl c t) e)=>.x (.sl c t) e
 | some (.ref i)=>bif v i then .ref i else .no
 | _=>.no
def Z25 (v:Nat→Bool):Option Atom→Atom→Atom
 | o,.x (.sl false _) _=>Z24 v o
 | o,.no=>match o with
  | some (.clo f c)=>.clo f c
  | _=>.no
 | _,b=>b
def Z26 (v:Nat→Bool):List Atom→List Atom→List Atom
 | _,[]=>[]
 | l,b::m=>Z25 v l.head? b::Z26 v l.tail m
def Z27 (v:Nat→Bool) (h:Nat→Option Blk) (i p:Nat):Blk→Blk
 | .box m=>if p<1000 then .box (Z26 v (match h i with | some (.box l)=>l | _=>[]) m) else .box m
 | b=>b
def Z28 (tg:List (Nat×Option Nat)):List Nat:=tg.filterMap fun p=>bif decide (2000≤p.1) then p.2 else none
def Z29 (ids ea:List Nat) (a:Atom):Atom:=bif (a.nst&&a.ids.any ids.contains)||a.ids.any ea.contains then .no else a
def Z2a (tg:List (Nat×Option Nat)) (id:Nat) (k:Nat):Nat:=if k<1000 then (Zp tg k).getD 0 else if k<3000 then id+(k - 1000) else 64 * id+1000000000+(k - 3000)
def Z2b (g:Sig) (s:St) (id:Nat) (argOps:List Operand):Option (List (E .bool)×List AE×SV×St) :=
 match Z1X s.heap 0 0 g.ps (argOps.map s.get) with
 | some o =>
  let ea:=Z28 o.tg
  let f:=Z29 o.ids ea
  let ψ:=Z2a o.tg id
  let bl:=(Z20 g).map fun p=>(ψ p.1,Z27 (fun i=>!o.ids.contains i) s.heap (ψ p.1) p.1 (Z23 ψ id p.2))
  if (Z1_ g.ps s.heap o.tg&&(ea.isEmpty||(Z20 g).all fun q=>match q.2 with | .box [.no]=>(match s.heap (ψ q.1) with | some (.box (.clo _ caps::_))=>caps.all fun c=>!ea.contains c.1 | _=>true) | _=>true))&&o.ok&&(!g.leaks||o.rd.isEmpty)&&o.tg.all (fun p=>decide (2000≤p.1)||match p.2 with | some i=>(look bl i).isSome | none=>false)&&(ea.all fun i=>(look bl i).isNone&&decide (s.np≤i)) &&
    (s.kp.all fun c=>!o.ids.contains c.1||(Zn 0 g.ps).any fun q=>decide (Zp o.tg q.1=some c.1)&&decide (q.2=c.2))&&nodupB ((shB 0 0 g.ps).map (·.1))&&decide (Zl g.ps≤1000) &&
    (Z20 g).all (fun p=>if p.1<1000 then (Zp o.tg p.1).isSome&&decide (p.1<Zl g.ps) else (s.heap (ψ p.1)).isNone&&decide (s.np≤ψ p.1))&&nodupB (bl.map (·.1))&&decide (g.outs≤64) then
   (single ((Z1O 0 1000 g.rs).map (SV.map (Zq ψ id)))).map fun v =>
    (o.gs,o.es,v,⟨s.cur.map (SV.map f),s.stk.map (List.map (SV.map f)),fun k=>match look bl k with | some b=>some b | none=>bif ea.contains k then none else (s.heap k).map (Blk.map f),s.base,s.np,s.kp⟩)
  else none
 | none=>none
def Z2c (s:St):List Sh→List Operand→Option Nat
 | .arr _ _::l,.tmp t::m=>match s.cur.getD t (.a .no) with
  | .a (.nref _ _ _ _ _)=>some t
  | _=>Z2c s l m
 | _::l,_::m=>Z2c s l m
 | _,_=>none
def Z2d:OC→List Atom→List Nat×List Atom
 | .p _,.ref i::l=>([i],l)
 | .pr a b,l=>let x:=Z2d a l;let y:=Z2d b x.2;(x.1++y.1,y.2)
 | _,_::l=>([],l)
 | _,[]=>([],[])
def Z2e (s:St):List Sh→List Operand→List Nat
 | .obj o::l,x::m=>(match s.get x with
  | .a (.ptr i 0)=>match s.heap i with
   | some (.box q)=>(Z2d o q).1
   | _=>[]
  | _=>[])++Z2e s l m
 | _::l,_::m=>Z2e s l m
 | _,_=>[]
def Z2f (g:Sig) (s:St) (id:Nat) (argOps:List Operand):Option (List (E .bool)×List AE×SV×St):=Z2b g (if g.leaks then (Z2e s g.ps argOps).foldl St.freeze (s.solids argOps) else s) id argOps
def Z2g (g:Sig) (s:St) (id:Nat) (argOps:List Operand):Option (List (E .bool)×List AE×SV×St) :=
 match Z2c s g.ps argOps with
 | none=>Z2f g s id argOps
 | some t =>
  match Z1q s t (id+32) with
  | some (i,s1) =>
   match Z2f g s1 id argOps with
   | some (gs,ins,v,s2) =>
    match Z1r { s2 with cur:=v::s2.cur } i (id+32) with
    | some ⟨v'::cur,stk,heap,base,np,kp⟩=>some (gs,ins,v',⟨cur,stk,heap,base,np,kp⟩)
    | _=>none
   | none=>none
  | none=>none
abbrev Inl:=FuncId→List SV→St→(SV→St→Tr)→Tr
def Z2h (l:List Oper):List Nat:=l.flatMap fun o=>(o.op.operands.toList.filterMap fun | .tmp t=>some t | _=>none)
def Z2i (s:St) (c:Call):List SV:=c.args.toList.map s.get
def St.putD (s:St) (dst:Option Tmp) (v:SV):St :=
 match dst with
 | some d=>{ s with cur:=s.cur.set d v }
 | none=>s
def St.keepAt (s:St) (live:List Nat) (b:Nat):St:=⟨Z1H live 0 s.cur,s.stk,s.heap,b,s.np,s.kp⟩
def Z2j (dp:Bool) (s:St) (id:Nat) (ty:Ty) (i j:Nat) (k:E (.int .i64)):Res :=
 match s.heap i,s.heap j with
 | some (.arr d1 ty1 e1),some (.arr d2 ty2 e2) =>
  if hd:d1=dp∧d2=dp then
   if h1:ty1=ty then
    if h2:ty2=ty then
     if i≠j∧ty.size=1∧free s id=true then
      some ([gLe (eI .i64 0) k,gLe k (Zh (h1▸e1:E (.sl false ty))),gLe (Zh (h1▸e1:E (.sl false ty))) (eI .i64 lim),.o2 (.cm .eql .i64 .i64) (Zh (h2▸e2:E (.sl false ty))) (eI .i64 1)],
       .a (.ref id),(s.kills (bif dp then [i,j] else [i])).new id (.arr dp ty (.o2 (.app ty) (.o2 (.app ty) (.o2 (.take ty .i64) (h1▸e1) k) (h2▸e2)) (.o2 (.drop ty .i64) (h1▸e1) k))))
     else none
    else none
   else none
  else none
 | _,_=>none
def Z2k (s:St) (id:Nat) (ty:Ty) (x n y:Operand):Res :=
 match (s.get x).atom,s.get n,(s.get y).atom with
 | .ref i,.a (.x (.int .i64) k),.ref j =>
  match Z2j true s id ty i j k with
  | some q=>some q
  | none=>Z2j false (s.shallow j) id ty i j k
 | _,_,_=>none
def Z2l (s:St) (x:Operand):Res :=
 match (s.get x).atom with
 | .ref i =>
  match s.heap i with
  | some (.arr false (.int .i64) e)=>some ([gLe (Zh e) (eI .i64 lim)],.tup [],((s.kills []).unnest i).new i (.arr false (.int .i64) (.o1 (.hnd 0) e)))
  | _=>none
 | _=>none
def Z2m (s:St) (id:Nat) (x:Operand):Res :=
 match (s.get x).atom with
 | .ref i =>
  match s.heap i with
  | some (.arr false (.int .i64) e)=>if free s id then some ([gLe (Zh e) (eI .i64 lim)],.a (.ref id),(s.kills [i]).new id (.arr false (.int .i64) (.o1 (.hnd 1) e))) else none
  | _=>none
 | _=>none
def Z2n (s:St) (id:Nat) (x:Operand):Res :=
 match Z0M s.heap false (.int .i64) (s.get x).atom with
 | some (e,_)=>if free s id then some ([gLe (Zh e) (eI .i64 lim)],.a (.ref id),(s.kills []).new id (.arr false (.int .i64) e)) else none
 | none=>none
def Z2o (s:St) (id:Nat) (u:Ty) (x n:Operand):Res :=
 match (s.get x).atom,s.get n with
 | .nil,.a (.x (.int .i64) k)=>if free s id then some ([gLe (eI .i64 0) k,gLe k (eI .i64 lim)],.a (.ref id),(s.kills []).new id (.arr u.hasSl u (.nil false u))) else none
 | _,_=>none
def Z2p (s:St) (id:Nat) (x:Operand):Res :=
 match x with
 | .tmp t =>
  match Z1q s t (id+32) with
  | some (i,s1) =>
   match Z2l s1 (.tmp t) with
   | some (gs,.tup [],s2)=>(Z1r s2 i (id+32)).map fun s3=>(gs,.tup [],s3)
   | _=>none
  | none=>none
 | _=>none
def Z2q (s:St) (id:Nat) (x:Operand):Res :=
 match x with
 | .tmp t =>
  match Z1q s t (id+32) with
  | some (_,s1)=>Z2m s1 id (.tmp t)
  | none=>none
 | _=>none
def Z2r (s:St) (id:Nat) (ty:Ty) (ops:List Operand):Res :=
 match ty,ops with
 | .bool,[x]=>match Z2l s x with
  | some q=>some q
  | none=>Z2p s id x
 | .int .i64,[x]=>match Z2m s id x with
  | some q=>some q
  | none=>Z2q s id x
 | .str,[x]=>Z2n s id x
 | .pr u .bool,[x,n]=>Z2o s id u x n
 | .sl c u,[x,n,y]=>Z2k s id (.sl c u) x n y
 | _,_=>none
def Z2s (o:Oper) (i:Nat):Nat:=match o.dst with | some d=>2 * d | none=>2 * i+1
def Z2t (s:St):Op→Res
 | .assign x =>
  match (s.solid x).get x with
  | .a (.x (.sl false t) e)=>some ([.o1 .not (.o1 (.emp false t) e)],.a (.x (.sl true t) (.o1 (.re false true t) e)),s.solid x)
  | _=>none
 | _=>none
def Z2u (n:Nat):Operand→Bool
 | .tmp t=>decide (t<n)
 | _=>true
def Z2v (c:Cx) (fn:FuncId) (rid:Nat) (inl:Inl) (ops:Array Oper) (i:Nat) (o:Oper) (rest:List Oper) (k:SV→St→Tr) (s:St):Tr :=
 match o.op with
 | .call { callee:=.value f,args:=args,argTypes:=ts } =>
  match s.get f with
  | .a (.clo g caps) =>
   match c.ins g with
   | some ty =>
    match caps with
    | [] =>
     match Z2r s (s.base+64 * i) ty args.toList with
     | some (gs,v,s')=>.guards gs (k v { s' with base:=s.base })
     | none=>.bad
    | _=>.bad
   | none =>
   match c.sg g with
   | some sig =>
    if caps.isEmpty then
     match Z2g sig s (s.base+64 * i) args.toList with
     | some (gs,ins,v,s')=>.guards gs (.call g ins (s.base+64 * i) (k v { s' with base:=s.base }))
     | none=>.bad
    else if args.toList.all (Z2u s.cur.length) then
     match Z2g sig { s with cur:=s.cur++caps.map fun p=>.a (.ptr p.1 p.2) } (s.base+64 * i) (args.toList++(List.range caps.length).map fun j=>.tmp (s.cur.length+j)) with
     | some (gs,ins,v,s')=>.guards gs (.call g ins (s.base+64 * i) (k v { s' with cur:=s'.cur.take s.cur.length,base:=s.base }))
     | none=>.bad
    else .bad
   | none =>
    inl g (args.toList.map s.get++caps.map fun p=>.a (.ptr p.1 p.2))
     (s.keepAt (Z2h rest++((rest.filterMap (·.guard)).filterMap fun gd=>(ops[gd.1]?).bind (·.dst))++(c.hint fn).liveOut rid) (s.base+64 * (i+1))) k
  | _=>.bad
 | op =>
  if (c.hint fn).vws.contains (rid,Z2s o i) then
   match Z2t s op with
   | some (gs,v,s')=>.guards gs (k v { s' with base:=s.base })
   | none =>
   match Z1t c.P s op with
   | some (gs,v,s')=>.guards gs (k v { s' with base:=s.base })
   | none =>
   match Z1s c.P s (s.base+64 * i) op with
   | some (gs,v,s')=>.guards gs (k v { s' with base:=s.base })
   | none =>
   match Z1j c.P s op with
   | some (gs,v,s')=>.guards gs (k v { s' with base:=s.base })
   | none=>.bad
  else
  match Z1p c.P ((c.hint fn).frz.contains (rid,Z2s o i)) s (s.base+64 * i) op with
  | some (gs,v,s')=>.guards gs (k v { s' with base:=s.base })
  | none=>.bad
def Z2w (c:Cx) (fn:FuncId) (rid:Nat) (inl:Inl) (ops:Array Oper) (i:Nat) (o:Oper) (rest:List Oper) (k:St→Tr) (s:St):Tr :=
 match o.guard with
 | none=>Z2v c fn rid inl ops i o rest (fun v s'=>k (s'.putD o.dst v)) s
 | some (j,want) =>
  match (ops[j]?).bind (·.dst) with
  | none=>.bad
  | some t =>
   match s.cur.getD t (.a .no) with
   | .a .un=>k (s.putD o.dst (.a .un))
   | .a (.x .bool e) =>
    match litB e with
    | some b=>if b=want then Z2v c fn rid inl ops i o rest (fun v s'=>k (s'.putD o.dst v)) s else k (s.putD o.dst (.a .un))
    | none =>
     if want then .ite e (Z2v c fn rid inl ops i o rest (fun v s'=>k (s'.putD o.dst v)) (s.asm e true)) (k ((s.asm e false).putD o.dst (.a .un)))
     else .ite e (k ((s.asm e true).putD o.dst (.a .un))) (Z2v c fn rid inl ops i o rest (fun v s'=>k (s'.putD o.dst v)) (s.asm e false))
   | _=>.bad
def Z2x (c:Cx) (fn:FuncId) (rid:Nat) (inl:Inl) (ops:Array Oper) (k:St→Tr):Nat→List Oper→St→Tr
 | _,[],s=>k s
 | i,o::rest,s=>Z2w c fn rid inl ops i o rest (Z2x c fn rid inl ops k (i+1) rest) s
def Z2y:Op→Option Bool
 | .move _=>some false
 | .assign _=>some false
 | .pick _ _ _=>some false
 | .load _ _=>some true
 | .build _ _=>some false
 | .nilCheck _=>some false
 | .binOp _ _ _ _ _=>some false
 | .unOp _ _ _=>some false
 | .convert _ _ _=>some false
 | .makeFunc _ _ _=>some false
 | .fieldAddr _ _ _=>some false
 | .indexAddr _ _ _=>some false
 | .index _ _ _=>some false
 | .field _ _ _=>some false
 | .extract _ _=>some false
 | .call { callee:=.builtin .len,args:=_,argTypes:=_ }=>some false
 | .call { callee:=.builtin .max,args:=_,argTypes:=_ }=>some false
 | .call { callee:=.builtin .min,args:=_,argTypes:=_ }=>some false
 | _=>none
def Z2z (c:Cx) (o:Oper):Bool :=
 match o.op with
 | .alloc _=>true
 | .box _ _=>true
 | .buildSlice _ _ _=>true
 | .call { callee:=.value (.func f),args:=_,argTypes:=_ }=>match c.sg f with
  | some g=>(c.ins f).isNone&&g.ps.all fun h=>!h.byRef
  | none=>false
 | _=>false
def Z2A (c:Cx) (o:Oper):Bool:=(Z2y o.op).isNone&&!Z2z c o
def Z2B (ops:Array Oper):List (List Nat) :=
 ops.toList.foldl (fun t o=>t++[o.after.toList.foldl (fun l e=>bif Region.binds .any e then (if l.contains e.on then l else e.on::l)++(t.getD e.on []).filter (fun x=>!l.contains x) else l) []]) []
def Z2C (ops:Array Oper) (t:List (List Nat)):Bool :=
 (List.range ops.size).all fun j=>(t.getD j []).all fun i =>
  match ops[j]? with
  | some o=>o.after.toList.any fun e=>Region.binds .any e&&(e.on==i||(decide (e.on<j)&&(t.getD e.on []).contains i))
  | none=>false
def Z2D (c:Cx) (ops:Array Oper) (t:List (List Nat)) (listed:Array Bool) (i:Nat) (o:Oper):Bool :=
 match Z2y o.op with
 | some ld=>Region.free .any ops listed i&&(!ld||(List.range ops.size).all fun j=>listed.getD j true||match ops[j]? with
  | some oj=>!Z2A c oj||(t.getD j []).contains i
  | none=>true)
 | none=>Region.ready .any ops listed==[i]
def Z2E (c:Cx) (ops:Array Oper) (t:List (List Nat)):Nat→Array Bool→Option (List Oper)
 | 0,listed=>if (Region.ready .any ops listed).isEmpty then some [] else none
 | n+1,listed =>
  match (Region.ready .any ops listed).find? fun i=>match ops[i]? with
   | some o=>Z2D c ops t listed i o
   | none=>false with
  | some i=>match ops[i]? with
   | some o=>(Z2E c ops t n (listed.setIfInBounds i true)).map (o::·)
   | none=>none
  | none=>none
def Z2F (c:Cx) (ops:Array Oper):Option (List Oper) :=
 if Region.noSelect ops&&Z2C ops (Z2B ops) then Z2E c ops (Z2B ops) ops.size (Array.replicate ops.size false) else none
def alV:List (Nat×Nat×Nat)→Nat→Nat→Bool
 | [],i,j=>decide (i=j)
 | (a,b,n)::l,i,j=>if n=0 then (if b=0 then false else if i=a then decide (j+1=b) else alV l i j) else
  if a≤i∧i<a+n then decide (j=i - a+b) else (if b≤j∧j<b+n then false else alV l i j)
def Z2G (a b n:Nat) (l:List (Nat×Nat×Nat)):List (Nat×Nat×Nat):=if n=0 then l else (a,b,n)::l
def Z2H:{a b c a' b' c':Ty}→O2 a b c→O2 a' b' c'→Bool
 | _,_,_,_,_,_,.sh l k j,.sh l' k' j'=>decide (l=l')&&decide (k=k')&&decide (j=j')
 | _,_,_,_,_,_,.scat,.scat=>true
 | _,_,_,_,_,_,.app e,.app e'=>decide (e=e')
 | _,_,_,_,_,_,.take e k,.take e' k'=>decide (e=e')&&decide (k=k')
 | _,_,_,_,_,_,.drop e k,.drop e' k'=>decide (e=e')&&decide (k=k')
 | _,_,_,_,_,_,.rep e k,.rep e' k'=>decide (e=e')&&decide (k=k')
 | _,_,_,_,_,_,.over e,.over e'=>decide (e=e')
 | _,_,_,_,_,_,.pair a b,.pair a' b'=>decide (a=a')&&decide (b=b')
 | _,_,_,_,_,_,o,p=>Z07 o p
def Z2I:{a b c d a' b' c' d':Ty}→O3 a b c d→O3 a' b' c' d'→Bool
 | _,_,_,_,_,_,_,_,.pick e,.pick e'=>decide (e=e')
 | _,_,_,_,_,_,_,_,.set e k,.set e' k'=>decide (e=e')&&decide (k=k')
 | _,_,_,_,_,_,_,_,_,_=>false
def alE (l:List (Nat×Nat×Nat)):{a b:Ty}→E a→E b→Bool
 | _,_,.var t i,.var t' j=>decide (t=t')&&alV l i j
 | _,_,.int k n,.int k' m=>decide (k=k')&&decide (n=m)
 | _,_,.bool a,.bool b=>a==b
 | _,_,.str a,.str b=>decide (a=b)
 | _,_,.nil c e,.nil c' e'=>decide (c=c')&&decide (e=e')
 | _,_,.z t,.z t'=>decide (t=t')
 | _,_,.o1 o x,.o1 p y=>Z06 o p&&alE l x y
 | _,_,.o2 o x y,.o2 p u v=>Z2H o p&&alE l x u&&alE l y v
 | _,_,.o3 o x y z,.o3 p u v w=>Z2I o p&&alE l x u&&alE l y v&&alE l z w
 | _,_,_,_=>false
structure SetV where
 t:Ty
 k:IntKind
 x:E (.sl false t)
 i:E (.int k)
 u:E t
def Z2J:{a:Ty}→E a→Option SetV
 | _,.o3 (.set t k) x i u=>some ⟨t,k,x,i,u⟩
 | _,_=>none
def Z2K (l:List (Nat×Nat×Nat)) {a b:Ty} (e:E a) (f:E b):Bool :=
 match Z2J e,Z2J f with
 | some p,some q =>
  match Z2J p.x,Z2J q.x with
  | some p',some q'=>decide (p.t=q.t)&&alE l p'.x q'.x&&alE l p'.i q.i&&alE l p.i q'.i&&alE l p'.u q.u&&alE l p.u q'.u&&alE l p'.u q'.u
  | _,_=>false
 | _,_=>false
def alA (l:List (Nat×Nat×Nat)) (a b:AE):Bool:=alE l a.2 b.2||Z2K l a.2 b.2
def E.noV (b n:Nat):{t:Ty}→E t→Bool
 | _,.var _ i=>!(decide (b≤i)&&decide (i<b+n))
 | _,.o1 _ x=>x.noV b n
 | _,.o2 _ x y=>x.noV b n&&y.noV b n
 | _,.o3 _ x y u=>x.noV b n&&y.noV b n&&u.noV b n
 | _,_=>true
def Z2L (c:Cx):Tr→List (E .bool)
 | .guard e t=>e::Z2L c t
 | .call f _ b t=>match c.sg f with
  | some g=>(Z2L c t).filter fun e=>e.noV b g.outs
  | none=>[]
 | _=>[]
def Z2M (l:List (Nat×Nat×Nat)) (gs:List (E .bool)):Tr→Tr
 | .guard e t=>bif gs.any fun g=>alE l g e then Z2M l gs t else .guard e t
 | t=>t
def alT (c:Cx):List (Nat×Nat×Nat)→List (E .bool)→Tr→Tr→Bool
 | _,_,.bad,_=>true
 | l,gs,.leaf x _,t'=>match Z2M l gs t' with
  | .leaf x' _=>l.isEmpty&&decide (x=x')
  | _=>false
 | l,gs,.ite c1 a b,t'=>match Z2M l gs t' with
  | .ite c2 a' b'=>alE l c1 c2&&alT c l gs a a'&&alT c l gs b b'
  | _=>false
 | l,gs,.guard c1 t,t'=>alT c l (c1::gs) t t'
 | l,gs,.call f ins b t,t'=>match c.sg f with
  | some g=>match Z2M l (gs++(Z2L c t).filter fun e=>e.noV b g.outs) t' with
   | .call f' ins' b' t''=>decide (f=f')&&eqL (alA l) ins ins'&&alT c (Z2G b b' g.outs l) (gs.filter fun e=>e.noV b g.outs) t t''
   | _=>false
  | none=>false
 | l,gs,.jump n vs,t'=>match Z2M l gs t' with
  | .jump n' vs'=>decide (n=n')&&eqL (alA l) vs vs'
  | _=>false
 | l,gs,.ret vs,t'=>match Z2M l gs t' with
  | .ret vs'=>eqL (alA l) vs vs'
  | _=>false
 | l,gs,.join t k,t'=>match Z2M l gs t' with
  | .join t'' k'=>alT c l gs t t''&&alT c [] [] k k'
  | _=>false
 | l,gs,.loop i b,t'=>match Z2M l gs t' with
  | .loop i' b'=>eqL (alA l) i i'&&alT c [] [] b b'
  | _=>false
def Z2N:Nat→List Nat→List (Nat×Nat×Nat)
 | _,[]=>[(0,0,0)]
 | i,k::q=>(i,k+1,0)::Z2N (i+1) q
def Z2O:Option (List Nat)→List (Nat×Nat×Nat)
 | none=>[]
 | some q=>Z2N 0 q
def Z2P (l:List (Nat×Nat×Nat)):List AE→List Nat→List AE→Bool
 | [],[],_=>true
 | v::vs,k::q,vs'=>(match vs'[k]? with | some v'=>alA l v v' | none=>false)&&Z2P l vs q vs'
 | _,_,_=>false
def Z2Q (l:List (Nat×Nat×Nat)):Option (List Nat)→List AE→List AE→Bool
 | none,vs,vs'=>eqL (alA l) vs vs'
 | some q,vs,vs'=>Z2P l vs q vs'
def Z2R:Nat→Tr→Option (List AE)
 | d,.jump n vs=>if n=d then some vs else none
 | d,.ite _ a b=>match Z2R d a with
  | some v=>some v
  | none=>Z2R d b
 | d,.guard _ t=>Z2R d t
 | d,.call _ _ _ t=>Z2R d t
 | d,.join t k=>match Z2R (d+1) t with
  | some v=>some v
  | none=>Z2R d k
 | d,.loop _ b=>Z2R (d+1) b
 | _,_=>none
def Z2S (l:List (Nat×Nat×Nat)) (v:AE):List AE→Nat→List Nat
 | [],_=>[]
 | v'::vs',p=>bif alA l v v' then p::Z2S l v vs' (p+1) else Z2S l v vs' (p+1)
def Z2T (n : Nat) (P : List Nat) : Nat := P.getD (P.length - 1 - n) 0
def Z2U (l:List (Nat×Nat×Nat)) (full:List AE):List AE→List Nat
 | []=>[]
 | v::vs=>Z2T (vs.filter fun u=>eqE v.2 u.2).length (Z2S l v full 0)::Z2U l full vs
def Z2V (l:List (Nat×Nat×Nat)) (vs vs':List AE):Option (List Nat):=if eqL (alA l) vs vs' then none else some (Z2U l vs' vs)
def alD (c:Cx):List (Nat×Nat×Nat)→List (E .bool)→List (Option (List Nat))→Tr→Tr→Bool
 | _,_,_,.bad,_=>true
 | l,gs,_,.leaf x _,t'=>match Z2M l gs t' with
  | .leaf x' _=>l.isEmpty&&decide (x=x')
  | _=>false
 | l,gs,js,.ite c1 a b,t'=>match Z2M l gs t' with
  | .ite c2 a' b'=>alE l c1 c2&&alD c l gs js a a'&&alD c l gs js b b'
  | _=>false
 | l,gs,js,.guard c1 t,t'=>alD c l (c1::gs) js t t'
 | l,gs,js,.call f ins b t,t'=>match c.sg f with
  | some g=>match Z2M l (gs++(Z2L c t).filter fun e=>e.noV b g.outs) t' with
   | .call f' ins' b' t''=>decide (f=f')&&eqL (alA l) ins ins'&&alD c (Z2G b b' g.outs l) (gs.filter fun e=>e.noV b g.outs) js t t''
   | _=>false
  | none=>false
 | l,gs,js,.jump n vs,t'=>match Z2M l gs t' with
  | .jump n' vs'=>decide (n=n')&&Z2Q l (js.getD n none) vs vs'
  | _=>false
 | l,gs,_,.ret vs,t'=>match Z2M l gs t' with
  | .ret vs'=>eqL (alA l) vs vs'
  | _=>false
 | l,gs,js,.join t k,t'=>match Z2M l gs t' with
  | .join t'' k' =>
   let q:=match Z2R 0 t,Z2R 0 t'' with
    | some vs,some vs'=>Z2V l vs vs'
    | _,_=>none
   alD c l gs (q::js) t t''&&alD c (Z2O q) [] js k k'
  | _=>false
 | l,gs,js,.loop i b,t'=>match Z2M l gs t' with
  | .loop i' b'=>Z2Q l (Z2V l i i') i i'&&alD c (Z2O (Z2V l i i')) [] (Z2V l i i'::js) b b'
  | _=>false
def Z2W (ops:Array Oper) (listed:Array Bool):List Oper:=(List.range ops.size).filterMap fun j=>bif listed.getD j true then none else ops[j]?
def Z2X (c:Cx) (fn:FuncId) (rid:Nat) (inl:Inl) (ops:Array Oper) (t:List (List Nat)) (all:Bool) (k:St→Tr):Nat→Nat→Array Bool→St→Tr
 | 0,_,listed,s=>if (Region.ready .any ops listed).isEmpty then k s else .bad
 | n+1,i,listed,s =>
  match (Region.ready .any ops listed).find? fun j=>match ops[j]? with
   | some o=>(Z2y o.op).isSome&&Z2D c ops t listed j o
   | none=>false with
  | some j=>match ops[j]? with
   | some o=>Z2w c fn rid inl ops i o (Z2W ops (listed.setIfInBounds j true)) (Z2X c fn rid inl ops t all k n (i+1) (listed.setIfInBounds j true)) s
   | none=>.bad
  | none=>match Region.ready .any ops listed with
   | []=>.bad
   | j::js=>match ops[j]? with
    | some o =>
     if !all||js.all fun j'=>match ops[j']? with
       | some o'=>alT c [] [] (Z2w c fn rid inl ops i o (Z2W ops (listed.setIfInBounds j true)) (Z2X c fn rid inl ops t all k n (i+1) (listed.setIfInBounds j true)) s)
         (Z2w c fn rid inl ops i o' (Z2W ops (listed.setIfInBounds j' true)) (Z2X c fn rid inl ops t all k n (i+1) (listed.setIfInBounds j' true)) s) ||
        alD c [] [] [] (Z2w c fn rid inl ops i o (Z2W ops (listed.setIfInBounds j true)) (Z2X c fn rid inl ops t all k n (i+1) (listed.setIfInBounds j true)) s)
         (Z2w c fn rid inl ops i o' (Z2W ops (listed.setIfInBounds j' true)) (Z2X c fn rid inl ops t all k n (i+1) (listed.setIfInBounds j' true)) s)
       | none=>false
     then Z2w c fn rid inl ops i o (Z2W ops (listed.setIfInBounds j true)) (Z2X c fn rid inl ops t all k n (i+1) (listed.setIfInBounds j true)) s
     else .bad
    | none=>.bad
def Z2Y (h:Hint) (rid:Nat) (s:St):Option (List AE×NS):=norm (s.keep (h.liveOut rid))
def Z2Z (n:NS):List NS→Option Nat
 | []=>none
 | T::l=>if n.eq T then some 0 else (Z2Z n l).map (·+1)
def Z2_ (h:Hint) (rid:Nat):List St→List NS→List NS
 | [],acc=>acc
 | s::l,acc=>match Z2Y h rid s with
  | some (_,n)=>match Z2Z n acc with
   | some _=>Z2_ h rid l acc
   | none=>Z2_ h rid l (acc++[n])
  | none=>Z2_ h rid l acc
def Z30 (h:Hint) (rid:Nat) (Ts:List NS) (s:St):Tr :=
 match Z2Y h rid s with
 | some (vs,n)=>match Z2Z n Ts with
  | some i=>.join (.jump 0 vs) (.leaf (.exit i) s)
  | none=>.bad
 | none=>.bad
def Z31 (c:Cx) (fn:FuncId) (inl:Inl) (rid:Nat) (ops:Array Oper) (s:St):Tr :=
 if Region.noSelect ops&&Z2C ops (Z2B ops) then
  let Ts:=Z2_ (c.hint fn) rid (Z2X c fn rid inl ops (Z2B ops) false (fun s'=>.leaf .normal s') ops.size 0 (Array.replicate ops.size false) s).normals []
  (Z2X c fn rid inl ops (Z2B ops) true (Z30 (c.hint fn) rid Ts) ops.size 0 (Array.replicate ops.size false) s).bind fun x _=>match x with
   | .exit i=>match Ts[i]? with
    | some T=>.leaf .normal (T.toSt T.base)
    | none=>.bad
   | _=>.bad
 else .bad
def Z32:Code→Option Nat
 | .region id _ _=>some id
 | .seq a b=>match Z32 a with
  | some k=>some k
  | none=>Z32 b
 | .block _ b=>Z32 b
 | .loop b=>Z32 b
 | _=>none
def Zr (c:Cx) (fn:FuncId) (inl:Inl):Code→St→Tr
 | .skip,s=>.leaf .normal s
 | .label _,s=>.leaf .normal s
 | .ret,s=>.leaf .ret s
 | .exit id,s=>.leaf (.exit id) s
 | .seq a b,s =>
  let ta:=Zr c fn inl a s
  match ta.normals with
  | []=>ta
  | [_]=>ta.bind fun x s'=>match x with
   | .normal=>Zr c fn inl b s'
   | x=>.leaf x s'
  | s1::_ =>
   match (Z32 b).filter fun k=>!(c.hint fn).dup.contains k with
   | none=>ta.bind fun x s'=>match x with
    | .normal=>Zr c fn inl b s'
    | x=>.leaf x s'
   | some k =>
    match Z1M (c.hint fn) k s1 with
    | some (_,T)=>.join (ta.toJumps (c.hint fn) k T 0) (Zr c fn inl b (T.toSt T.base))
    | none=>.bad
 | .cond x a b,s =>
  match s.get x with
  | .a (.x .bool e) =>
   match litB e with
   | some true=>Zr c fn inl a s
   | some false=>Zr c fn inl b s
   | none=>.ite e (Zr c fn inl a (s.asm e true)) (Zr c fn inl b (s.asm e false))
  | _=>.bad
 | .block id b,s=>(Zr c fn inl b s).bind fun x s' =>
  match x with
  | .exit j=>if j=id then .leaf .normal s' else .leaf (.exit j) s'
  | x=>.leaf x s'
 | .loop b,s =>
  match Z32 b with
  | none=>.bad
  | some k =>
   match Z1M (c.hint fn) k s with
   | some (vs,T)=>.loop vs ((Zr c fn inl b (T.toSt T.base)).toJumps (c.hint fn) k T 0)
   | none=>.bad
 | .region id ops false,s=>Z2x c fn id inl ops (fun s'=>.leaf .normal { s' with base:=s'.base+64 * ops.size }) 0 ops.toList s
 | .region id ops true,s =>
  match Z2F c ops with
  | some l=>Z2x c fn id inl ops (fun s'=>.leaf .normal { s' with base:=s'.base+64 * ops.size }) 0 l s
  | none=>Z31 c fn inl id ops s
 | _,_=>.bad
def Z33 (P:Program) (s:St):ResultVar→Option SV
 | .tmp t=>s.cur[t]?
 | .cell addr ty =>
  match s.cur.getD addr (.a .no),Z0q P ty,P.info? ty with
  | .a (.ptr id j),some g,some i =>
   match s.heap id with
   | some (.box l)=>part l g j i.size
   | _=>none
  | _,_,_=>none
def Z34 (P:Program) (s:St):List ResultVar→Option (List SV)
 | []=>some []
 | r::l =>
  match Z33 P s r,Z34 P s l with
  | some v,some vs=>some (v::vs)
  | _,_=>none
def Z35 (c:Cx):Nat→Inl
 | 0=>fun _ _ _ _=>.bad
 | n+1=>fun f args s k =>
  match c.P.funcs[f]? with
  | some fn =>
   match fn.body with
   | some b =>
    if args.length ≤ fn.ntmps ∧ fn.name ≠ "runtime.NumGoroutine" then
     (Zr c f (Z35 c n) b ⟨args++List.replicate (fn.ntmps - args.length) (.a .un),s.cur::s.stk,s.heap,s.base,s.np,s.kp⟩).bind fun x s' =>
      match x,s'.stk with
      | .exit _,_=>.bad
      | _,cur::stk =>
       match Z34 c.P s' fn.results.toList with
       | some l=>match single l with
        | some v=>k v ⟨cur,stk,s'.heap,s'.base,s'.np,s'.kp⟩
        | none=>.bad
       | none=>.bad
      | _,[]=>.bad
    else .bad
   | none=>.bad
  | none=>.bad
def finish (c:Cx) (g:Sig) (results:List ResultVar) (s:St):Option (List (E .bool)×List AE) :=
 match Z34 c.P s results with
 | some l =>
  match Z1X s.heap 0 1000 g.rs l,Z1X s.heap (shN g.rs) 0 (Z1P g.ps) (Z1Q 0 (Z1P g.ps)) with
  | some a,some b=>if (a.add b).ok&&decide (Zl g.ps≤1000) then some ((a.add b).gs,(a.add b).es) else none
  | _,_=>none
 | none=>none
def Zs (c:Cx) (f:FuncId):Option Tr :=
 match c.P.funcs[f]?,c.sg f with
 | some fn,some g =>
  match fn.body with
  | some b =>
   if g.ps.length ≤ fn.ntmps ∧ shN g.ps ≤ 90000 ∧ fn.name ≠ "runtime.NumGoroutine" then
    some ((Zr c f (Z35 c 12) b (g.init fn.ntmps)).bind fun x s =>
     match x with
     | .exit _=>.bad
     | _=>match finish c g fn.results.toList s with
      | some (gs,vs)=>.guards gs (.ret vs)
      | none=>.bad)
   else none
  | none=>none
 | _,_=>none
end Go.Sm
namespace Go.Sm
section
variable {w w':World} {M M':Nat→Prop}
theorem Z5.cells {v:Value} {o:Option Nat} {sz n:Nat} {xs:List Value} (h:Z5 w v o sz n xs) {p:Addr} {n' c':Nat} (hv:v=.slice (some p) n' c') (h0:0<n') :
  o=some p.block∧p.spot=none∧n'=n∧n≤c'∧∀k u,xs[k]?=some u→cell w p.block (p.off+k)=some u:=by
 obtain ⟨h1,h2⟩:=h
 rcases h2 with ⟨x,h2,_⟩ | ⟨b,off,cap,cur,ety,a1,a2,a3,a4,a5,a6,a7⟩
 ·rw [h2] at hv;simp at hv;omega
 ·rw [a2] at hv
  simp only [Value.slice.injEq,Y4] at hv
  obtain ⟨rfl,rfl,rfl⟩:=hv
  refine ⟨a1,rfl,rfl,a4,fun k u hu=>?_⟩
  rw [Z0b,a3]
  rw [←a7] at hu
  have hk:k<n * sz:=by
   have:=(Yn.1 hu).1
   simp only [Yb] at this
   omega
  rw [List.getElem?_take_of_lt hk,YB] at hu
  simpa using hu
theorem Z5.some_of_pos {v:Value} {o:Option Nat} {sz n:Nat} {xs:List Value} (h:Z5 w v o sz n xs) (hn:0<n) :
  ∃p c,v=.slice (some p) n c∧o=some p.block∧p.spot=none∧n≤c:=by
 rcases h.2 with ⟨_,_,h2,_⟩ | ⟨b,off,cap,cur,ety,a1,a2,a3,a4,_⟩
 ·omega
 ·exact ⟨_,_,a2,a1,rfl,a4⟩
theorem Z5.shape {v:Value} {o:Option Nat} {sz n:Nat} {xs:List Value} (h:Z5 w v o sz n xs) :
  ∃a c,v=.slice a n c∧n≤c∧(a=none→c=0∧n=0)∧(o=none→n=0∧c=0):=by
 rcases h.2 with ⟨x,h1,h2,h3⟩ | ⟨b,off,cap,cur,ety,a1,a2,a3,a4,_⟩
 ·subst h2;exact ⟨x,0,h1,Yh _,fun _=>⟨rfl,rfl⟩,fun _=>⟨rfl,rfl⟩⟩
 ·exact ⟨_,_,a2,a4,by simp,by simp [a1]⟩
theorem Z6.rep:∀{t:Ty} {F:List Nat} {d:t.D} {us:List Value},Z6 w t none F d us→(∀b∈F,¬M b)→Rep w M t d us:=by
 intro t
 induction t with
 | int k=>intro F d us h _;simp only [Z6,Rep] at *;simpa using h.2
 | bool=>intro F d us h _;simp only [Z6,Rep] at *;simpa using h.2
 | str=>intro F d us h _;simp only [Z6,Rep] at *;simpa using h.2
 | sl c e ih =>
  intro F d us h hM
  simp only [Z6] at h
  rw [if_neg (by simp)] at h
  obtain ⟨v,o,xs,Fs,rfl,h2,h3,h4,h5,h6⟩:=h
  obtain ⟨a,cp,hv,hle,hz,_⟩:=h2.shape
  refine ⟨a,cp,by rw [hv],hle,fun hc=>?_,fun ha=>(hz ha).1,fun p hp hne=>?_⟩
  ·rw [←h3 hc,hv]
   constructor
   ·intro ha
    obtain ⟨q1,q2⟩:=hz ha
    rw [ha,q1,q2]
   ·intro ha
    simp only [Value.slice.injEq] at ha
    exact ha.1
  subst hp
  obtain ⟨ho,hs,_,_,hcell⟩:=h2.cells hv (YJ.2 hne)
  refine ⟨hs,hM _ (by rw [h4,ho];simp),fun i hi=>?_⟩
  obtain ⟨cs,a1,a2,a3⟩:=h6 i hi
  exact ⟨cs,a1,fun j u hu=>hcell _ _ (a2 j u hu),ih a3 fun b hb=>hM b (by rw [h4];exact Y0 _ (Z0f hb))⟩
 | pr s t ihs iht =>
  intro F d us h hM
  simp only [Z6] at h
  obtain ⟨F1,F2,l,r,h1,h2,h3,h4⟩:=h
  exact ⟨l,r,h2,ihs h3 fun b hb=>hM b (by rw [h1];exact Y3 _ hb),iht h4 fun b hb=>hM b (by rw [h1];exact Y0 _ hb)⟩
theorem Row.rep {dp:Bool} {t:Ty} {F:List Nat} {d:t.D} {us:List Value} (h:Row w M dp t none F d us) (hk:Kept w M w M') (hF:∀b∈F,¬M' b):Rep w M' t d us:=by
 unfold Row at h
 split at h
 ·exact h.rep hF
 ·exact h.2.keep hk
theorem Zb.rep {g:G} {dp:Bool} {t:Ty} {ds:List t.D} (h:Zb w M g dp t (fun _=>none) ds) (hk:Kept w M w M') (hF:∀b∈g.foot,¬M' b):Rep w M' (.sl false t) ds [g.val]:=by
 obtain ⟨o,xs,Fs,h1,h2,h3,h4⟩:=h
 obtain ⟨a,cp,hv,hle,hz,_⟩:=h1.shape
 refine ⟨a,cp,by rw [hv],hle,by simp,fun ha=>(hz ha).1,fun p hp hne=>?_⟩
 subst hp
 obtain ⟨ho,hs,_,_,hcell⟩:=h1.cells hv (YJ.2 hne)
 refine ⟨hs,hF _ (by rw [h2,ho];simp),fun i hi=>?_⟩
 obtain ⟨us,a1,a2,a3⟩:=h4 i hi
 exact ⟨us,a1,fun j u hu=>hcell _ _ (a2 j u hu),a3.rep hk fun b hb=>hF b (by rw [h2];exact Y0 _ (Z0f hb))⟩
theorem Z36:∀{t:Ty} {j:Nat} {e:E t} {a:AE} {r:Env} {us:List Value},Zd t j e=some a→Rep w M t (den e r) us→∃u,us[j]?=some u∧Rep w M a.1 (den a.2 r) [u]:=by
 intro t
 induction t with
 | int k=>intro j e a r us hp h;cases j<;>simp [Zd] at hp;subst hp;simp only [Rep] at h;subst h;exact ⟨_,rfl,rfl⟩
 | bool=>intro j e a r us hp h;cases j<;>simp [Zd] at hp;subst hp;simp only [Rep] at h;subst h;exact ⟨_,rfl,rfl⟩
 | str=>intro j e a r us hp h;cases j<;>simp [Zd] at hp;subst hp;simp only [Rep] at h;subst h;exact ⟨_,rfl,rfl⟩
 | sl c e' ih =>
  intro j e a r us hp h
  cases j<;>simp [Zd] at hp
  subst hp
  have h0:=h
  obtain ⟨x,cp,rfl,_⟩:=h0
  exact ⟨_,rfl,h⟩
 | pr s t ihs iht =>
  intro j e a r us hp h
  obtain ⟨l,u,rfl,hl,hr⟩:=h
  simp only [Zd] at hp
  have hlen:=hl.len
  split at hp
  ·rename_i hj
   obtain ⟨v,hv,hrep⟩:=ihs (e:=.o1 (.fst s t) e) hp hl
   exact ⟨v,by rw [Yw (by omega)];exact hv,hrep⟩
  ·rename_i hj
   obtain ⟨v,hv,hrep⟩:=iht (e:=.o1 (.snd s t) e) hp hr
   exact ⟨v,by rw [Yt (by omega),hlen];exact hv,hrep⟩
theorem Z37 {N:Nat→Prop}:∀{t:Ty} {j:Nat} {e:E t} {a:AE},Zd t j e=some a→e.vs N→a.2.vs N:=by
 intro t
 induction t with
 | pr s t ihs iht =>
  intro j e a hp h
  simp only [Zd] at hp
  split at hp
  ·exact ihs hp h
  ·exact iht hp h
 | _=>intro j e a hp h;cases j<;>simp [Zd] at hp;subst hp;exact h
end
theorem Z38 {id:Nat} {a:Atom}:(Z0m id a).uses id=false:=by
 unfold Z0m
 cases h:a.uses id
 ·exact h
 ·rfl
section
variable {bd:Bd} {N:Nat→Prop} {s:St} {r:Env} {g:Nat→G} {tm:Array Value} {st:List (Array Value)} {w:World}
theorem Z39 {h h':Nat→Option Blk} {g:Nat→G} (hh:∀id B,h' id=some B→∃B',h id=some B') {b:Nat} (hb:Mt bd.Z h' g b):Mt bd.Z h g b:=by
 rcases hb with ⟨id,B,h1,h2⟩ | hz
 ·obtain ⟨B',h3⟩:=hh id B h1
  exact .inl ⟨id,B',h3,h2⟩
 ·exact .inr hz
theorem R.turn (h:R bd N s r g tm st w) (f:Atom→Atom) (h':Nat→Option Blk) (hsub:∀id B,h' id=some B→∃B',s.heap id=some B')
  (hf:∀a v,a.ok N s.heap→Z7 w (Mt bd.Z s.heap g) g r a v→Z7 w (Mt bd.Z h' g) g r (f a) v) (hfn:∀a,a.ok N s.heap→(f a).ok N h')
  (heap:∀id B,h' id=some B→Zc w (Mt bd.Z h' g) g r id B) (kpl:∀c∈bd.kp,∃l,h' c.1=some (.box l)) (nheap:∀id B,h' id=some B→B.ok N h') :
  R bd N ⟨s.cur.map (SV.map f),s.stk.map (List.map (SV.map f)),h',s.base,s.np,s.kp⟩ r g tm st w :=
 h.step f h' s.base hf hfn heap
  (fun id id' B B' b a1 a2 a3 a4=>by obtain ⟨C,hC⟩:=hsub id B a1;obtain ⟨C',hC'⟩:=hsub id' B' a2;exact h.inj id id' C C' b hC hC' a3 a4)
  (fun id B a1=>by obtain ⟨C,hC⟩:=hsub id B a1;exact h.nodup id C hC)
  (fun id B a1=>by obtain ⟨C,hC⟩:=hsub id B a1;exact h.own id C hC)
  (fun id B a1=>by obtain ⟨C,hC⟩:=hsub id B a1;exact h.lt id C hC)
  h.world h.kept (fun _ _=>⟨rfl,rfl⟩) kpl nheap
theorem Kept.same {h h':Nat→Option Blk} (hsub:∀id B,h' id=some B→∃B',h id=some B'):Kept w (Mt bd.Z h g) w (Mt bd.Z h' g) :=
 ⟨fun _ _ _=>rfl,fun _ _ hb=>Z39 hsub hb⟩
theorem Z3a:∀{t:Ty} (e:E t),e.vs fun _=>True:=by
 intro t e
 induction e<;>simp_all [E.vs]
theorem Z7.same {M M':Nat→Prop} (hk:Kept w M w M') {a:Atom} {v:Value} (h:Z7 w M g r a v):Z7 w M' g r a v :=
 Z7.keep (N:=fun _=>True) hk (fun _ _=>rfl) (by cases a<;>simp only [Atom.vs]<;>first | trivial | exact Z3a _ | exact ⟨Z3a _,Z3a _⟩) (fun _ _=>⟨rfl,rfl⟩) (fun _ _ _=>⟨rfl,fun _ _ _ _ _=>rfl⟩) h
theorem R.turnAll (h:R bd N s r g tm st w) (f:Atom→Atom) (D:Nat→Bool)
  (hf:∀a v,a.ok N s.heap→Z7 w (Mt bd.Z s.heap g) g r a v→Z7 w (Mt bd.Z (fun k=>bif D k then none else (s.heap k).map (Blk.map f)) g) g r (f a) v)
  (hfn:∀a,a.ok N s.heap→(f a).vs N∧∀i,(f a).uses i=true→a.uses i=true∧D i=false) (hD:∀id l,D id=true→s.heap id=some (.box l)→False) :
  R bd N ⟨s.cur.map (SV.map f),s.stk.map (List.map (SV.map f)),fun k=>bif D k then none else (s.heap k).map (Blk.map f),s.base,s.np,s.kp⟩ r g tm st w:=by
 have hsub:∀i B,(bif D i then none else (s.heap i).map (Blk.map f))=some B→∃B',s.heap i=some B'∧D i=false∧B=B'.map f:=by
  intro i B hB
  cases hi:D i<;>simp [hi] at hB
  obtain ⟨C,hC,rfl⟩:=hB
  exact ⟨C,hC,rfl,rfl⟩
 have hok:∀a,a.ok N s.heap→(f a).ok N (fun k=>bif D k then none else (s.heap k).map (Blk.map f)):=by
  intro a ha
  obtain ⟨h1,h2⟩:=hfn a ha
  refine Atom.ok_mk h1 fun i hi=>?_
  obtain ⟨h3,h4⟩:=h2 i hi
  have:=ha.live h3
  simp only [h4,cond_false,Option.isSome_map]
  exact this
 refine h.turn f _ (fun i B hB=>⟨_,(hsub i B hB).choose_spec.1⟩) hf hok ?_ ?_ ?_
 ·intro i B hB
  obtain ⟨C,hC,_,rfl⟩:=hsub i B hB
  exact Zc.keep (N:=N) (Kept.same fun i B hB=>⟨_,(hsub i B hB).choose_spec.1⟩) (fun _ _=>rfl) hf (h.nheap i C hC) rfl (fun _ _=>rfl) (h.heap i C hC)
 ·intro c hc
  obtain ⟨_,l,hl⟩:=h.kpl c hc
  cases hd:D c.1 with
  | true=>exact (hD c.1 l hd hl).elim
  | false=>exact ⟨l.map f,by simp [hl,Blk.map]⟩
 ·intro i B hB
  obtain ⟨C,hC,_,rfl⟩:=hsub i B hB
  have:=h.nheap i C hC
  cases C with
  | box l=>intro a ha;obtain ⟨b,hb,rfl⟩:=Yo.1 ha;exact hok b (this b hb)
  | arr dp t e=>exact this
  | hole t e k i j b=>exact ⟨this.1,this.2.1,hok b this.2.2⟩
  | lent t e k i b=>exact ⟨this.1,this.2.1,hok b this.2.2⟩
theorem R.kill (h:R bd N s r g tm st w) (id:Nat) (hb:∀l,s.heap id≠some (.box l)):R bd N (s.kill id) r g tm st w:=by
 refine h.turnAll (Z0m id) (fun k=>k==id) ?_ ?_ ?_
 ·intro a v ha hv
  unfold Z0m
  cases a.uses id
  ·refine hv.same (Kept.same fun i B hB=>?_)
   cases hi:(i==id)<;>simp [hi] at hB
   obtain ⟨C,hC,_⟩:=hB
   exact ⟨C,hC⟩
  ·trivial
 ·intro a ha
  unfold Z0m
  cases hu:a.uses id
  ·refine ⟨ha.vs,fun i hi=>⟨hi,?_⟩⟩
   simp only [beq_eq_false_iff_ne,ne_eq]
   rintro rfl
   simp [hu] at hi
  ·exact ⟨trivial,fun i hi=>by simp [Atom.uses] at hi⟩
 ·intro i l hi hl
  simp only [beq_iff_eq] at hi
  subst hi
  exact hb l hl
theorem R.unnest (h:R bd N s r g tm st w) (id:Nat):R bd N (s.unnest id) r g tm st w:=by
 have:=h.turnAll (Ze id) (fun _=>false) (by
  intro a v ha hv
  unfold Ze
  cases a.nst&&a.uses id
  ·refine hv.same (Kept.same fun i B hB=>?_)
   simp at hB
   obtain ⟨C,hC,_⟩:=hB
   exact ⟨C,hC⟩
  ·trivial) (by
  intro a ha
  unfold Ze
  cases a.nst&&a.uses id
  ·exact ⟨ha.vs,fun i hi=>⟨hi,rfl⟩⟩
  ·exact ⟨trivial,fun i hi=>by simp [Atom.uses] at hi⟩) (by simp)
 exact this
theorem Z3b {c:Bool} {t:Ty} {k:IntKind} (l:E (.sl c t)) (i:E (.int k)) (r:Env):den (.o2 (.idx c t k) l i) r=(den l r:List t.D).getD (Int.toNat (den i r)) t.z:=rfl
theorem Z3c {α:Type} {l:List α} {i:Nat} {d:α} (h:i<l.length):l.getD i d=l[i]:=by
 simp [Y8,h]
theorem Z3d {M':Nat→Prop} {id:Nat} {t:Ty} {e:E (.sl false t)} {dp:Bool} {k:IntKind} {i:E (.int k)} {j:Nat} {a:AE} {v:Value} {o:Option Nat} {xs:List Value} {Fs:List (List Nat)}
  (b1:Z5 w (g id).val o t.size (den e r:List t.D).length xs) (b4:∀i (h:i<(den e r:List t.D).length),∃us,us.length=t.size∧(∀j u,us[j]?=some u→xs[i * t.size+j]?=some u)∧Row w (Mt bd.Z s.heap g) dp t none (Fs.getD i []) (den e r:List t.D)[i] us)
  (hk:Kept w (Mt bd.Z s.heap g) w M') (hF:∀b∈Fs.flatten,¬M' b)
  (hp:Zd t j (.o2 (.idx false t k) e i)=some a) (hv:Z7 w (Mt bd.Z s.heap g) g r (.nref id t k i j) v):Rep w M' a.1 (den a.2 r) [v]:=by
 obtain ⟨p,n,c,h1,h2,h3,h4,h5⟩:=hv
 obtain ⟨ho,hs,hn,_,hcell⟩:=b1.cells h1 (Nat.lt_of_le_of_lt (Yf _) h4)
 subst hn
 obtain ⟨us,a1,a2,a3⟩:=b4 _ h4
 have hrep:=a3.rep hk fun b hb=>hF b (Z0f hb)
 have hd:den (.o2 (.idx false t k) e i) r=(den e r:List t.D)[Int.toNat (den i r)]:=by rw [Z3b];exact Z3c h4
 rw [←hd] at hrep
 obtain ⟨u,hu,hr⟩:=Z36 hp hrep
 have:=hcell _ _ (a2 j u hu)
 rw [this] at h5
 cases h5
 exact hr
theorem Z3e {M':Nat→Prop} {id:Nat} {t:Ty} {e:E (.sl false t)} {dp:Bool} {k:IntKind} {i:E (.int k)} {j:Nat} {a:AE} {v:Value}
  (hB:Zb w (Mt bd.Z s.heap g) (g id) dp t (fun _=>none) (den e r)) (hk:Kept w (Mt bd.Z s.heap g) w M') (hF:∀b∈(g id).foot,¬M' b)
  (hp:Zd t j (.o2 (.idx false t k) e i)=some a) (hv:Z7 w (Mt bd.Z s.heap g) g r (.nref id t k i j) v):Rep w M' a.1 (den a.2 r) [v]:=by
 obtain ⟨o,xs,Fs,b1,b2,b3,b4⟩:=hB
 exact Z3d b1 b4 hk (fun b hb=>hF b (by rw [b2];exact Y0 _ hb)) hp hv
theorem Rep.cut {M:Nat→Prop} {t:Ty} {c0:Bool} {ds:List t.D} {x:Option Addr} {n c:Nat} (h:Rep w M (.sl c0 t) ds [.slice x n c]) {l k m:Nat} (h1:l≤k) (h2:k≤ds.length) (h3:k≤m) (h4:m≤c) :
  Rep w M (.sl false t) ((ds.take k).drop l) [.slice (if m=l then x else x.map (·.add (l * t.size))) (k - l) (m - l)]:=by
 obtain ⟨x',c',e1,e2,e3,e4,e5⟩:=h
 simp only [List.cons.injEq,Value.slice.injEq,and_true] at e1
 obtain ⟨rfl,rfl,rfl⟩:=e1
 have hlen:((ds.take k).drop l).length=k - l:=by rw [Yq,Yb,Nat.min_eq_left h2]
 refine ⟨_,m - l,by rw [hlen],by rw [hlen];omega,by simp,?_,?_⟩
 ·intro hx
  split at hx
  ·omega
  ·simp only [Option.map_eq_none_iff] at hx
   have:=e4 hx;omega
 ·intro p hp hne
  have hpos:0<k - l:=by rw [←hlen];exact YJ.2 hne
  have hds:ds≠[]:=by intro hh;rw [hh] at hne;simp at hne
  rw [if_neg (by omega)] at hp
  obtain ⟨q,hq,rfl⟩:=Ya.1 hp
  obtain ⟨f1,f2,f3⟩:=e5 q hq hds
  rw [Z0e f1]
  refine ⟨rfl,f2,fun i hi=>?_⟩
  rw [hlen] at hi
  obtain ⟨us,a1,a2,a3⟩:=f3 (l+i) (by omega)
  refine ⟨us,a1,fun j u hu=>?_,by simpa using a3⟩
  have:=a2 j u hu
  rw [Nat.add_mul] at this
  have e:q.off+l * t.size+(i * t.size+j)=q.off+(l * t.size+i * t.size+j):=by omega
  show cell w q.block (q.off+l * t.size+(i * t.size+j))=some u
  rw [e]
  exact this
theorem Z3f {id:Nat} {t:Ty} {e:E (.sl false t)} (he:e.vs N) (a:Atom) (h:a.vs N):(Z0o id t e a).vs N:=by
 unfold Z0o
 cases a.uses id
 ·exact h
 ·cases a with
  | ref i=>exact he
  | eptr i t' k ix j =>
   simp only [cond_true]
   split
   ·exact ⟨he,h⟩
   ·trivial
  | nref i t' k ix j =>
   simp only [cond_true]
   split
   ·split
    ·rename_i hp;exact Z37 hp ⟨he,h⟩
    ·trivial
   ·trivial
  | vw i t' lo hi =>
   simp only [cond_true]
   split
   ·exact ⟨⟨he,h.2⟩,h.1⟩
   ·trivial
  | _=>trivial
theorem Z3g {id:Nat} {t:Ty} {e:E (.sl false t)} {a:Atom} {i:Nat} (h:(Z0o id t e a).uses i=true):a.uses i=true∧i≠id:=by
 unfold Z0o at h
 cases hu:a.uses id
 ·rw [hu] at h
  refine ⟨h,?_⟩
  rintro rfl
  simp only [cond_false] at h
  rw [hu] at h
  cases h
 ·rw [hu] at h
  cases a<;>simp only [cond_true] at h<;>(repeat' split at h)<;>simp [Atom.uses] at h
theorem R.freeze (h:R bd N s r g tm st w) (id:Nat):R bd N (s.freeze id) r g tm st w:=by
 unfold St.freeze
 split
 case h_2=>exact h
 rename_i dp t e hid
 have hsub:∀i B,(bif i==id then none else (s.heap i).map (Blk.map (Z0o id t e)))=some B→∃B',s.heap i=some B':=by
  intro i B hB
  cases hi:(i==id)<;>simp [hi] at hB
  obtain ⟨C,hC,_⟩:=hB
  exact ⟨C,hC⟩
 have hF:∀b∈(g id).foot,¬Mt bd.Z (fun i=>bif i==id then none else (s.heap i).map (Blk.map (Z0o id t e))) g b:=by
  rintro b hb (⟨i,B,hB,hb'⟩ | hz)
  ·obtain ⟨C,hC⟩:=hsub i B hB
   have:=h.inj i id C _ b hC hid hb' hb
   subst this
   simp at hB
  ·exact h.notZ hid hb hz
 have hid':=h.heap id _ hid
 have hf:∀a v,a.ok N s.heap→Z7 w (Mt bd.Z s.heap g) g r a v→Z7 w (Mt bd.Z (fun i=>bif i==id then none else (s.heap i).map (Blk.map (Z0o id t e))) g) g r (Z0o id t e a) v:=by
  intro a v ha hv
  unfold Z0o
  cases hu:a.uses id
  ·exact hv.same (Kept.same hsub)
  ·cases a with
   | ref i =>
    simp only [Atom.uses,beq_iff_eq] at hu
    subst hu
    simp only [cond_true,Z7] at hv ⊢
    rw [hv]
    exact Zb.rep hid' (Kept.same hsub) hF
   | eptr i t' k ix j =>
    simp only [Atom.uses,beq_iff_eq] at hu
    subst hu
    simp only [cond_true]
    split
    ·rename_i ht
     subst ht
     obtain ⟨p,n,c,h1,h2,h3,h4,h5⟩:=hv
     have hr:=Zb.rep hid' (Kept.same hsub) hF
     rw [h1] at hr
     exact ⟨p,n,c,hr,h2,h3,h4,h5⟩
    ·trivial
   | nref i t' k ix j =>
    simp only [Atom.uses,beq_iff_eq] at hu
    subst hu
    simp only [cond_true]
    split
    ·rename_i ht
     subst ht
     split
     ·rename_i a hp
      exact Z3e hid' (Kept.same hsub) hF hp hv
     ·trivial
    ·trivial
   | vw i t' lo hi =>
    simp only [Atom.uses,beq_iff_eq] at hu
    subst hu
    simp only [cond_true]
    split
    ·rename_i ht
     subst ht
     obtain ⟨p,n,c,l,k,z1,z2,z3,z4,z5,z6⟩:=hv
     have hr:=Zb.rep hid' (Kept.same hsub) hF
     rw [z1] at hr
     have hr0:=hr
     obtain ⟨x',c',q1,q2,q3,q4,q5⟩:=hr
     simp only [List.cons.injEq,Value.slice.injEq,and_true] at q1
     obtain ⟨rfl,rfl,rfl⟩:=q1
     have hd:(den (.o2 (.drop t' .i64) (.o2 (.take t' .i64) e hi) lo) r:List t'.D)=((den e r:List t'.D).take k).drop l:=by
      show List.drop (Int.toNat (den lo r)) (List.take (Int.toNat (den hi r)) (den e r:List t'.D))=_
      rw [z4,z5];simp
     show Rep w _ (.sl false t') (den (.o2 (.drop t' .i64) (.o2 (.take t' .i64) e hi) lo) r) [v]
     rw [hd,z6]
     exact Rep.cut hr0 z2 z3 (Nat.le_trans z3 q2) (Yh _)
    ·trivial
   | _=>trivial
 refine h.turnAll (Z0o id t e) (fun k=>k==id) hf (fun a ha=>⟨Z3f (h.nheap id _ hid) a ha.vs,fun i hi=>?_⟩) ?_
 ·obtain ⟨h1,h2⟩:=Z3g hi
  exact ⟨h1,by simpa using h2⟩
 ·intro i l hi hl
  simp only [beq_iff_eq] at hi
  subst hi
  rw [hid] at hl
  cases hl
theorem Z3h {id:Nat} {t:Ty} {e:E (.sl false t)} {a:Atom} {i:Nat} (h:(Z0p id t e a).uses i=true):a.uses i=true∧(i=id→a.nst=false):=by
 unfold Z0p at h
 cases hu:a.nst&&a.uses id
 ·rw [hu] at h
  refine ⟨h,?_⟩
  rintro rfl
  simp only [cond_false] at h
  rw [h] at hu
  simpa using hu
 ·rw [hu] at h
  cases a<;>simp only [cond_true] at h<;>(repeat' split at h)<;>simp [Atom.uses] at h
theorem Z3i {id:Nat} {t:Ty} {e:E (.sl false t)} (he:e.vs N) (a:Atom) (h:a.vs N):(Z0p id t e a).vs N:=by
 unfold Z0p
 cases a.nst&&a.uses id
 ·exact h
 ·cases a with
  | nref i t' k ix j =>
   simp only [cond_true]
   split
   ·split
    ·rename_i hp;exact Z37 hp ⟨he,h⟩
    ·trivial
   ·trivial
  | _=>trivial
theorem R.shallow (h:R bd N s r g tm st w) (id:Nat):∃g',(∀k,(g' k).val=(g k).val∧(g' k).blk=(g k).blk)∧R bd N (s.shallow id) r g' tm st w:=by
 unfold St.shallow
 split
 case h_2=>exact ⟨g,fun _=>⟨rfl,rfl⟩,h⟩
 rename_i t e hid
 obtain ⟨o,xs,Fs,b1,b2,b3,b4⟩:=h.heap id _ hid
 have hnd:=h.nodup id _ hid
 rw [b2] at hnd
 refine ⟨fun k=>if k=id then ⟨(g id).blk,(g id).val,o.toList⟩ else g k,fun k=>by by_cases hk:k=id<;>simp [hk],?_⟩
 have hsub:∀i B,(bif i==id then some (.arr false t e) else (s.heap i).map (Blk.map (Z0p id t e)))=some B→(i=id∧B=.arr false t e)∨(i≠id∧∃B',s.heap i=some B'∧B=B'.map (Z0p id t e)):=by
  intro i B hB
  cases hi:(i==id)<;>simp only [hi,cond_false,cond_true] at hB
  ·obtain ⟨C,hC,rfl⟩:=Ya.1 hB
   exact .inr ⟨by simpa using hi,C,hC,rfl⟩
  ·cases hB;exact .inl ⟨by simpa using hi,rfl⟩
 have hfoot:∀i b,b∈((fun k=>if k=id then (⟨(g id).blk,(g id).val,o.toList⟩:G) else g k) i).foot→b∈(g i).foot:=by
  intro i b hb
  by_cases hi:i=id
  ·subst hi;simp only [if_true] at hb;rw [b2];exact Y3 _ hb
  ·simp only [hi,if_false] at hb;exact hb
 have hlive:∀i B,(bif i==id then some (.arr false t e) else (s.heap i).map (Blk.map (Z0p id t e)))=some B→∃B',s.heap i=some B':=by
  intro i B hB
  rcases hsub i B hB with ⟨rfl,_⟩ | ⟨_,C,hC,_⟩
  ·exact ⟨_,hid⟩
  ·exact ⟨C,hC⟩
 have hk:Kept w (Mt bd.Z s.heap g) w (Mt bd.Z (fun k=>bif k==id then some (.arr false t e) else (s.heap k).map (Blk.map (Z0p id t e))) (fun k=>if k=id then ⟨(g id).blk,(g id).val,o.toList⟩ else g k)):=by
  refine ⟨fun _ _ _=>rfl,?_⟩
  rintro b _ (⟨i,B,hB,hb⟩ | hz)
  ·obtain ⟨C,hC⟩:=hlive i B hB
   exact .inl ⟨i,C,hC,hfoot i b hb⟩
  ·exact .inr hz
 have hF:∀b∈Fs.flatten,¬Mt bd.Z (fun k=>bif k==id then some (.arr false t e) else (s.heap k).map (Blk.map (Z0p id t e))) (fun k=>if k=id then ⟨(g id).blk,(g id).val,o.toList⟩ else g k) b:=by
  rintro b hb (⟨i,B,hB,hb'⟩ | hz)
  ·rcases hsub i B hB with ⟨rfl,_⟩ | ⟨hi,C,hC,_⟩
   ·simp only [if_true] at hb'
    exact (Yp.1 hnd).2.2 b hb' b hb rfl
   ·simp only [hi,if_false] at hb'
    exact hi (h.inj i id C _ b hC hid hb' (by rw [b2];exact Y0 _ hb))
  ·exact h.notZ hid (by rw [b2];exact Y0 _ hb) hz
 have hf:∀a v,a.ok N s.heap→Z7 w (Mt bd.Z s.heap g) g r a v→Z7 w (Mt bd.Z (fun k=>bif k==id then some (.arr false t e) else (s.heap k).map (Blk.map (Z0p id t e))) (fun k=>if k=id then ⟨(g id).blk,(g id).val,o.toList⟩ else g k)) (fun k=>if k=id then ⟨(g id).blk,(g id).val,o.toList⟩ else g k) r (Z0p id t e a) v:=by
  intro a v ha hv
  unfold Z0p
  cases hu:a.nst&&a.uses id
  ·refine Z7.keep hk (fun _ _=>rfl) ha.vs ?_ ?_ hv
   ·intro i hi
    by_cases hii:i=id
    ·subst hii;simp
    ·simp [hii]
   ·intro i hn hi
    have hii:i≠id:=by rintro rfl;rw [hn,hi] at hu;cases hu
    exact ⟨if_neg hii,fun _ _ _ _ _=>rfl⟩
  ·cases a with
   | nref i t' k ix j =>
    simp only [Atom.nst,Atom.uses,Bool.true_and,beq_iff_eq] at hu
    subst hu
    simp only [cond_true]
    split
    ·rename_i ht
     subst ht
     split
     ·rename_i a hp
      exact Z3d b1 b4 hk hF hp hv
     ·trivial
    ·trivial
   | _=>trivial
 have hok:∀a,a.ok N s.heap→(Z0p id t e a).ok N (fun k=>bif k==id then some (.arr false t e) else (s.heap k).map (Blk.map (Z0p id t e))):=by
  intro a ha
  refine Atom.ok_mk (Z3i (h.nheap id _ hid) a ha.vs) fun i hi=>?_
  have:=ha.live (Z3h hi).1
  cases hx:(i==id)<;>simp only [cond_false,cond_true,Option.isSome_map,Option.isSome_some]
  exact this
 refine h.step (Z0p id t e) _ s.base hf hok ?_ ?_ ?_ ?_ ?_ h.world ?_ ?_ ?_ ?_
 ·intro i B hB
  rcases hsub i B hB with ⟨rfl,rfl⟩ | ⟨hi,C,hC,rfl⟩
  ·refine ⟨o,xs,List.replicate (den e r:List t.D).length [],by simpa using b1,?_,by simp,fun j hj=>?_⟩
   ·have:(List.replicate (den e r:List t.D).length ([]:List Nat)).flatten=[]:=by
     generalize (den e r:List t.D).length=n
     induction n with
     | zero=>rfl
     | succ n ih=>simp [List.replicate_succ]
    rw [this];simp
   ·obtain ⟨us,a1,a2,a3⟩:=b4 j hj
    refine ⟨us,a1,a2,?_⟩
    have:=a3.rep hk fun b hb=>hF b (Z0f hb)
    simp only [Row,Yg,if_false]
    exact ⟨by simp [Y8,hj],this⟩
  ·exact Zc.keep (N:=N) hk (fun _ _=>rfl) hf (h.nheap i C hC) (if_neg hi) (fun _ _=>rfl) (h.heap i C hC)
 ·intro i j B C b hB hC hbi hbj
  obtain ⟨B',hB'⟩:=hlive i B hB
  obtain ⟨C',hC'⟩:=hlive j C hC
  exact h.inj i j B' C' b hB' hC' (hfoot i b hbi) (hfoot j b hbj)
 ·intro i B hB
  rcases hsub i B hB with ⟨rfl,rfl⟩ | ⟨hi,C,hC,rfl⟩
  ·simp only [if_true];exact (Yp.1 hnd).1
  ·simp only [hi,if_false];exact h.nodup i C hC
 ·intro i B hB b hb
  obtain ⟨C,hC⟩:=hlive i B hB
  exact h.own i C hC b (hfoot i b hb)
 ·intro i B hB b hb
  obtain ⟨C,hC⟩:=hlive i B hB
  exact h.lt i C hC b (hfoot i b hb)
 ·intro c hc
  have:=h.kept c hc
  by_cases hi:c.1=id
  ·simp only [hi,if_true];rw [hi] at this;exact this
  ·simp only [hi,if_false];exact this
 ·intro k hk
  by_cases hi:k=id
  ·subst hi;simp
  ·simp [hi]
 ·intro c hc
  obtain ⟨_,l,hl⟩:=h.kpl c hc
  have hi:c.1≠id:=by rintro hh;rw [hh,hid] at hl;cases hl
  have:(c.1==id)=false:=by simpa using hi
  exact ⟨l.map (Z0p id t e),by simp only [this,cond_false,hl];rfl⟩
 ·intro i B hB
  rcases hsub i B hB with ⟨rfl,rfl⟩ | ⟨hi,C,hC,rfl⟩
  ·exact h.nheap _ _ hid
  ·have:=h.nheap i C hC
   cases C with
   | box l=>intro a ha;obtain ⟨b,hb,rfl⟩:=Yo.1 ha;exact hok b (this b hb)
   | arr dp t e=>exact this
   | hole t e k i j b=>exact ⟨this.1,this.2.1,hok b this.2.2⟩
   | lent t e k i b=>exact ⟨this.1,this.2.1,hok b this.2.2⟩
theorem R.freezes (h:R bd N s r g tm st w):∀(l:List Nat),R bd N (l.foldl St.freeze s) r g tm st w:=by
 intro l
 induction l generalizing s with
 | nil=>exact h
 | cons a l ih=>exact ih (h.freeze a)
theorem R.solid (h:R bd N s r g tm st w) (x:Operand):R bd N (s.solid x) r g tm st w:=h.freezes _
theorem R.solids (h:R bd N s r g tm st w):∀(l:List Operand),R bd N (s.solids l) r g tm st w:=by
 intro l
 unfold St.solids
 induction l generalizing s with
 | nil=>exact h
 | cons a l ih=>exact ih (h.solid a)
end
section
variable {w:World}
theorem Z3j {bd:Bd} {N:Nat→Prop} {s:St} {r:Env} {g:Nat→G} {tm:Array Value} {st:List (Array Value)} {M':Nat→Prop} (h:R bd N s r g tm st w) (hM:∀b,M' b→Mt bd.Z s.heap g b) {t:Ty} {a:Atom} {v:Value} {e:E (.sl false t)} (he:vwE s.heap t a=some e)
  (hv:Z7 w (Mt bd.Z s.heap g) g r a v) (hrd:∀i∈refsOf [a],∀B,s.heap i=some B→∀x∈(g i).foot,¬M' x) :
  Rep w M' (.sl false t) (den e r) [v]∧∀id u lo hi,a=.vw id u lo hi→∃(p:Option Addr) (n c l k:Nat),(g id).val=.slice p n c∧l≤k∧k≤n∧(den lo r:Int)=l∧(den hi r:Int)=k∧(den e r:List t.D).length=k - l∧v=.slice (if c=l then p else p.map (·.add (l * t.size))) (k - l) (c - l) ∧
   ∃(e0:E (.sl false t)),Rep w M' (.sl false t) (den e0 r) [.slice p n c]:=by
 unfold vwE at he
 split at he
 case h_2=>cases he
 rename_i id u lo hi
 split at he
 case h_2=>cases he
 rename_i dp u' e0 hid
 split at he
 case isFalse=>cases he
 rename_i hh
 obtain ⟨rfl,rfl⟩:=hh
 cases he
 have hk:Kept w (Mt bd.Z s.heap g) w M':=⟨fun _ _ _=>rfl,fun b _ h=>hM b h⟩
 have hr:=Zb.rep (h.heap id _ hid) hk (hrd id (by simp [refsOf]) _ hid)
 obtain ⟨p,n,c,l,k,z1,z2,z3,z4,z5,z6⟩:=hv
 rw [z1] at hr
 have hr0:=hr
 obtain ⟨x',c',q1,q2,q3,q4,q5⟩:=hr
 simp only [List.cons.injEq,Value.slice.injEq,and_true] at q1
 obtain ⟨rfl,rfl,rfl⟩:=q1
 have hd:(den (.o2 (.drop u .i64) (.o2 (.take u .i64) e0 hi) lo) r:List u.D)=((den e0 r:List u.D).take k).drop l:=by
  show List.drop (Int.toNat (den lo r)) (List.take (Int.toNat (den hi r)) (den e0 r:List u.D))=_
  rw [z4,z5];simp
 have hrep:Rep w M' (.sl false u) (den (.o2 (.drop u .i64) (.o2 (.take u .i64) e0 hi) lo) r) [v]:=by
  rw [hd,z6]
  exact Rep.cut hr0 z2 z3 (Nat.le_trans z3 q2) (Yh _)
 refine ⟨hrep,?_⟩
 intro id' u2 lo' hi' ha
 cases ha
 refine ⟨p,_,c,l,k,z1,z2,z3,z4,z5,?_,z6,e0,hr0⟩
 rw [hd,Yq,Yb,Nat.min_eq_left z3]
end
end Go.Sm
namespace Go.Sm
def Good (P:Program) (bd:Bd) (N:Nat→Prop) (r:Env) (st:List (Array Value)) (sem:Sem Next) (tm:Array Value) (w:World) (sv:SV) (s':St):Prop :=
 ∃v w' g',(sem.run P w=.ok (.value v) w'∨(sem.run P w=.ok .skip w'∧v=undef))∧R bd N s' r g' tm st w'∧Z9 w' (Mt bd.Z s'.heap g') g' r sv v∧sv.all (Atom.ok N s'.heap)
def Ext (w w2:World):Prop:=∀b,b<w.heap.size→w2.heap[b]?=w.heap[b]?
def Zt (P:Program) (bd:Bd) (N:Nat→Prop) (r:Env) (st:List (Array Value)) (ld:Bool) (sem:Sem Next) (tm:Array Value) (w:World) (sv:SV) (s':St):Prop :=
 ∃v g',(∀w2,(ld=true→Ext w w2)→sem.run P w2=.ok (.value v) w2)∧R bd N s' r g' tm st w∧Z9 w (Mt bd.Z s'.heap g') g' r sv v∧sv.all (Atom.ok N s'.heap)
section
variable {P:Program} {bd:Bd} {N:Nat→Prop} {s:St} {r:Env} {g:Nat→G} {st:List (Array Value)} {w:World} {a:Act}
theorem Zt.good {ld:Bool} {sem:Sem Next} {tm:Array Value} {sv:SV} {s':St} (h:Zt P bd N r st ld sem tm w sv s'):Good P bd N r st sem tm w sv s':=by
 obtain ⟨v,g',h1,h2,h3,h4⟩:=h
 exact ⟨v,w,g',.inl (h1 w fun _ _ _=>rfl),h2,h3,h4⟩
theorem Zt.look {ld:Bool} (h:R bd N s r g a.tmps st w) {sem:Sem Next} {v:Value} (hr:∀w2,(ld=true→Ext w w2)→sem.run P w2=.ok (.value v) w2) {sv:SV} (hv:Z9 w (Mt bd.Z s.heap g) g r sv v) (hn:sv.all (Atom.ok N s.heap)) :
  Zt P bd N r st ld sem a.tmps w sv s:=⟨v,g,hr,h,hv,hn⟩
theorem Good.look (h:R bd N s r g a.tmps st w) {sem:Sem Next} {v:Value} (hr:sem.run P w=.ok (.value v) w) {sv:SV} (hv:Z9 w (Mt bd.Z s.heap g) g r sv v) (hn:sv.all (Atom.ok N s.heap)) :
  Good P bd N r st sem a.tmps w sv s:=⟨v,w,g,.inl hr,h,hv,hn⟩
theorem Z3k {M:Nat→Prop} (v:Value):Z7 w M g r (Z0l v) v:=by
 unfold Z0l
 split<;>simp [Z7,Rep,den]
theorem Z3l {h:Nat→Option Blk} (v:Value):(Z0l v).ok N h:=by
 unfold Z0l
 split<;>simp [Atom.ok,E.vs]
theorem Z3m (h:R bd N s r g a.tmps st w) (x:Operand):Z9 w (Mt bd.Z s.heap g) g r (s.get x) (a.eval x)∧(s.get x).all (Atom.ok N s.heap):=by
 cases x with
 | tmp t =>
  simp only [St.get,Act.eval,Y8]
  cases ht:s.cur[t]? with
  | none=>exact ⟨trivial,trivial⟩
  | some sv =>
   obtain ⟨v,hv,hs⟩:=h.cur.get ht
   refine ⟨?_,h.ncur sv (YD ht)⟩
   have:a.tmps.getD t undef=v:=by
    rw [Array.getD_eq_getD_getElem?,←Array.getElem?_toList,hv];rfl
   rw [this]
   exact hs
 | const v=>exact ⟨Z3k v,Z3l v⟩
 | global g'=>exact ⟨trivial,trivial⟩
 | func f=>exact ⟨by simp [St.get,Act.eval,Z9,Z7],by simp [St.get,SV.all,Atom.ok]⟩
theorem Zu (h:R bd N s r g a.tmps st w) {x:Operand} {b:Atom} (hx:s.get x=.a b):Z7 w (Mt bd.Z s.heap g) g r b (a.eval x)∧b.ok N s.heap:=by
 have:=Z3m h x
 rw [hx] at this
 exact this
theorem Z3n (h:R bd N s r g a.tmps st w) {x:Operand} {l:List Atom} (hx:s.get x=.agg l):(∃cs,a.eval x=.agg cs∧Z8 w (Mt bd.Z s.heap g) g r l cs.toList)∧∀b∈l,b.ok N s.heap:=by
 have:=Z3m h x
 rw [hx] at this
 exact this
theorem Z3o (h:R bd N s r g a.tmps st w) (x:Operand):Z7 w (Mt bd.Z s.heap g) g r (s.get x).atom (a.eval x)∧(s.get x).atom.ok N s.heap:=by
 cases hx:s.get x with
 | a b=>exact Zu h hx
 | agg l=>exact ⟨trivial,trivial⟩
 | tup l=>exact ⟨trivial,trivial⟩
theorem Z3p {k:IntKind} {e:E (.int k)} {M:Nat→Prop} {v:Value} (h:Z7 w M g r (.x (.int k) e) v):v=.int k (den e r):=by
 simp only [Z7,Rep] at h;simpa using h
theorem Z3q {e:E .bool} {M:Nat→Prop} {v:Value} (h:Z7 w M g r (.x .bool e) v):v=.bool (den e r):=by
 simp only [Z7,Rep] at h;simpa using h
theorem Z3r {e:E .str} {M:Nat→Prop} {v:Value} (h:Z7 w M g r (.x .str e) v):v=.string (den e r):=by
 simp only [Z7,Rep] at h;simpa using h
theorem Z3s {k:IntKind} {e:E (.int k)} {M:Nat→Prop} {n:Int} (h:n=den e r):Z7 w M g r (.x (.int k) e) (.int k n):=by
 simp only [Z7,Rep];rw [h]
theorem Z3t {e:E .bool} {M:Nat→Prop} {b:Bool} (h:b=den e r):Z7 w M g r (.x .bool e) (.bool b):=by
 simp only [Z7,Rep];rw [h]
theorem Z3u {k:IntKind} (e:E (.int k)) (M:Nat→Prop):Z9 w M g r (ax (.int k) e) (.int k (den e r)):=by
 simp only [Z9,ax,Z7,Rep]
theorem Z3v (e:E .bool) (M:Nat→Prop):Z9 w M g r (ax .bool e) (.bool (den e r)):=by
 simp only [Z9,ax,Z7,Rep]
theorem run_pure {α:Type} (x:α):(pure x:Sem α).run P w=.ok x w:=rfl
theorem run_bind_ok {α β:Type} {x:Sem α} {f:α→Sem β} {v:α} {w':World} (h:x.run P w=.ok v w'):(x >>= f).run P w=(f v).run P w':=by
 have:∀(x:Sem α) (w:World),(x.bind f).run P w=match x.run P w with | .ok a w'=>(f a).run P w' | .halt h w'=>.halt h w':=by
  intro x
  induction x with
  | pure a=>intro w;rfl
  | load m a k ih=>intro w;simp only [Sem.bind,Sem.run];split<;>(try split)<;>simp_all
  | store m a v k ih=>intro w;cases v<;>simp only [Sem.bind,Sem.run]<;>(try (split<;>(try split)<;>simp_all))
  | new o k ih=>intro w;simp only [Sem.bind,Sem.run,ih]
  | shape r k ih=>intro w;simp only [Sem.bind,Sem.run,ih]
  | freeze a n k ih=>intro w;simp only [Sem.bind,Sem.run,ih]
  | frozen a k ih=>intro w;simp only [Sem.bind,Sem.run,ih]
  | getObj r k ih=>intro w;simp only [Sem.bind,Sem.run];split<;>simp_all
  | setObj r o k ih=>intro w;simp only [Sem.bind,Sem.run];split<;>simp_all
  | choose q k ih=>intro w;simp only [Sem.bind,Sem.run];split<;>simp_all
  | sys c k ih=>intro w;simp only [Sem.bind,Sem.run,ih]
  | program k ih=>intro w;simp only [Sem.bind,Sem.run,ih]
  | mark m k ih=>intro w;simp only [Sem.bind,Sem.run,ih]
  | halt h=>intro w;rfl
 show (x.bind f).run P w=_
 rw [this,h]
theorem Zv {x:Sem Value} {v:Value} {w':World} (h:x.run P w=.ok v w'):((do pure (.value (←x))):Sem Next).run P w=.ok (.value v) w':=by
 rw [run_bind_ok h];rfl
theorem Z3w {x:Sem Unit} {w':World} (h:x.run P w=.ok () w'):((do x;pure .skip):Sem Next).run P w=.ok .skip w':=by
 rw [run_bind_ok h];rfl
theorem Z3x (h:R bd N s r g a.tmps st w) (x:Operand) (o:Oper) (ho:o.op=.move x∨o.op=.assign x):Zt P bd N r st false (execOp a.eval o) a.tmps w (s.get x) s:=by
 obtain ⟨hv,hn⟩:=Z3m h x
 refine Zt.look h ?_ hv hn
 rcases ho with ho | ho<;>simp only [execOp,ho]<;>exact fun _ _=>rfl
theorem Z3y {a b a' b':Ty} (o:O1 a b) (p:O1 a' b') (h:Z06 o p=true) (x:a.D) (y:a'.D) (hxy:(⟨a,x⟩:AV)=⟨a',y⟩):(⟨b,o.d x⟩:AV)=⟨b',p.d y⟩:=by
 cases o<;>cases p<;>simp only [Z06,Y5,Ye,Yg] at h <;>
  first
  | (subst h;cases hxy;rfl)
  | (obtain ⟨rfl,rfl⟩:=h;cases hxy;rfl)
  | (obtain ⟨⟨rfl,rfl⟩,rfl⟩:=h;cases hxy;rfl)
  | (cases hxy;rfl)
theorem Z3z {a b c a' b' c':Ty} (o:O2 a b c) (p:O2 a' b' c') (h:Z07 o p=true) (x:a.D) (y:a'.D) (hxy:(⟨a,x⟩:AV)=⟨a',y⟩) (u:b.D) (v:b'.D) (huv:(⟨b,u⟩:AV)=⟨b',v⟩) :
  (⟨c,o.d x u⟩:AV)=⟨c',p.d y v⟩:=by
 cases o<;>cases p<;>simp only [Z07,Y5,Ye,Yg] at h <;>
  first
  | (subst h;cases hxy;cases huv;rfl)
  | (obtain ⟨rfl,rfl⟩:=h;cases hxy;cases huv;rfl)
  | (obtain ⟨⟨rfl,rfl⟩,rfl⟩:=h;cases hxy;cases huv;rfl)
  | (cases hxy;cases huv;rfl)
theorem Z3A (r:Env):∀{t t':Ty} (x:E t) (y:E t'),eqE x y=true→(⟨t,den x r⟩:AV)=⟨t',den y r⟩:=by
 intro t t' x
 induction x generalizing t' with
 | var t i=>intro y h;cases y<;>simp only [eqE,Y5,Ye,Yg] at h;obtain ⟨rfl,rfl⟩:=h;rfl
 | int k n=>intro y h;cases y<;>simp only [eqE,Y5,Ye,Yg] at h;obtain ⟨rfl,rfl⟩:=h;rfl
 | bool b=>intro y h;cases y<;>simp only [eqE,beq_iff_eq,Yg] at h;subst h;rfl
 | o1 o x ih =>
  intro y h
  cases y<;>simp only [eqE,Y5,Yg] at h
  exact Z3y o _ h.1 _ _ (ih _ h.2)
 | o2 o x y ihx ihy =>
  intro z h
  cases z<;>simp only [eqE,Y5,Yg] at h
  exact Z3z o _ h.1.1 _ _ (ihx _ h.1.2) _ _ (ihy _ h.2)
 | _=>intro y h;cases y<;>simp [eqE] at h
theorem Z3B {x y:E .bool} (h:eqE x y=true) (r:Env):den x r=den y r:=by
 have:=Z3A r x y h
 simpa using this
theorem Z3C {k:IntKind} {e:E (.int k)} {n:Int} (h:Z08 e=some n) (r:Env):den e r=n:=by
 cases e<;>simp [Z08] at h
 subst h;rfl
theorem Z3D {e:E .bool} {b:Bool} (h:litB.litB1 e=some b) (r:Env):den e r=b:=by
 cases e<;>simp [litB.litB1] at h
 subst h;rfl
theorem Z3E {c:E .bool} {b:Bool} (h:litB c=some b) (r:Env):den c r=b:=by
 unfold litB at h
 split at h
 ·cases h;rfl
 ·split at h
  ·rename_i hb
   cases h
   simp only [den,O1.d,Z3D hb r]
  ·cases h
 ·split at h
  ·rename_i ha hb
   cases h
   simp only [den,O2.d]
   rw [Z3C ha,Z3C hb]
  ·split at h
   ·rename_i he
    have h2:=Z3A r _ _ he
    simp only [den,O2.d]
    have h3:∀{k k':IntKind} (x:Int) (y:Int),((⟨.int k,x⟩:AV)=⟨.int k',y⟩)→x=y:=by
     intro k k' x y hxy;cases hxy;rfl
    have h4:=h3 _ _ h2
    split at h<;>cases h<;>simp only [cmI]<;>rw [h4]<;>simp
   ·cases h
 ·cases h
theorem Z3F (h:R bd N s r g a.tmps st w) {c x y:Operand} {sv:SV} {s':St} {gs:List (E .bool)} (hs:Z1k s c x y=some (gs,sv,s')) (o:Oper) (ho:o.op=.pick c x y) :
  Zt P bd N r st false (execOp a.eval o) a.tmps w sv s':=by
 unfold Z1k at hs
 split at hs
 ·rename_i ce hc
  obtain ⟨hcv,hcn⟩:=Zu h hc
  have hcv:=Z3q hcv
  have run:∀v,(if den ce r=true then a.eval x else a.eval y)=v→∀w2,(execOp a.eval o).run P w2=.ok (.value v) w2:=by
   intro v hv w2
   simp only [execOp,ho,hcv]
   rw [run_bind_ok (v:=den ce r) (w':=w2) rfl,hv]
   rfl
  split at hs
  ·rename_i hl
   simp only [one,Y4,Y9] at hs
   obtain ⟨-,rfl,rfl⟩:=hs
   obtain ⟨hv,hn⟩:=Z3m h x
   exact Zt.look h (fun w2 _=>run _ (by rw [Z3E hl r];rfl) w2) hv hn
  ·rename_i hl
   simp only [one,Y4,Y9] at hs
   obtain ⟨-,rfl,rfl⟩:=hs
   obtain ⟨hv,hn⟩:=Z3m h y
   exact Zt.look h (fun w2 _=>run _ (by rw [Z3E hl r];rfl) w2) hv hn
  ·split at hs
   ·rename_i t ex t' ey hx hy
    split at hs
    ·rename_i ht
     subst ht
     simp only [one,Y4,Y9] at hs
     obtain ⟨-,rfl,rfl⟩:=hs
     obtain ⟨hv1,hn1⟩:=Zu h hx
     obtain ⟨hv2,hn2⟩:=Zu h hy
     refine Zt.look h (fun w2 _=>run _ rfl w2) ?_ ⟨hcn,hn1,hn2⟩
     simp only [Z9,ax,Z7,den,O3.d] at hv1 hv2 ⊢
     split
     ·exact hv1
     ·exact hv2
    ·cases hs
   ·cases hs
 ·cases hs
end
end Go.Sm
namespace Go.Sm
section
variable {P:Program} {bd:Bd} {N:Nat→Prop} {s:St} {r:Env} {g:Nat→G} {st:List (Array Value)} {w:World} {a:Act}
theorem Zw {k k':IntKind} {x:E (.int k)} {y:E (.int k')}:den (gLe x y) r=true↔(den x r:Int)≤den y r:=by
 simp [gLe,den,O2.d,cmI]
theorem Z3G {k k':IntKind} {x:E (.int k)} {y:E (.int k')}:den (gLt x y) r=true↔(den x r:Int)<den y r:=by
 simp [gLt,den,O2.d,cmI]
theorem Z3H {k:IntKind} {n:Int}:(den (eI k n) r:Int)=n:=rfl
theorem Z3I (o:BinOp) (t:TypeId) (x y:Operand) (u v:Value) (h:∀l m,u=.agg l→v=.agg m→False) (h2:u=.nilIface→v=.nilIface→False):(eqGuard o t x y u v).run P w=.ok () w:=by
 unfold eqGuard
 cases o<;>first | rfl | (cases u<;>first | rfl | (cases v<;>first | rfl | exact (h2 rfl rfl).elim | exact (h _ _ rfl rfl).elim))
theorem Z3J (o:Oper) {b:BinOp} {t ty:TypeId} {x y:Operand} (ho:o.op=.binOp b t x y ty) {u v z:Value} (hu:a.eval x=u) (hv:a.eval y=v)
  (h:∀l m,u=.agg l→v=.agg m→False) (h2:u=.nilIface→v=.nilIface→False) (hr:(binOp b t u v).run P w=.ok z w):(execOp a.eval o).run P w=.ok (.value z) w:=by
 simp only [execOp,ho,hu,hv]
 refine Zv ?_
 rw [run_bind_ok (Z3I b t x y u v h h2)]
 exact hr
theorem Z3K {t:TypeId} {d:TypeDesc} (h:P.underlying t=some d):(underlying t).run P w=.ok d w:=by
 unfold underlying
 rw [run_bind_ok (v:=P) (w':=w) rfl,h];rfl
theorem Z3L {t:TypeId} {i:TypeInfo} (h:P.info? t=some i):(typeInfo t).run P w=.ok i w:=by
 unfold typeInfo
 rw [run_bind_ok (v:=P) (w':=w) rfl,h];rfl
theorem Z3M {t:TypeId} {i:TypeInfo} (h:P.info? t=some i):(sizeOf t).run P w=.ok i.size w:=by
 unfold sizeOf
 rw [run_bind_ok (Z3L h)];rfl
theorem run_equal_bool {t:TypeId} (ht:P.underlying t=some .bool) (x y:Bool):(Op.equal t (.bool x) (.bool y)).run P w=.ok (x==y) w:=by
 show (Op.equalIn (9999+1) t (.bool x) (.bool y)).run P w=_
 rw [Op.equalIn,run_bind_ok (Z3K ht)]
 rfl
theorem Z3N {t e:TypeId} (ht:P.underlying t=some (.slice e)) (x:Option Addr) (n c:Nat):(Op.equal t (.slice x n c) (.slice none 0 0)).run P w=.ok (decide (x=none)) w:=by
 show (Op.equalIn (9999+1) t (.slice x n c) (.slice none 0 0)).run P w=_
 rw [Op.equalIn,run_bind_ok (Z3K ht)]
 cases x<;>rfl
theorem Z3O {t:TypeId} {x y:Value} {b:Bool} (h:(Op.equal t x y).run P w=.ok b w) (hb:binOp .eql t x y=do pure (.bool (←Op.equal t x y))):(binOp .eql t x y).run P w=.ok (.bool b) w:=by
 rw [hb,run_bind_ok h];rfl
theorem Z3P {t:TypeId} {x y:Value} {b:Bool} (h:(Op.equal t x y).run P w=.ok b w) (hb:binOp .neq t x y=do pure (.bool (!(←Op.equal t x y)))):(binOp .neq t x y).run P w=.ok (.bool (!b)) w:=by
 rw [hb,run_bind_ok h];rfl
theorem Z3Q {M:Nat→Prop} {t:Ty} {d:List t.D} {v:Value} (h:Rep w M (.sl true t) d [v]):∃a n c,v=.slice a n c∧(a=none↔d=[]):=by
 obtain ⟨x,cp,h1,_,h3,_⟩:=h
 simp only [List.cons.injEq,and_true] at h1
 exact ⟨x,_,cp,h1,h3 rfl⟩
theorem Z3R {M:Nat→Prop} {c:Bool} {t:Ty} {d:List t.D} {v:Value} (h:Rep w M (.sl c t) d [v]) (hd:d.isEmpty=false):∃a n c,v=.slice a n c∧¬a=none:=by
 obtain ⟨x,cp,h1,h2,_,h4,_⟩:=h
 simp only [List.cons.injEq,and_true] at h1
 refine ⟨x,_,cp,h1,fun h=>?_⟩
 have h5:=h4 h
 subst h5
 cases d with
 | nil=>cases hd
 | cons a l=>exact absurd h2 (by simp only [Ty.D,YA];omega)
set_option maxHeartbeats 1000000 in
theorem Z3S (h:R bd N s r g a.tmps st w) {b:BinOp} {t ty:TypeId} {x y:Operand} (o:Oper) (ho:o.op=.binOp b t x y ty) {p q:Atom} (hx:s.get x=.a p) (hy:s.get y=.a q)
  {gs:List (E .bool)} {sv:SV} (hs:Z0H b p q=some (gs,sv)) (hg:∀c∈gs,den c r=true) (hsl:∀cc u e,p=.x (.sl cc u) e→(∃e',P.underlying t=some (.slice e'))) (hbb:(∃e,p=.x .bool e)→P.underlying t=some .bool) :
  Zt P bd N r st false (execOp a.eval o) a.tmps w sv s:=by
 obtain ⟨hpv,hpn⟩:=Zu h hx
 obtain ⟨hqv,hqn⟩:=Zu h hy
 unfold Z0H at hs
 split at hs
 ·-- whole numbers
  rename_i k ea k' eb
  have hu:=Z3p hpv
  have hv:=Z3p hqv
  have finI:∀(kk:IntKind) (ee:E (.int kk)),sv=ax (.int kk) ee→(∀w,(binOp b t (.int k (den ea r)) (.int k' (den eb r))).run P w=.ok (.int kk (den ee r)) w)→ee.vs N→Zt P bd N r st false (execOp a.eval o) a.tmps w sv s:=by
   intro kk ee hsv hz hn
   subst hsv
   exact Zt.look h (fun _ _=>Z3J o ho hu hv (by simp) (by simp) (hz _)) (Z3u _ _) hn
  have finB:∀(ee:E .bool),sv=ax .bool ee→(∀w,(binOp b t (.int k (den ea r)) (.int k' (den eb r))).run P w=.ok (.bool (den ee r)) w)→ee.vs N→Zt P bd N r st false (execOp a.eval o) a.tmps w sv s:=by
   intro ee hsv hz hn
   subst hsv
   exact Zt.look h (fun _ _=>Z3J o ho hu hv (by simp) (by simp) (hz _)) (Z3v _ _) hn
  split at hs
  ·simp only [Y4,Y9] at hs
   obtain ⟨rfl,rfl⟩:=hs
   have hg0:(0:Int)≤den eb r:=Zw.1 (hg _ (Y1.2 rfl))
   refine finI _ _ rfl ?_ ⟨hpn,hqn⟩
   intro w2
   simp only [binOp,Op.shift]
   rw [if_neg (by omega)]
   simp [shI,run_pure,den,O2.d]
  ·simp only [Y4,Y9] at hs
   obtain ⟨rfl,rfl⟩:=hs
   have hg0:(0:Int)≤den eb r:=Zw.1 (hg _ (Y1.2 rfl))
   refine finI _ _ rfl ?_ ⟨hpn,hqn⟩
   intro w2
   simp only [binOp,Op.shift]
   rw [if_neg (by omega)]
   simp [shI,run_pure,den,O2.d]
  ·rename_i hshl hshr
   split at hs
   case isFalse=>cases hs
   rename_i hk
   subst hk
   cases b<;>simp only [Y4,Y9,reduceCtorEq] at hs <;>
    first
    | exact absurd rfl hshl
    | exact absurd rfl hshr
    | (obtain ⟨rfl, rfl⟩ := hs
       first
       | (refine finI _ _ rfl ?_ ⟨hpn, hqn⟩
          intro w2
          simp only [binOp,ne_eq,not_true_eq_false,if_false,Op.intArith,Op.intBits,arI,den,O2.d];rfl)
       | (refine finB _ rfl ?_ ⟨hpn, hqn⟩
          intro w2
          simp only [binOp,ne_eq,not_true_eq_false,if_false,Op.intCmp,cmI,den,O2.d];rfl)
       | (have h0 : (den eb r : Int) ≠ 0 := by
            cases hn:Z08 eb with
            | some n =>
             simp only [hn] at hg
             split at hg
             ·exact absurd (hg _ (Y1.2 rfl)) (by simp [den])
             ·rename_i hn0;rw [Z3C hn r];exact hn0
            | none =>
             simp only [hn] at hg
             have:=hg _ (Y1.2 rfl)
             simpa [den,O2.d,cmI,eI] using this
          refine finI _ _ rfl ?_ ⟨hpn,hqn⟩
          intro w2
          simp only [binOp,ne_eq,not_true_eq_false,if_false,Op.intDiv,arI,den,O2.d];rw [if_neg h0];rfl))
 ·rename_i ea eb
  have hu:=Z3q hpv
  have hv:=Z3q hqv
  split at hs<;>simp only [Y4,Y9,reduceCtorEq] at hs
  ·obtain ⟨rfl,rfl⟩:=hs
   exact Zt.look h (fun _ _=>Z3J o ho hu hv (by simp) (by simp) (Z3O (run_equal_bool (hbb ⟨ea,rfl⟩) _ _) rfl)) (Z3v (.o2 .beq ea eb) _) ⟨hpn,hqn⟩
  ·obtain ⟨rfl,rfl⟩:=hs
   exact Zt.look h (fun _ _=>Z3J o ho hu hv (by simp) (by simp) (Z3P (run_equal_bool (hbb ⟨ea,rfl⟩) _ _) rfl)) (Z3v (.o2 .bne ea eb) _) ⟨hpn,hqn⟩
 ·rename_i ea eb
  have hu:=Z3r hpv
  have hv:=Z3r hqv
  split at hs<;>simp only [Y4,Y9,reduceCtorEq] at hs
  ·obtain ⟨rfl,rfl⟩:=hs
   exact Zt.look h (fun _ _=>Z3J o ho hu hv (by simp) (by simp) (z:=.bool (den (.o2 .seq ea eb) r)) rfl) (Z3v (.o2 .seq ea eb) _) ⟨hpn,hqn⟩
  ·obtain ⟨rfl,rfl⟩:=hs
   exact Zt.look h (fun _ _=>Z3J o ho hu hv (by simp) (by simp) (z:=.bool (den (.o2 .sne ea eb) r)) rfl) (Z3v (.o2 .sne ea eb) _) ⟨hpn,hqn⟩
 ·rename_i u e
  split at hs<;>simp only [Y4,Y9,reduceCtorEq] at hs
  ·obtain ⟨rfl,rfl⟩:=hs
   obtain ⟨e',ht⟩:=hsl _ u e rfl
   obtain ⟨x',n,c,hxv,hnil⟩:=Z3Q hpv
   have hq:a.eval y=.slice none 0 0:=hqv
   have hd:decide (x'=none)=(den (.o1 (.emp true u) e) r:Bool):=by
    simp only [den,O1.d,Ty.D]
    cases hl:den e r with
    | nil=>simpa using hnil.2 hl
    | cons z l=>simp only [List.isEmpty_cons,YH];intro hx';have:=hnil.1 hx';rw [hl] at this;cases this
   exact Zt.look h (fun _ _=>Z3J o ho hxv hq (by simp) (by simp) (Z3O (Z3N ht x' n c) rfl)) (by rw [hd];exact Z3v _ _) hpn
  ·obtain ⟨rfl,rfl⟩:=hs
   obtain ⟨e',ht⟩:=hsl _ u e rfl
   obtain ⟨x',n,c,hxv,hnil⟩:=Z3Q hpv
   have hq:a.eval y=.slice none 0 0:=hqv
   have hd:(!decide (x'=none))=(den (.o1 .not (.o1 (.emp true u) e)) r:Bool):=by
    simp only [den,O1.d,Ty.D]
    cases hl:den e r with
    | nil=>simpa using hnil.2 hl
    | cons z l=>simp only [List.isEmpty_cons,Bool.not_false,Yr,YH];intro hx';have:=hnil.1 hx';rw [hl] at this;cases this
   exact Zt.look h (fun _ _=>Z3J o ho hxv hq (by simp) (by simp) (Z3P (Z3N ht x' n c) rfl)) (by rw [hd];exact Z3v _ _) hpn
 ·rename_i u e
  split at hs<;>simp only [Y4,Y9,reduceCtorEq] at hs
  ·obtain ⟨rfl,rfl⟩:=hs
   obtain ⟨e',ht⟩:=hsl _ u e rfl
   have hne:=hg _ (Y1.2 rfl)
   simp only [den,O1.d,Yr] at hne
   obtain ⟨x',n,c,hxv,hnil⟩:=Z3R hpv hne
   have hq:a.eval y=.slice none 0 0:=hqv
   have hd:decide (x'=none)=(den (.bool false) r:Bool):=decide_eq_false hnil
   exact Zt.look h (fun _ _=>Z3J o ho hxv hq (by simp) (by simp) (Z3O (Z3N ht x' n c) rfl)) (by rw [hd];exact Z3v _ _) trivial
  ·obtain ⟨rfl,rfl⟩:=hs
   obtain ⟨e',ht⟩:=hsl _ u e rfl
   have hne:=hg _ (Y1.2 rfl)
   simp only [den,O1.d,Yr] at hne
   obtain ⟨x',n,c,hxv,hnil⟩:=Z3R hpv hne
   have hq:a.eval y=.slice none 0 0:=hqv
   have hd:(!decide (x'=none))=(den (.bool true) r:Bool):=by rw [decide_eq_false hnil];rfl
   exact Zt.look h (fun _ _=>Z3J o ho hxv hq (by simp) (by simp) (Z3P (Z3N ht x' n c) rfl)) (by rw [hd];exact Z3v _ _) trivial
 ·cases hs
end
end Go.Sm
