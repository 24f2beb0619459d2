/- A part of the proofs of this seat's laws. -/
import Derived.Below
import Derived.OrdersHeld
import Derived.KernelRfl
import Derived.Laws.AppendOwnNone
import Derived.Laws.CopyOwn
import Derived.WalkKit
import Derived.Laws.Externs
set_option linter.unusedVariables false
set_option linter.unusedSimpArgs false
set_option linter.unnecessarySimpa false
namespace Go.Proofs.YtpbimnlggalnfaaGreatDoor.Zg
open Go.RowKit
theorem om {p:Prop} (h:p:=by omega):p:=h
theorem dcd {p:Prop} (h:p:=by decide):p:=h
theorem smp {p:Prop} (h:p:=by simp):p:=h
theorem krf {p:Prop} (h:p:=by kernel_rfl):p:=h
structure Sl where
 p:Option Addr
 n:Nat
 c:Nat
abbrev Sl.v(s:Sl):Value:=.slice s.p s.n s.c
abbrev Sl.nil:Sl:=⟨none,0,0⟩
def Sl.blk(s:Sl):Option Nat:=s.p.map (·.block)
def Sl.cut(s:Sl)(lo hi sz:Nat):Sl:=⟨if s.c=lo then s.p else s.p.map (·.add (lo*sz)),hi-lo,s.c-lo⟩
inductive CK where
 | int (k:IntKind)|bool|str|slice|ptr|fn
abbrev CV:CK→Type
 | .int _=>Int|.bool=>Bool|.str=>ByteArray|.slice=>Sl|.ptr=>Option Addr|.fn=>Value
def CV.enc:(c:CK)→CV c→Value
 | .int k,n=>.int k n|.bool,b=>.bool b|.str,s=>.string s|.slice,s=>.slice s.p s.n s.c|.ptr,a=>.pointer a|.fn,v=>v
def CV.dec:(c:CK)→Value→Option (CV c)
 | .int k,.int k' n=>if k=k' then some n else none
 | .bool,.bool b=>some b
 | .str,.string s=>some s
 | .slice,.slice p n c=>some ⟨p,n,c⟩
 | .ptr,.pointer a=>some a
 | .fn,v=>some v
 | _,_=>none
abbrev HL:List CK→Type
 | []=>Unit
 | c::cs=>CV c × HL cs
def aM:(cs:List CK)→HL cs→List Value
 | [],_=>[]
 | c::cs,x=>CV.enc c x.1::aM cs x.2
def rB:(cs:List CK)→List Value→Option (HL cs)
 | [],[]=>some ()
 | c::cs,v::vs=>match CV.dec c v,rB cs vs with
  | some x,some y=>some (x,y)
  | _,_=>none
 | _,_=>none
abbrev Tel:List CK→Type→Type
 | [],R=>R
 | c::cs,R=>CV c→Tel cs R
abbrev app{R:Type}:(cs:List CK)→Tel cs R→HL cs→R
 | [],f,_=>f
 | _::cs,f,x=>app cs (f x.1) x.2
abbrev lam{R:Type}:(cs:List CK)→(HL cs→R)→Tel cs R
 | [],f=>f ()
 | _::cs,f=>λx=>lam cs λy=>f (x,y)
abbrev qk:(cs:List CK)→Tel cs Prop→Prop
 | [],p=>p
 | c::cs,p=>∀x:CV c,qk cs (p x)
inductive VT where
 | one (c:CK)|agg (cs:List CK)
abbrev fl:List VT→List CK
 | []=>[]
 | .one c::ts=>c::fl ts
 | .agg cs::ts=>cs++fl ts
def oc:List VT→List Value→List Value
 | [],_=>[]
 | .one _::ts,v::vs=>v::oc ts vs
 | .one _::_,[]=>[]
 | .agg cs::ts,vs=>.agg (vs.take cs.length).toArray::oc ts (vs.drop cs.length)
def jB:List VT→List Value→Option (List Value)
 | [],[]=>some []
 | .one _::ts,v::vs=>match jB ts vs with
  | some l=>some (v::l)
  | none=>none
 | .agg cs::ts,.agg a::vs=>match Nat.beq a.toList.length cs.length,jB ts vs with
  | true,some l=>some (a.toList++l)
  | _,_=>none
 | _,_=>none
def ret(vs:List Value):Value:=match vs with
 | [v]=>v
 | vs=>.tuple vs.toArray
def qW(rt:List VT)(x:HL (fl rt)):Value:=ret (oc rt (aM (fl rt) x))
structure TW where
 w:World
 V:Nat→Prop
 B:Nat
 lt:∀b,V b→b<w.heap.size
structure Ext (X:Nat→Prop) (T T':TW):Prop where
 os:T'.w.os=T.w.os
 tape:T'.w.tape=T.w.tape
 output:T'.w.output=T.w.output
 size:T.w.heap.size≤T'.w.heap.size
 floor:T'.B=T.B
 sub:∀b,T.V b→T'.V b
 new:∀b,T'.V b→T.V b∨T.w.heap.size≤b
 block:∀k,k<T.w.heap.size→¬X k→(k<T.B∨¬T.V k)→T'.w.heap[k]?=T.w.heap[k]?
 shape:∀k,k<T.w.heap.size→T'.w.shape? k=T.w.shape? k
def aa:Nat→Prop:=λ_=>False
def TW.here(T:TW):TW:={ T with B:=T.w.heap.size }
def TW.drew(T:TW):TW:={ T with w:={ T.w with drawn:=T.w.drawn+1 } }
def TW.at(T':TW)(B:Nat):TW:={ T' with B:=B }
structure New (T:TW) (b:Nat) (cs:List Value) (e:TypeId) (T':TW):Prop where
 at_:b=T.w.heap.size
 is:T'.w=T.w.alloc (.cells cs.toArray e)
 V:T'.V=T.V
 B:T'.B=T.B
def Rdv(T:TW)(sz:Nat)(s:Sl)(vs:List Value):Prop:=
 vs.length=s.n*sz∧s.n≤s.c∧s.c≤maxLen∧(vs≠[]→∃b o,s.p=some ⟨b,o,none⟩∧¬T.V b∧∀j v,vs[j]?=some v→T.w.cell? ⟨b,o+j,none⟩=some v)
def Own(T:TW)(B:Nat)(e:TypeId)(sz:Nat)(s:Sl)(vs:List Value):Prop:=T.w.ownsRow B e sz s.v s.n vs∧∀b,s.blk=some b→¬T.V b
def bnd{α:Type}(x:α)(K:α→Prop):Prop:=K x
abbrev wi(x:Int):Int:=IntKind.i64.wrap x
abbrev wu(x:Int):Int:=IntKind.u64.wrap x
def bg(op:BinOp)(k:IntKind)(x y:Int):Int:=
 let a:=BitVec.ofInt k.bits x;let b:=BitVec.ofInt k.bits y;match op with
 | .and=>k.wrap (a &&& b).toNat
 | .or=>k.wrap (a ||| b).toNat
 | .xor=>k.wrap (a ^^^ b).toNat
 | .andNot=>k.wrap (a &&& ~~~b).toNat
 | _=>0
def jv(k:IntKind)(a b:Int)(K:Int→Prop):Prop:=0≤b∧K (k.wrap (a*2^min b.toNat k.bits))
def gJ(k:IntKind)(a b:Int)(K:Int→Prop):Prop:=0≤b∧K (a.fdiv (2^min b.toNat k.bits))
def d9(k:IntKind)(a b:Int)(K:Int→Prop):Prop:=b≠0∧K (k.wrap (a.tdiv b))
def dV(a b:Int)(K:Int→Prop):Prop:=b≠0∧K (a.tmod b)
def ldc(c:CK)(w:TW)(a:Addr)(K:CV c→Prop):Prop:=∃x:CV c,w.w.cell? a=some (CV.enc c x)∧K x
def nck(p:Option Addr)(K:Addr→Prop):Prop:=
 match p with
 | some a=>K a
 | none=>False
def ixa(s:Sl)(i:Int)(sz:Nat)(K:Addr→Prop):Prop:=∃b:Addr,s.p=some b∧0≤i∧i<s.n∧K (b.add (i.toNat*sz))
def ixp(a:Addr)(i:Int)(len sz:Nat)(K:Addr→Prop):Prop:=0≤i∧i<len∧K (a.add (i.toNat*sz))
def TW.set(T:TW)(a:Addr)(v:Value):TW:={ T with w:=T.w.setCell a v,lt:=λb h=>by simpa [World.setCell] using T.lt b h }
def stc(w:TW)(a:Addr)(v:Value)(K:TW→Prop):Prop:=
 (∃old,w.w.cell? a=some old)∧w.w.frozen? a=false∧¬w.V a.block∧K (w.set a v)
def nwb(w:TW)(cs:List Value)(e:TypeId)(K:Nat→TW→Prop):Prop:=∀b w',New w b cs e w'→K b w'
def hld(w:TW)(l:List (Addr × Value))(K:Prop):Prop:=match l with
 | []=>K
 | x::xs=>(∀y∈x::xs,w.w.cell? y.1=some y.2)∧K
def nwv(w:TW)(K:TW→Prop):Prop:=∀w',Ext aa w w'→K w'
def mks(w:TW)(l c:Int)(e bytes:Nat)(zero:List Value)(K:Sl→TW→Prop):Prop:=
 0≤l∧l≤c∧c*bytes≤140737488355328∧c≤9223372036854775807∧
 ∀b w',New w b (List.replicate c.toNat zero).flatten e w'→K ⟨some ⟨b,0,none⟩,l.toNat,c.toNat⟩ w'
def slc(s:Sl)(lo hi:Int)(sz:Nat)(K:Sl→Prop):Prop:=0≤lo∧lo≤hi∧hi≤s.c∧K (s.cut lo.toNat hi.toNat sz)
def apd(w:TW)(e sz bytes:Nat)(s x:Sl)(K:Sl→TW→Prop):Prop:=
 ∃B ls lx,Own w B e sz s ls∧Rdv w sz x lx∧B≤w.w.heap.size∧(∀v∈lx,v.oneCell'=true)∧s.n+x.n≤maxLen∧(s.n+x.n)*bytes≤140737488355328∧
  ∀s' w',Own w' B e sz s' (ls++lx)→s'.n=s.n+x.n→Ext (λb=>s.blk=some b) w w'→(∀b,s'.blk=some b→s.blk=some b∨w.w.heap.size≤b)→K s' w'
def cpy(w:TW)(e:Nat)(d s:Sl)(K:Int→TW→Prop):Prop:=
 (min s.n d.n=0∧K 0 w)∨∃lx b o cur,Rdv w 1 s lx∧(∀v∈lx,v.oneCell'=true)∧d.p=some ⟨b,o,none⟩∧¬w.V b∧w.w.heap[b]?=some (.cells cur e (0,0))∧o+min s.n d.n≤cur.size∧
  ∀w',w'.w.heap[b]?=some (.cells (splice cur.toList o (lx.take (min s.n d.n))).toArray e (0,0))→Ext (λk=>k=b) w w'→K (min s.n d.n:Nat) w'
def Ct(P:Program)(f:FuncId)(args:List Value)(w:TW)(X:Nat→Prop)(rt:List VT)(K:Tel (fl rt) (TW→Prop)):Prop:=
 Calls P f args.toArray w.w (λe w'=>∃(x:HL (fl rt)) (T':TW),T'.w=w'∧e=.returned (qW rt x)∧Ext X w.here T'∧app (fl rt) K x (T'.at w.B))
def cl(P:Program)(f:FuncId)(args:List Value)(w:TW)(rt:List VT)(K:Tel (fl rt) (TW→Prop)):Prop:=
 ∃X:Nat→Prop,(∀b,X b→¬w.V b)∧Ct P f args w X rt K
def clv(P:Program)(v:Value)(args:List Value)(w:TW)(rt:List VT)(K:Tel (fl rt) (TW→Prop)):Prop:=
 ∃ f first captured, v = .func (.func f) first captured ∧ (P.funcs[f]?).any (λfn => fn.body.isSome && !(fn.name == "runtime.NumGoroutine")) = true ∧ cl P f (first.toList ++ args ++ captured.toList) w rt K
def Jn(cs:List CK)(A:Tel cs (TW→Prop)→Prop)(K:Tel cs (TW→Prop)):Prop:=
 ∃J:Tel cs (TW→Prop),A J∧qk cs (lam cs λx=>∀w,app cs J x w→app cs K x w)
def LpB(cs:List CK)(body:Tel cs (TW→(Tel cs (TW→Prop))→Prop))(x:HL cs)(w:TW):Prop:=
 ∃I:Nat→Tel cs (TW→Prop),(∃m,app cs (I m) x w)∧
  ∀m,qk cs (lam cs λx=>∀w,app cs (I m) x w→app cs body x w (lam cs λx' w'=>∃m',m'<m∧app cs (I m') x' w'))
def Lp(cs:List CK)(body:Tel cs (TW→(Tel cs (TW→Prop))→Prop)):Tel cs (TW→Prop):=lam cs λx w=>LpB cs body x w
def gv(x y c:Int)(K:Int→Int→Prop):Prop:=
 ∃a b d:Nat,x=a∧y=b∧c=d∧d≤1∧K ((a+b+d)%18446744073709551616:Nat) ((a+b+d)/18446744073709551616:Nat)
def kP(x y c:Int)(K:Int→Int→Prop):Prop:=
 ∃a b d:Nat,x=a∧y=b∧c=d∧d≤1∧K ((a+18446744073709551616-b-d)%18446744073709551616:Nat) (if a<b+d then 1 else 0:Nat)
def ixs(s:ByteArray)(i:Int)(K:Int→Prop):Prop:=∃h:0≤i∧i.toNat<s.size,K (s[i.toNat]'h.2).toNat
def inr(i:Int)(len:Nat)(K:Prop):Prop:=0≤i∧i<len∧K
def ixq(c:CK)(cs:List Value)(j:Nat)(K:CV c→Prop):Prop:=∃x:CV c,cs[j]?=some (CV.enc c x)∧K x
section
inductive SV where
 | v (x:Value)
 | p (h off:Nat)
 | q
abbrev Env:=List (Nat × SV)
def Env.get:Env→Nat→Option SV
 | [],_=>none
 | (k,x)::e,t=>match Nat.beq k t with
  | true=>some x
  | false=>Env.get e t
def Env.gets(e:Env):Nat→Nat→Option (List Value)
 | _,0=>some []
 | k,n+1=>match e.get k with
  | some (.v x)=>match Env.gets e (k+1) n with
   | some xs=>some (x::xs)
   | none=>none
  | _=>none
structure Dc where
 N:Nat
 va:List (Nat × Nat)
 vb:List (Nat × Nat)
 ann:List (Nat × Nat × List (Nat × VT))
 ext:List (FuncId × Nat)
def nat?{α:Type}:List (Nat × α)→Nat→Option α
 | [],_=>none
 | (k,x)::e,t=>match Nat.beq k t with
  | true=>some x
  | false=>nat? e t
def ann?:List (Nat × Nat × List (Nat × VT))→Nat→Nat→Option (List (Nat × VT))
 | [],_,_=>none
 | (k,i,x)::e,t,j=>match Nat.beq k t with
  | true=>match Nat.beq i j with
   | true=>some x
   | false=>ann? e t j
  | false=>ann? e t j
def pq:List Nat→Nat→Bool
 | [],_=>false
 | k::ks,t=>match Nat.beq k t with
  | true=>true
  | false=>pq ks t
def isB(D:Dc)(h n:Nat):Bool:=match nat? D.vb h with
 | some m=>Nat.beq m n
 | none=>false
def inB(D:Dc)(h off n:Nat):Bool:=match nat? D.vb h with
 | some m=>match Nat.beq off 0 with
  | true=>Nat.ble n m
  | false=>Nat.ble (off+n) m
 | none=>false
section
variable (P:Program) (D:Dc)
def ckD:TypeDesc→Option CK
 | .int k=>some (.int k)
 | .bool=>some .bool
 | .string=>some .str
 | .slice _=>some .slice
 | .pointer _=>some .ptr
 | .func ..=>some .fn
 | _=>none
def abm:Nat→TypeId→Option (List CK)
 | 0,_=>none
 | n+1,t=>match P.underlying t with
  | some (.struct fs)=>fs.toList.foldr (λf acc=>match abm n f.type,acc with
   | some a,some b=>some (a++b)
   | _,_=>none) (some [])
  | some (.array len e)=>match abm n e with
   | some l=>some (List.replicate len l).flatten
   | none=>none
  | some d=>match ckD d with
   | some c=>some [c]
   | none=>none
  | none=>none
def nX(t:TypeId):Bool:=match P.underlying t with
 | some (.struct _)=>true
 | some (.array _ _)=>true
 | _=>false
def mI(t:TypeId):Option VT:=match P.underlying t with
 | some (.struct _)|some (.array _ _)=>match abm P 9 t with
  | some l=>some (.agg l)
  | none=>none
 | some d=>match ckD d with
  | some c=>some (.one c)
  | none=>none
 | none=>none
def abM:List TypeId→Option (List VT)
 | []=>some []
 | t::ts=>match mI P t,abM ts with
  | some v,some vs=>some (v::vs)
  | _,_=>none
def ac5(t:TypeId):Option (List VT):=match P.underlying t with
 | some (.tuple ts)=>abM P ts.toList
 | some _=>match mI P t with
  | some v=>some [v]
  | none=>none
 | none=>none
def ev(e:Env):Operand→Option SV
 | .tmp t=>match Nat.blt t D.N with
  | true=>e.get t
  | false=>none
 | .const v=>some (.v v)
 | .func f=>some (.v (.func (.func f) #[] #[]))
 | .global g=>some (.v (.pointer (some ⟨g,0,none⟩)))
def evv(e:Env)(x:Operand):Option Value:=match ev D e x with
 | some (.v v)=>some v
 | _=>none
def mL(e:Env):List Operand→Option (List Value)
 | []=>some []
 | x::xs=>match evv D e x,mL e xs with
  | some v,some vs=>some (v::vs)
  | _,_=>none
def yj(op:BinOp)(k k':IntKind)(a b:Int)(K:Value→Prop):Prop:=
 match op with
 | .shl=>jv k a b λr=>K (.int k r)
 | .shr=>gJ k a b λr=>K (.int k r)
 | .add=>if k=k' then K (.int k (k.wrap (a+b))) else False
 | .sub=>if k=k' then K (.int k (k.wrap (a-b))) else False
 | .mul=>if k=k' then K (.int k (k.wrap (a*b))) else False
 | .quo=>if k=k' then d9 k a b (λr=>K (.int k r)) else False
 | .rem=>if k=k' then dV a b (λr=>K (.int k r)) else False
 | .and=>if k=k' then K (.int k (bg .and k a b)) else False
 | .or=>if k=k' then K (.int k (bg .or k a b)) else False
 | .xor=>if k=k' then K (.int k (bg .xor k a b)) else False
 | .andNot=>if k=k' then K (.int k (bg .andNot k a b)) else False
 | .eql=>if k=k' then K (.bool (a == b)) else False
 | .neq=>if k=k' then K (.bool (a != b)) else False
 | .lss=>if k=k' then K (.bool (decide (a<b))) else False
 | .leq=>if k=k' then K (.bool (decide (a≤b))) else False
 | .gtr=>if k=k' then K (.bool (decide (a>b))) else False
 | .geq=>if k=k' then K (.bool (decide (a≥b))) else False
def bop(op:BinOp)(xt:TypeId)(x y:Value)(K:Value→Prop):Prop:=
 match x,y with
 | .int k a,.int k' b=>yj op k k' a b K
 | .bool a,.bool b=>match P.underlying xt with
  | some .bool=>match op with
   | .eql=>K (.bool (a == b))
   | .neq=>K (.bool (!(a == b)))
   | _=>False
  | _=>False
 | .pointer a,.pointer none=>match P.underlying xt with
  | some (.pointer _)=>match op with
   | .eql=>K (.bool a.isNone)
   | .neq=>K (.bool (!a.isNone))
   | _=>False
  | _=>False
 | .slice a _ _,.slice none _ _=>match P.underlying xt with
  | some (.slice _)=>match op with
   | .eql=>K (.bool a.isNone)
   | .neq=>K (.bool (!a.isNone))
   | _=>False
  | _=>False
 | _,_=>False
def uop(op:UnOp)(x:Value)(K:Value→Prop):Prop:=
 match op,x with
 | .neg,.int k n=>K (.int k (k.wrap (0-n)))
 | .xor,.int k n=>K (.int k (bg .xor k (if k.signed then -1 else k.max) n))
 | .not,.bool b=>K (.bool (!b))
 | _,_=>False
def iC(t:TypeId):Option Nat:=match P.info? t with
 | some i=>some i.size
 | none=>none
def prt(t:TypeId)(cs:List Value)(off:Nat):Option Value:=
 match P.underlying t with
 | none=>none
 | some _=>match nX P t with
  | true=>match iC P t with
   | some n=>some (.agg ((cs.drop off).take n).toArray)
   | none=>none
  | false=>cs[off]?
def nw:List Field→Option (List (Nat × Nat))
 | []=>some []
 | f::fs=>match iC P f.type,nw fs with
  | some n,some l=>some ((f.offset,n)::l)
  | _,_=>none
def rR:List Value→Nat→List Value→List Value
 | cs,_,[]=>cs
 | cs,off,v::vs=>rR (cs.set off v) (off+1) vs
def oe(place:Nat→Option (Nat × Nat)):List Value→List (Nat × Value)→Option (List Value)
 | cells,[]=>some cells
 | cells,(i,v)::rest=>match place i with
  | none=>none
  | some (off,size)=>match Nat.beq v.cells.toList.length size&&Nat.ble (off+v.cells.toList.length) cells.length with
   | true=>oe place (rR cells off v.cells.toList) rest
   | false=>none
def kO(t:TypeId):Option (List Value):=match P.info? t with
 | some i=>match i.zero with
  | some z=>some z.cells.toList
  | none=>none
 | none=>none
def mW(e:Env):List (Nat × Operand)→Option (List (Nat × Value))
 | []=>some []
 | (i,x)::xs=>match evv D e x,mW e xs with
  | some v,some vs=>some ((i,v)::vs)
  | _,_=>none
def bld(t:TypeId)(parts:List (Nat × Value)):Option (List Value):=match kO P t with
 | none=>none
 | some z=>match P.underlying t with
  | some (.struct fs)=>match nw P fs.toList with
   | some pl=>oe (λi=>pl[i]?) z parts
   | none=>none
  | some (.array _ e)=>match iC P e with
   | some n=>oe (λi=>some (i*n,n)) z parts
   | none=>none
  | _=>none
def mm(big:Bool):Value→List Value→Option Value
 | .int k x,[]=>some (.int k x)
 | .int k x,.int _ y::vs=>mm big (.int k (match big with
  | true=>if y>x then y else x
  | false=>if y<x then y else x)) vs
 | _,_=>none
def abe(cs:List Value)(j:Nat):Nat→List CK→(List Value→Prop)→Prop
 | _,[],K=>K []
 | o,c::r,K=>ixq c cs (j+o) λx=>abe cs j (o+1) r λvs=>K (CV.enc c x::vs)
def isC:Operand→Bool
 | .const _=>true
 | _=>false
def pop(o:Oper)(e:Env)(K:SV→Prop):Prop:=
 match o.op with
 | .move x|.assign x=>match ev D e x with
  | some s=>K s
  | none=>False
 | .pick c a b=>match evv D e c with
  | some (.bool b')=>cond b' (match ev D e a with
   | some s=>K s
   | none=>False) (match ev D e b with
   | some s=>K s
   | none=>False)
  | _=>False
 | .nilCheck x=>match ev D e x with
  | some (.v (.pointer p))=>nck p λa=>K (.v (.pointer (some a)))
  | some (.p h off)=>K (.p h off)
  | _=>False
 | .binOp op xt x y _=>match evv D e x,evv D e y with
  | some a,some b=>bop P op xt a b λr=>K (.v r)
  | _,_=>False
 | .unOp op _ x=>match evv D e x with
  | some a=>uop op a λr=>K (.v r)
  | none=>False
 | .convert src dst x=>match P.underlying src,P.underlying dst,evv D e x with
  | some _,some (.int k),some (.int _ n)=>K (.v (.int k (k.wrap n)))
  | _,_,_=>False
 | .fieldAddr s x f=>match P.underlying s with
  | some (.struct fs)=>match fs[f]? with
   | some fd=>match iC P fd.type with
    | some (_+1)=>match ev D e x with
     | some (.v (.pointer (some a)))=>K (.v (.pointer (some (a.add fd.offset))))
     | some (.p h off)=>K (.p h (off+fd.offset))
     | _=>False
    | _=>False
   | none=>False
  | _=>False
 | .indexAddr t x i=>match P.underlying t,evv D e i with
  | some (.slice el),some (.int _ n)=>match iC P el,evv D e x with
   | some sz,some (.slice p l c)=>ixa ⟨p,l,c⟩ n sz λa=>K (.v (.pointer (some a)))
   | _,_=>False
  | some (.array len el),some (.int _ n)=>match iC P el,ev D e x with
   | some sz,some (.v (.pointer (some a)))=>ixp a n len sz λa=>K (.v (.pointer (some a)))
   | some sz,some (.p h off)=>match n with
    | .ofNat m=>match Nat.blt m len with
     | true=>K (.p h (off+m*sz))
     | false=>False
    | _=>False
   | _,_=>False
  | _,_=>False
 | .field t x f=>match P.underlying t,evv D e x with
  | some (.struct fs),some (.agg cs)=>match fs[f]? with
   | some fd=>match prt P fd.type cs.toList fd.offset with
    | some v=>K (.v v)
    | none=>False
   | none=>False
  | _,_=>False
 | .index t x i=>match P.underlying t,evv D e x,evv D e i with
  | some (.array len el),some (.agg cs),some (.int _ n)=>match iC P el,isC i with
   | some sz,true=>match n with
    | .ofNat m=>match Nat.blt m len with
     | true=>match prt P el cs.toList (m*sz) with
      | some v=>K (.v v)
      | none=>False
     | false=>False
    | _=>False
   | some sz,false=>match mI P el with
    | some (.one c)=>inr n len (ixq c cs.toList (n.toNat*sz) λx=>K (.v (CV.enc c x)))
    | some (.agg cks)=>match Nat.beq sz cks.length with
     | true=>inr n len (abe cs.toList (n.toNat*sz) 0 cks λvs=>K (.v (.agg vs.toArray)))
     | false=>False
    | none=>False
   | none,_=>False
  | some .string,some (.string s),some (.int _ n)=>ixs s n λb=>K (.v (.int .u8 b))
  | _,_,_=>False
 | .extract t i=>match evv D e t with
  | some (.tuple vs)=>match vs.toList[i]? with
   | some v=>K (.v v)
   | none=>False
  | _=>False
 | .slice t x lo hi mx=>match P.underlying t,evv D e x,mx with
  | some (.slice el),some (.slice p l c),none=>match iC P el with
   | some sz=>
    match lo,hi with
    | none,none=>slc ⟨p,l,c⟩ 0 l sz λs=>K (.v s.v)
    | some lo,none=>match evv D e lo with
     | some (.int _ a)=>slc ⟨p,l,c⟩ a l sz λs=>K (.v s.v)
     | _=>False
    | none,some hi=>match evv D e hi with
     | some (.int _ b)=>slc ⟨p,l,c⟩ 0 b sz λs=>K (.v s.v)
     | _=>False
    | some lo,some hi=>match evv D e lo,evv D e hi with
     | some (.int _ a),some (.int _ b)=>slc ⟨p,l,c⟩ a b sz λs=>K (.v s.v)
     | _,_=>False
   | none=>False
  | _,_,_=>False
 | .makeFunc fn first captured=>match mL D e first.toList,mL D e captured.toList with
  | some a,some b=>K (.v (.func fn a.toArray b.toArray))
  | _,_=>False
 | .build t parts=>match mW D e parts.toList with
  | some ps=>match bld P t ps with
   | some cs=>K (.v (.agg cs.toArray))
   | none=>False
  | none=>False
 | .call { callee:=.builtin b,args,argTypes }=>match b,args.toList,argTypes.toList with
  | .len,[x],[t]=>match P.underlying t,evv D e x with
   | some (.slice _),some (.slice _ n _)=>K (.v (.int .i64 n))
   | some .string,some (.string s)=>K (.v (.int .i64 s.size))
   | some (.array n _),some _=>K (.v (.int .i64 n))
   | _,_=>False
  | .cap,[x],[t]=>match P.underlying t,evv D e x with
   | some (.slice _),some (.slice _ _ n)=>K (.v (.int .i64 n))
   | _,_=>False
  | .max,x::xs,_=>match evv D e x,mL D e xs with
   | some a,some as=>match mm true a as with
    | some v=>K (.v v)
    | none=>False
   | _,_=>False
  | .min,x::xs,_=>match evv D e x,mL D e xs with
   | some a,some as=>match mm false a as with
    | some v=>K (.v v)
    | none=>False
   | _,_=>False
  | _,_,_=>False
 | _=>False
def aba(w:TW)(a:Addr):Nat→List CK→(List Value→Prop)→Prop
 | _,[],K=>K []
 | i,c::cs,K=>ldc c w (a.add i) λx=>aba w a (i+1) cs λvs=>K (CV.enc c x::vs)
def rZ(a:Addr):Nat→List Value→List (Addr × Value)
 | _,[]=>[]
 | i,v::vs=>(a.add i,v)::rZ a (i+1) vs
def oa(h:Nat):Nat→List Value→List (Nat × Nat × Value)
 | _,[]=>[]
 | off,v::vs=>(h,off,v)::oa h (off+1) vs
def lop(o:Oper)(e:Env)(w:TW)(K:SV→List (Addr × Value)→List (Nat × Nat × Value)→Prop):Prop:=
 match o.op with
 | .load t x=>match ev D e x,mI P t with
  | some (.v (.pointer (some a))),some (.one c)=>ldc c w a λx=>K (.v (CV.enc c x)) [(a,CV.enc c x)] []
  | some (.v (.pointer (some a))),some (.agg cs)=>match iC P t with
   | some n=>match Nat.beq n cs.length with
    | true=>aba w a 0 cs λvs=>K (.v (.agg vs.toArray)) (rZ a 0 vs) []
    | false=>False
   | none=>False
  | some (.p h off),some (.one _)=>match e.get (h+off),inB D h off 1 with
   | some (.v v),true=>K (.v v) [] [(h,off,v)]
   | _,_=>False
  | some (.p h off),some (.agg cs)=>match iC P t with
   | some n=>match Nat.beq n cs.length&&inB D h off n,e.gets (h+off) n with
    | true,some vs=>K (.v (.agg vs.toArray)) [] (oa h off vs)
    | _,_=>False
   | none=>False
  | _,_=>False
 | _=>False
def xS(a:Addr):Nat→List Value→TW→(TW→Prop)→Prop
 | _,[],w,K=>K w
 | i,v::vs,w,K=>match v.oneCell' with
  | true=>stc w (a.add i) v λw'=>xS a (i+1) vs w' K
  | false=>False
def clr(h:Nat):Env→Env
 | []=>[]
 | (k,.p h' off)::e=>match Nat.beq h' h with
  | true=>(k,.q)::clr h e
  | false=>(k,.p h' off)::clr h e
 | x::e=>x::clr h e
def iY:Nat→List Value→Env→Env
 | _,[],e=>e
 | k,v::vs,e=>iY (k+1) vs ((k,.v v)::e)
def yc:List Value→Bool
 | []=>true
 | v::vs=>match v.oneCell' with
  | true=>yc vs
  | false=>false
def wop(o:Oper)(e:Env)(w:TW)(K:Option SV→Env→TW→Prop):Prop:=
 match o.op with
 | .alloc el=>match kO P el,o.dst with
  | some z,some d=>match nat? D.va d with
   | none=>nwb w z el λb w'=>K (some (.v (.pointer (some ⟨b,0,none⟩)))) e w'
   | some h=>match isB D h z.length with
    | true=>nwv w λw'=>K (some (.p h 0)) (iY h z (clr h e)) w'
    | false=>False
  | _,_=>False
 | .box el x=>match evv D e x,o.dst with
  | some v,some d=>match nat? D.va d with
   | none=>nwb w v.cells.toList el λb w'=>K (some (.v (.pointer (some ⟨b,0,none⟩)))) e w'
   | some h=>match isB D h v.cells.toList.length with
    | true=>nwv w λw'=>K (some (.p h 0)) (iY h v.cells.toList (clr h e)) w'
    | false=>False
  | _,_=>False
 | .buildSlice t len parts=>match P.underlying t,mW D e parts.toList with
  | some (.slice el),some ps=>match iC P el,kO P el with
   | some sz,some z=>match oe (λi=>some (i*sz,sz)) (List.replicate len z).flatten ps with
    | some cs=>match Nat.ble (len*sz) 16777216&&Nat.beq z.length sz with
     | true=>nwb w cs el λb w'=>K (some (.v (.slice (some ⟨b,0,none⟩) len len))) e w'
     | false=>False
    | none=>False
   | _,_=>False
  | _,_=>False
 | .makeSlice t l c=>match P.underlying t,evv D e l,evv D e c with
  | some (.slice el),some (.int _ l),some (.int _ c)=>match P.info? el,kO P el with
   | some i,some z=>match Nat.beq z.length i.size with
    | true=>mks w l c el i.bytes z λs w'=>K (some (.v s.v)) e w'
    | false=>False
   | _,_=>False
  | _,_,_=>False
 | .store t x y=>match ev D e x,evv D e y,iC P t,o.dst with
  | some (.v (.pointer (some a))),some v,some n,none=>match Nat.beq v.cells.toList.length n with
   | true=>xS a 0 v.cells.toList w λw'=>K none e w'
   | false=>False
  | some (.p h off),some v,some n,none=>match Nat.beq v.cells.toList.length n&&yc v.cells.toList&&inB D h off n with
   | true=>nwv w λw'=>K none (iY (h+off) v.cells.toList e) w'
   | false=>False
  | _,_,_,_=>False
 | .call { callee:=.builtin b,args,argTypes }=>match b,args.toList,argTypes.toList with
  | .append,[x,y],[t,u]=>match Nat.beq t u,P.underlying t,evv D e x,evv D e y with
   | true,some (.slice el),some (.slice p n c),some (.slice p' n' c')=>match P.info? el,kO P el with
    | some i,some z=>match Nat.beq z.length i.size&&Nat.blt 0 i.size with
     | true=>apd w el i.size i.bytes ⟨p,n,c⟩ ⟨p',n',c'⟩ λs w'=>K (some (.v s.v)) e w'
     | false=>False
    | _,_=>False
   | _,_,_,_=>False
  | .copy,[x,y],[t,_]=>match P.underlying t,evv D e x,evv D e y with
   | some (.slice el),some (.slice p n c),some (.slice p' n' c')=>match iC P el with
    | some 1=>cpy w el ⟨p,n,c⟩ ⟨p',n',c'⟩ λr w'=>K (some (.v (.int .i64 r))) e w'
    | _=>False
   | _,_,_=>False
  | _,_,_=>False
 | .call { callee:=.value (.func f),args,.. }=>match nat? D.ext f with
  | some 1=>match mL D e args.toList with
   | some [.int _ x,.int _ y,.int _ c]=>gv x y c λs d=>K (some (.v (.tuple #[.int .u64 s,.int .u64 d]))) e w
   | _=>False
  | some 2=>match mL D e args.toList with
   | some [.int _ x,.int _ y,.int _ c]=>kP x y c λs d=>K (some (.v (.tuple #[.int .u64 s,.int .u64 d]))) e w
   | _=>False
  | some 0=>match mL D e args.toList,ac5 P o.type with
   | some vs,some rt=>cl P f vs w rt (lam (fl rt) λx w'=>K (some (.v (qW rt x))) e w')
   | _,_=>False
  | _=>False
 | .call { callee:=.value (.tmp t),args,.. }=>match ev D e (.tmp t),mL D e args.toList,ac5 P o.type with
  | some (.v fv),some vs,some rt=>clv P fv vs w rt (lam (fl rt) λx w'=>K (some (.v (qW rt x))) e w')
  | _,_,_=>False
 | _=>False
inductive Kd where
 | pure|load|loud
 deriving DecidableEq
def kd(o:Oper):Kd:=
 match o.op with
 | .load ..=>.load
 | .alloc _|.box ..|.buildSlice ..|.makeSlice ..|.store ..=>.loud
 | .call { callee:=.builtin .append,.. }|.call { callee:=.builtin .copy,.. }=>.loud
 | .call { callee:=.value _,.. }=>.loud
 | _=>.pure
def nI(d:Option Tmp)(x:SV)(e:Env)(K:Env→Prop):Prop:=match d with
 | none=>K e
 | some d=>match Nat.blt d D.N with
  | true=>K ((d,x)::e)
  | false=>False
def gd(ops:List Oper)(o:Oper)(e:Env)(A:Env→Prop)(B:Env→Prop):Prop:=match o.guard with
 | none=>A e
 | some (g,want)=>match ops[g]? with
  | some og=>match og.dst with
   | some t=>match ev D e (.tmp t) with
    | some (.v (.bool b))=>cond b
      (match want with
       | true=>A ((t,.v (.bool true))::e)
       | false=>B ((t,.v (.bool true))::e))
      (match want with
       | true=>B ((t,.v (.bool false))::e)
       | false=>A ((t,.v (.bool false))::e))
    | some (.v (.tuple _))=>B e
    | _=>False
   | none=>False
  | none=>False
def dop(o:Oper)(e:Env)(w:TW)(K:Env→TW→Prop):Prop:=
 match kd o with
 | .pure=>pop P D o e λx=>nI D o.dst x e λe=>K e w
 | .load=>lop P D o e w λx _ _=>nI D o.dst x e λe=>K e w
 | .loud=>wop P D o e w λx e w'=>match x with
  | none=>K e w'
  | some x=>nI D o.dst x e λe=>K e w'
def vP(ops:List Oper):List Oper→Env→TW→(Env→TW→Prop)→Prop
 | [],e,w,K=>K e w
 | o::os,e,w,K=>gd D ops o e (λe=>dop P D o e w λe w=>vP ops os e w K)
   (λe=>nI D o.dst (.v undef) e λe=>vP ops os e w K)
def oT(ops:List Oper)(j i:Nat):Bool:=match ops[j]? with
 | some o=>o.after.toList.any λd=>Region.binds .any d&&d.on == i
 | none=>true
def lf(ops:List Oper):List Nat→Option (Nat × Oper)
 | []=>none
 | i::is=>match ops[i]? with
  | some o=>match kd o with
   | .loud=>lf ops is
   | _=>some (i,o)
  | none=>lf ops is
structure Tk where
 i:Nat
 cells:List (Addr × Value)
 keys:List (Nat × Nat × Value)
def oh(ops:List Oper)(j:Nat):List Tk→List Tk
 | []=>[]
 | t::ts=>match oT ops j t.i with
  | true=>oh ops j ts
  | false=>t::oh ops j ts
def vW:List Tk→List (Addr × Value)
 | []=>[]
 | t::ts=>t.cells++vW ts
def yi:List Tk→List (Nat × Nat × Value)
 | []=>[]
 | t::ts=>t.keys++yi ts
def yA:List Nat→(Nat→Prop)→Prop
 | [],_=>True
 | [i],K=>K i
 | i::j::is,K=>K i∧yA (j::is) K
def rl(e e':Env)(ks:List (Nat × Nat × Value)):Bool:=ks.all λk=>!pq ((e'.take (e'.length-e.length)).map (·.1)) (k.1+k.2.1)
def vz(d:Nat):List Operand→Bool
 | []=>false
 | x::xs=>match x with
  | .tmp t=>match Nat.beq t d with
   | true=>true
   | false=>vz d xs
  | _=>vz d xs
def qc(ops:Array Oper)(o:Oper)(d:Nat):Bool:=match vz d o.op.operands.toList with
 | true=>true
 | false=>match o.guard with
  | none=>false
  | some (g,_)=>match ops[g]? with
   | some og=>match og.dst with
    | some t=>Nat.beq t d
    | none=>false
   | none=>false
def wb(ops:Array Oper)(x y:Oper):Bool:=match x.dst with
 | some d=>match qc ops y d with
  | true=>false
  | false=>match y.dst with
   | some d'=>match Nat.beq d' d with
    | true=>false
    | false=>!qc ops x d'
   | none=>true
 | none=>match y.dst with
  | some d'=>!qc ops x d'
  | none=>true
def okF(ops:Array Oper)(x:Oper)(i:Nat)(y:Oper):Bool:=match wb ops x y with
 | true=>true
 | false=>y.after.toList.any λe=>Region.binds .any e&&e.on == i
def pu(ops:Array Oper)(x:Oper)(i:Nat):List Oper→List Bool→Bool
 | [],_=>true
 | _::_,[]=>false
 | y::l,b::bl=>match b with
  | true=>pu ops x i l bl
  | false=>match okF ops x i y with
   | true=>pu ops x i l bl
   | false=>false
def mQ(ops:Array Oper)(x:Oper)(i:Nat):Nat→List Oper→List Bool→Bool
 | _,[],_=>true
 | _,_::_,[]=>false
 | 0,_::l,_::bl=>pu ops x i l bl
 | k+1,y::l,b::bl=>match b with
  | true=>mQ ops x i k l bl
  | false=>match okF ops x i y with
   | true=>mQ ops x i k l bl
   | false=>false
def vm:List Bool→(List Bool→Prop)→Prop
 | [],K=>K []
 | true::l,K=>vm l λl=>K (true::l)
 | false::l,K=>vm l λl=>K (false::l)
theorem qx:∀(l:List Bool) (K:List Bool→Prop),vm l K=K l
 | [],_=>rfl
 | true::l,K=>qx l _
 | false::l,K=>qx l _
def nK(ops:Array Oper):Nat→Array Bool→List Tk→Env→TW→(Env→TW→Prop)→Prop
 | 0,listed,_,e,w,K=>vm listed.toList λbl=>match Region.ready .any ops ⟨bl⟩ with
  | []=>K e w
  | _=>False
 | fuel+1,listed,T,e,w,K=>vm listed.toList λbl=>match Region.ready .any ops ⟨bl⟩ with
  | []=>K e w
  | i::is=>match lf ops.toList (i::is) with
   | some (i,o)=>match mQ ops o i i ops.toList bl with
    | false=>False
    | true=>gd D ops.toList o e
      (λe=>match kd o with
       | .load=>lop P D o e w λx cs ks=>nI D o.dst x e λe=>nK ops fuel ((⟨bl⟩:Array Bool).setIfInBounds i true) (⟨i,cs,ks⟩::T) e w K
       | _=>pop P D o e λx=>nI D o.dst x e λe=>nK ops fuel ((⟨bl⟩:Array Bool).setIfInBounds i true) T e w K)
      (λe=>nI D o.dst (.v undef) e λe=>nK ops fuel ((⟨bl⟩:Array Bool).setIfInBounds i true) T e w K)
   | none=>yA (i::is) λi=>match ops[i]? with
    | none=>False
    | some o=>gd D ops.toList o e
      (λe=>wop P D o e w λx e' w'=>match rl e e' (yi (oh ops.toList i T)) with
       | true=>hld w' (vW (oh ops.toList i T)) (match x with
        | none=>nK ops fuel ((⟨bl⟩:Array Bool).setIfInBounds i true) (oh ops.toList i T) e' w' K
        | some x=>nI D o.dst x e' λe=>nK ops fuel ((⟨bl⟩:Array Bool).setIfInBounds i true) (oh ops.toList i T) e w' K)
       | false=>False)
      (λe=>nI D o.dst (.v undef) e λe=>nK ops fuel ((⟨bl⟩:Array Bool).setIfInBounds i true) T e w K)
def wrO:List Oper→List Nat
 | []=>[]
 | o::os=>match o.dst with
  | some d=>d::wrO os
  | none=>wrO os
def wr:Code→List Nat
 | .region _ ops _=>wrO ops.toList
 | .seq a b=>wr a++wr b
 | .cond _ a b=>wr a++wr b
 | .block _ c=>wr c
 | .loop c=>wr c
 | _=>[]
def fid:Code→Option Nat
 | .region i _ _=>some i
 | .seq a b=>match fid a with
  | some i=>some i
  | none=>fid b
 | .cond _ a b=>match fid a with
  | some i=>some i
  | none=>fid b
 | .block _ c=>fid c
 | .loop c=>fid c
 | _=>none
def lG:List (Nat × Nat)→List Nat→Nat→Bool
 | [],_,_=>false
 | (d,k)::va,ws,h=>match Nat.beq k h&&pq ws d with
  | true=>true
  | false=>lG va ws h
def abU(ws:List Nat)(k:Nat)(x:SV):Bool:=match Nat.blt k D.N&&!pq ws k with
 | true=>match x with
  | .p h _=>!lG D.va ws h
  | _=>true
 | false=>false
def keep(ws:List Nat):Env→Env
 | []=>[]
 | (k,x)::e=>match abU D ws k x with
  | true=>(k,x)::keep ws e
  | false=>(k,.q)::keep ws e
def pM(e:Env):List (Nat × VT)→Option (List Value)
 | []=>some []
 | (k,_)::ts=>match e.get k,pM e ts with
  | some (.v v),some vs=>some (v::vs)
  | _,_=>none
def enter:List (Nat × VT)→List Value→Env→Env
 | (k,_)::ts,v::vs,e=>(k,.v v)::enter ts vs e
 | _,_,e=>e
def tys:List (Nat × VT)→List VT
 | []=>[]
 | (_,t)::ts=>t::tys ts
def vE{R:Type}(F:R)(ts:List (Nat × VT))(e:Env)(J:Tel (fl (tys ts)) R):R:=match pM e ts with
 | some vs=>match jB (tys ts) vs with
  | some l=>match rB (fl (tys ts)) l with
   | some x=>app (fl (tys ts)) J x
   | none=>F
  | none=>F
 | none=>F
def px(ts:List (Nat × VT))(x:HL (fl (tys ts)))(ws:List Nat)(e:Env):Env:=
 enter ts (oc (tys ts) (aM (fl (tys ts)) x)) (keep D ws e)
def noW:TW→Prop:=λ_=>False
def oI(t:Option (List (Nat × VT)))(ws:List Nat)(e:Env)(A:(Env→TW→Prop)→Prop)(K:Env→TW→Prop):Prop:=match t with
 | none=>A K
 | some ts=>Jn (fl (tys ts)) (λJ=>A λe' w'=>vE noW ts e' J w') (lam (fl (tys ts)) λx w'=>K (px D ts x ws e) w')
def adM(tag:Nat)(c:Code):Option (List (Nat × VT)):=match fid c with
 | some i=>ann? D.ann tag i
 | none=>none
def den:Code→Env→TW→(Env→TW→Prop)→(Nat→Env→TW→Prop)→(Env→TW→Prop)→Prop
 | .skip,e,w,K,_,_=>K e w
 | .region i ops false,e,w,K,_,_=>oI D (ann? D.ann 0 i) (wrO ops.toList) e (λK=>vP P D ops.toList ops.toList e w K) K
 | .region i ops true,e,w,K,_,_=>oI D (ann? D.ann 0 i) (wrO ops.toList) e (λK=>nK P D ops ops.size (Array.replicate ops.size false) [] e w.drew K) K
 | .seq a b,e,w,K,X,R=>den a e w (λe w=>den b e w K X R) X R
 | .cond c a b,e,w,K,X,R=>match evv D e c with
  | some (.bool x)=>oI D (adM D 1 (.cond c a b)) (wr (.cond c a b)) e (λK=>cond x (den a e w K X R) (den b e w K X R)) K
  | _=>False
 | .block i c,e,w,K,X,R=>oI D (ann? D.ann 2 i) (wr c) e (λK=>den c e w K (λj e w=>match Nat.beq j i with
  | true=>K e w
  | false=>X j e w) R) K
 | .loop c,e,w,_,X,R=>match adM D 3 c with
  | none=>False
  | some ts=>vE noW ts e (Lp (fl (tys ts)) (lam (fl (tys ts)) λx w C=>den c (px D ts x (wr c) e) w (λe w=>vE noW ts e C w) X R)) w
 | .exit i,e,w,_,X,_=>X i e w
 | .ret,e,w,_,_,R=>R e w
 | _,_,_,_,_,_=>False
def rvs(e:Env)(w:TW):List ResultVar→(List Value→Prop)→Prop
 | [],K=>K []
 | .tmp t::rs,K=>match ev D e (.tmp t) with
  | some (.v v)=>rvs e w rs λvs=>K (v::vs)
  | _=>False
 | .cell t ty :: rs, K => lop P D { dst := none, op := .load ty (.tmp t), type := ty, pos := "", after := #[], guard := none } e w λx _ _ => match x with
  | .v v=>rvs e w rs λvs=>K (v::vs)
  | _=>False
def args(k:Nat):List Value→Env
 | []=>[]
 | v::vs=>(k,.v v)::args (k+1) vs
def abv(fn:Func)(c:Code)(as:List Value)(w:TW)(R:Value→TW→Prop):Prop:=
 let fin:=λe w=>rvs P D e w fn.results.toList λvs=>R (ret vs) w
 den P D c (args 0 as) w fin (λ_ _ _=>False) fin
end
end
section
variable {X:Nat→Prop} {a:Act} {b t:Nat} {w w':TW} {cs:List Value} {e:Env} {β:Nat→Option Nat} {x:Operand} {v:Value}
section
variable {P:Program} {D:Dc}
theorem Ext.refl(X:Nat→Prop)(w:TW):Ext X w w:=⟨rfl,rfl,rfl,Nat.le_refl _,rfl,λ_ h=>h,λ_ h=>.inl h,λ_ _ _ _=>rfl,λ_ _=>rfl⟩
theorem Ext.trans{a b c:TW}(h:Ext X a b)(k:Ext X b c):Ext X a c:=
 ⟨k.os.trans h.os,k.tape.trans h.tape,k.output.trans h.output,Nat.le_trans h.size k.size,k.floor.trans h.floor,λx hx=>k.sub x (h.sub x hx),
  λx hx=>(k.new x hx).elim (h.new x) (λhs=>.inr (Nat.le_trans h.size hs)),
  λi hi hx hv=>(k.block i (Nat.lt_of_lt_of_le hi h.size) hx (by
   rcases hv with hv|hv
   ·exact .inl (by rw [h.floor];exact hv)
   ·exact .inr (λhb=>(h.new i hb).elim hv (λhs=>om)))).trans (h.block i hi hx hv),
  λi hi=>(k.shape i (Nat.lt_of_lt_of_le hi h.size)).trans (h.shape i hi)⟩
theorem Ext.mono{Y:Nat→Prop}{a b:TW}(h:Ext X a b)(hx:∀k,k<a.w.heap.size→X k→Y k):Ext Y a b:=
 ⟨h.os,h.tape,h.output,h.size,h.floor,h.sub,h.new,λk hk hy=>h.block k hk (λhX=>hy (hx k hk hX)),h.shape⟩
theorem Ext.any{a b:TW}(h:Ext aa a b):Ext X a b:=h.mono λ_ _ h=>h.elim
theorem oz(w:World)(o:Obj)(k:Nat)(hk:k<w.heap.size):(w.alloc o).shape? k=w.shape? k:=by
 unfold World.shape?;rw [Below.heap_alloc w o k hk]
theorem New.ext{e:TypeId}(h:New w b cs e w')(X:Nat→Prop):Ext X w w':=by
 obtain⟨rfl,h2,h3,h4⟩:=h;refine⟨by rw [h2];rfl,by rw [h2];rfl,by rw [h2];rfl,by rw [h2];simp,h4,λx hx=>by rw [h3];exact hx,λx hx=>by rw [h3] at hx;exact .inl hx,λk hk _ _=>by rw [h2];exact Below.heap_alloc w.w _ k hk,λk hk=>by rw [h2];exact oz _ _ _ hk⟩
theorem New.heap{e:TypeId}(h:New w b cs e w'):w'.w.heap[b]?=some (.cells cs.toArray e (0,0)):=by
 obtain⟨rfl,h2,_,_⟩:=h;rw [h2];exact heap_alloc_new w.w _
theorem Env.get_cons(k:Nat)(x:SV)(e:Env)(t:Nat):Env.get ((k,x)::e) t=if k=t then some x else e.get t:=by
 by_cases h:k=t
 ·subst h;simp [Env.get]
 ·have hb:Nat.beq k t=false:=by
   cases hb:Nat.beq k t with
   | true=>exact absurd (Nat.eq_of_beq_eq_true hb) h
   | false=>rfl
  rw [if_neg h];conv=>lhs;unfold Env.get
  simp [hb]
theorem qj{a:Nat}(h:Nat.beq a b=false):a≠b:=λe=>by subst e;simp at h
theorem nat?_mem{α:Type}{l:List (Nat × α)}{x:α}(h:nat? l t=some x):(t,x)∈l:=by
 induction l with
 | nil=>cases h
 | cons y l ih=>
  obtain⟨k,z⟩:=y;unfold nat? at h;cases hb:Nat.beq k t with
  | true=>rw [hb] at h;injection h with h;subst h;rw [Nat.eq_of_beq_eq_true hb];exact .head _
  | false=>rw [hb] at h;exact .tail _ (ih h)
theorem nE{l:List Nat}:pq l t=true↔t∈l:=by
 induction l with
 | nil=>simp [pq]
 | cons k l ih=>
  unfold pq;cases hb:Nat.beq k t with
  | true=>simp [Nat.eq_of_beq_eq_true hb]
  | false=>have:=qj hb;simp [ih,Ne.symm this]
def nT(N:Nat):List (Nat × Nat)→Bool
 | []=>true
 | (h,n)::l=>Nat.ble N h&&l.all (λx=>Nat.ble (h+n) x.1 || Nat.ble (x.1+x.2) h)&&nT N l
structure aW (D:Dc) (β:Nat→Option Nat) (e:Env) (a:Act) (w:TW):Prop where
 defers:a.defers=[]
 size:a.tmps.size=D.N
 le:w.B≤w.w.heap.size
 val:∀t v,t<D.N→e.get t=some (.v v)→a.tmps[t]?=some v
 ptr:∀t h off,e.get t=some (.p h off)→∃b,β h=some b∧(t<D.N→a.tmps[t]?=some (.pointer (some ⟨b,off,none⟩)))
 cell:∀h b,β h=some b→∃n cs T,nat? D.vb h=some n∧w.w.heap[b]?=some (.cells cs T (0,0))∧(w.V b∧w.B≤b)∧cs.size=n∧∀i v,i<n→e.get (h+i)=some (.v v)→cs[i]?=some v
 inj:∀h h' b,β h=some b→β h'=some b→h=h'
def SVR(β:Nat→Option Nat):SV→Value→Prop
 | .v u,v=>v=u
 | .p h off,v=>∃b,β h=some b∧v=.pointer (some ⟨b,off,none⟩)
 | .q,_=>True
theorem aW.lt(h:aW D β e a w){k:Nat}(hk:β k=some b):b<w.w.heap.size:=by
 obtain⟨n,cs,T,_,h2,_⟩:=h.cell k b hk;exact (Array.getElem?_eq_some_iff.1 h2).1
theorem aW.world(h:aW D β e a w)(hw:∀k b,β k=some b→w'.w.heap[b]?=w.w.heap[b]?)(hs:w.w.heap.size≤w'.w.heap.size)(hV:∀b,w.V b→w'.V b)(hB:w'.B=w.B):aW D β e a w':=
 ⟨h.defers,h.size,by rw [hB];exact Nat.le_trans h.le hs,h.val,h.ptr,λk b hk=>by
  obtain⟨n,cs,T,h1,h2,h3,h4⟩:=h.cell k b hk;exact⟨n,cs,T,h1,(hw k b hk).trans h2,⟨hV b h3.1,by rw [hB];exact h3.2⟩,h4⟩,h.inj⟩
theorem aW.put(h:aW D β e a w){d:Nat}(hd:d<D.N)(hv:∀k n,nat? D.vb k=some n→D.N≤k){x:SV}(hx:SVR β x v):aW D β ((d,x)::e) (a.put (some d) v) w:=by
 refine⟨h.defers,by simp [Act.put,h.size],h.le,?_,?_,?_,h.inj⟩
 ·intro t u ht hu;rw [Env.get_cons] at hu;by_cases hdt:d=t
  ·subst hdt;simp at hu;subst hu;simp only [SVR] at hx;subst hx;simp [Act.put,h.size,hd]
  ·rw [if_neg hdt] at hu;simp [Act.put,Array.getElem?_setIfInBounds_ne hdt,h.val t u ht hu]
 ·intro t k off hu;rw [Env.get_cons] at hu;by_cases hdt:d=t
  ·subst hdt;simp at hu;subst hu;obtain⟨b,hb,rfl⟩:=hx;exact⟨b,hb,λ_=>by simp [Act.put,h.size,hd]⟩
  ·rw [if_neg hdt] at hu;obtain⟨b,hb,hp⟩:=h.ptr t k off hu;exact⟨b,hb,λht=>by simp [Act.put,Array.getElem?_setIfInBounds_ne hdt,hp ht]⟩
 ·intro k b hk;obtain⟨n,cs,T,h1,h2,h3,h4,h5⟩:=h.cell k b hk;refine⟨n,cs,T,h1,h2,h3,h4,λi v hi hv'=>h5 i v hi ?_⟩;rw [Env.get_cons,if_neg (by have:=hv k n h1;omega)] at hv';exact hv'
theorem aW.know(h:aW D β e a w)(ht:e.get t=some (.v v)):aW D β ((t,.v v)::e) a w:=by
 refine⟨h.defers,h.size,h.le,?_,?_,?_,h.inj⟩
 ·intro s u hs hu;rw [Env.get_cons] at hu;by_cases hst:t=s
  ·subst hst;simp at hu;subst hu;exact h.val t v hs ht
  ·rw [if_neg hst] at hu;exact h.val s u hs hu
 ·intro s k off hu;rw [Env.get_cons] at hu;by_cases hst:t=s
  ·subst hst;simp at hu
  ·rw [if_neg hst] at hu;exact h.ptr s k off hu
 ·intro k b hk;obtain⟨n,cs,T,h1,h2,h3,h4,h5⟩:=h.cell k b hk;refine⟨n,cs,T,h1,h2,h3,h4,λi u hi hu=>?_⟩;rw [Env.get_cons] at hu;by_cases hst:t=k+i
  ·subst hst;simp at hu;subst hu;exact h5 i v hi ht
  ·rw [if_neg hst] at hu;exact h5 i u hi hu
theorem dh{w:TW}(h:aW D β e a w){s:SV}(hs:ev D e x=some s):SVR β s (a.eval x):=by
 cases x with
 | tmp t=>
  simp only [ev] at hs;cases hb:Nat.blt t D.N with
  | false=>rw [hb] at hs;cases hs
  | true=>
   rw [hb] at hs;have ht:t<D.N:=by simpa [Nat.blt_eq] using hb
   cases s with
   | v v=>
    have:=h.val t v ht hs;simp [SVR,Act.eval,this]
   | p k off=>
    obtain⟨b,hb,hp⟩:=h.ptr t k off hs;exact⟨b,hb,by simp [Act.eval,hp ht]⟩
   | q=>trivial
 | const v=>simp only [ev] at hs;injection hs with hs;subst hs;rfl
 | func f=>simp only [ev] at hs;injection hs with hs;subst hs;rfl
 | global g=>simp only [ev] at hs;injection hs with hs;subst hs;rfl
theorem am{w:TW}(h:aW D β e a w)(hs:evv D e x=some v):a.eval x=v:=by
 unfold evv at hs;split at hs
 ·rename_i u hu;injection hs with hs;subst hs;exact dh h hu
 ·cases hs
theorem iG{β:Nat→Option Nat}{e:Env}{a:Act}{w:TW}(h:aW D β e a w):∀{xs:List Operand} {vs:List Value},mL D e xs=some vs→xs.map a.eval=vs
 | [],vs,hs=>by simp [mL] at hs;simp [hs]
 | x::xs,vs,hs=>by
  unfold mL at hs;split at hs
  ·rename_i v us hv hus;injection hs with hs;subst hs;simp [am h hv,iG h hus]
  ·cases hs
end
end
section
variable {op:BinOp} {x y:Value} {K:Value→Prop} {e t xt:TypeId}
section
variable {P:Program} {D:Dc}
def Yld(P:Program)(a:Act)(o:Oper)(v:Value):Prop:=∀w,(execOp a.eval o).run P w=.ok (.value v) w
theorem wC{k k':IntKind}{x y:Int}(h:yj op k k' x y K)(xt:TypeId)(p q:Operand):
  ∃v,K v∧∀w,(do eqGuard op xt p q (.int k x) (.int k' y);binOp op xt (.int k x) (.int k' y):Sem Value).run P w=.ok v w:=by
 cases op<;>simp only [yj] at h;case shl=>exact⟨_,h.2,λw=>by simp [eqGuard,binOp,Op.shift,Int.not_lt.2 h.1]⟩
 case shr=>exact⟨_,h.2,λw=>by simp [eqGuard,binOp,Op.shift,Int.not_lt.2 h.1]⟩
 all_goals
  split at h;case isFalse=>exact h.elim
  rename_i hk;subst hk
 case quo=>exact⟨_,h.2,λw=>by simp [eqGuard,binOp,Op.intDiv,h.1]⟩
 case rem=>exact⟨_,h.2,λw=>by simp [eqGuard,binOp,Op.intDiv,h.1]⟩
 all_goals exact⟨_,h,λw=>by simp [eqGuard,binOp,Op.intArith,Op.intBits,Op.intCmp,bg]⟩
theorem vO(d:Nat)(ht:P.underlying xt=some .bool)(a b:Bool)(w:World):(Op.equalIn (d+1) xt (.bool a) (.bool b)).run P w=.ok (a == b) w:=by
 simp [Op.equalIn,run_underlying ht]
theorem wF(d:Nat)(ht:P.underlying xt=some (.pointer e))(a:Option Addr)(w:World):(Op.equalIn (d+1) xt (.pointer a) (.pointer none)).run P w=.ok a.isNone w:=by
 cases a<;>simp [Op.equalIn,run_underlying ht]
theorem uw(d:Nat)(ht:P.underlying xt=some (.slice e))(a:Option Addr)(n c n' c':Nat)(w:World):(Op.equalIn (d+1) xt (.slice a n c) (.slice none n' c')).run P w=.ok a.isNone w:=by
 cases a<;>simp [Op.equalIn,run_underlying ht]
theorem oZ{r:Bool}(h:∀d w,(Op.equalIn (d+1) xt x y).run P w=.ok r w)(hb:∀p q,eqGuard .eql xt p q x y=pure ()∧eqGuard .neq xt p q x y=pure ())(he:binOp .eql xt x y=(do pure (.bool (←Op.equal xt x y))))(hn:binOp .neq xt x y=(do pure (.bool (!(←Op.equal xt x y)))))(p q:Operand)(w:World):
  (do eqGuard .eql xt p q x y;binOp .eql xt x y:Sem Value).run P w=.ok (.bool r) w∧(do eqGuard .neq xt p q x y;binOp .neq xt x y:Sem Value).run P w=.ok (.bool (!r)) w:=by
 have h9:(Op.equal xt x y).run P w=.ok r w:=h 9999 w;rw [(hb p q).1,(hb p q).2,he,hn];constructor<;>simp [h9]
theorem aav(h:bop P op xt x y K)(p q:Operand):
  ∃v,K v∧∀w,(do eqGuard op xt p q x y;binOp op xt x y:Sem Value).run P w=.ok v w:=by
 unfold bop at h;split at h
 ·exact wC h xt p q
 ·split at h
  ·rename_i a b _ ht;have hr:=oZ (P:=P) (r:=(a == b)) (λd w=>vO d ht a b w) (λ_ _=>⟨rfl,rfl⟩) rfl rfl p q;cases op<;>simp only at h;case eql=>exact⟨_,h,λw=>(hr w).1⟩
   case neq=>exact⟨_,h,λw=>(hr w).2⟩
  ·exact h.elim
 ·split at h
  ·rename_i a _ _ ht;have hr:=oZ (P:=P) (r:=a.isNone) (λd w=>wF d ht a w) (λ_ _=>⟨rfl,rfl⟩) rfl rfl p q;cases op<;>simp only at h;case eql=>exact⟨_,h,λw=>(hr w).1⟩
   case neq=>exact⟨_,h,λw=>(hr w).2⟩
  ·exact h.elim
 ·split at h
  ·rename_i a n c n' c' _ _ ht;have hr:=oZ (P:=P) (r:=a.isNone) (λd w=>uw d ht a n c n' c' w) (λ_ _=>⟨rfl,rfl⟩) rfl rfl p q;cases op<;>simp only at h;case eql=>exact⟨_,h,λw=>(hr w).1⟩
   case neq=>exact⟨_,h,λw=>(hr w).2⟩
  ·exact h.elim
 ·exact h.elim
theorem yO{op:UnOp}(h:uop op x K):∃v,K v∧∀w,(Op.unary op x).run P w=.ok v w:=by
 unfold uop at h;split at h
 ·exact⟨_,h,λw=>by simp [Op.unary,Op.intArith]⟩
 ·exact⟨_,h,λw=>by simp [Op.unary,Op.intBits,bg]⟩
 ·exact⟨_,h,λw=>by simp [Op.unary]⟩
 ·exact h.elim
theorem bI{n:Nat}(h:iC P t=some n)(w:World):(sizeOf t).run P w=.ok n w:=by
 unfold iC at h;split at h
 ·rename_i i hi;injection h with h;subst h;simp [sizeOf,typeInfo,hi]
 ·cases h
theorem nW(t:TypeId)(d:TypeDesc)(h:P.underlying t=some d)(w:World):(isAgg t).run P w=.ok (nX P t) w:=by
 unfold isAgg nX;rw [h];cases d<;>simp [run_underlying h]
theorem qr{cs:Array Value}{off:Nat}{v:Value}(h:prt P t cs.toList off=some v)(w:World):(part t cs off).run P w=.ok v w:=by
 unfold prt at h;split at h
 ·cases h
 rename_i d hd;cases hg:nX P t with
 | true=>
  rw [hg] at h;simp only at h;split at h
  ·rename_i n hn;injection h with h;subst h
   have e:(List.take n (List.drop off cs.toList)).toArray=cs.extract off (off+n):=by
    apply Array.ext';simp [Array.toList_extract,List.extract_eq_take_drop]
   simp [part,nW t d hd,hg,bI hn,e]
  ·cases h
 | false=>
  rw [hg] at h;simp only at h;have h':cs[off]?=some v:=by simpa using h
  simp [part,nW t d hd,hg,h']
theorem rj{big:Bool}:∀{vs:List Value} {x v:Value},mm big x vs=some v→∀w,(vs.foldlM (if big then Builtin.max2 else Builtin.min2) x).run P w=.ok v w
 | [],x,v,h,w=>by
  cases x<;>simp [mm] at h;subst h;rfl
 | y::vs,x,v,h,w=>by
  cases x<;>cases y<;>simp [mm] at h;have:=rj h w;cases big<;>simp [Builtin.max2,Builtin.min2] at this ⊢<;>exact this
theorem mM{β:Nat→Option Nat}{e:Env}{a:Act}{w:TW}(h:aW D β e a w):∀{xs:List (Nat × Operand)} {vs:List (Nat × Value)},mW D e xs=some vs→xs.map (λx=>(x.1,a.eval x.2))=vs
 | [],vs,hs=>by simp [mW] at hs;simp [hs]
 | (i,x)::xs,vs,hs=>by
  unfold mW at hs;split at hs
  ·rename_i v us hv hus;injection hs with hs;subst hs;simp [am h hv,mM h hus]
  ·cases hs
theorem qM:∀(vs:List Value) (off:Nat) (cs:Array Value) (k:Nat),((vs.zipIdx k).foldl (λcs (x:Value × Nat)=>cs.setIfInBounds (off+x.2) x.1) cs).toList=rR cs.toList (off+k) vs
 | [],off,cs,k=>by simp [rR]
 | v::vs,off,cs,k=>by
  simp only [List.zipIdx_cons,List.foldl_cons,rR];rw [qM vs off _ (k+1)];simp [Nat.add_assoc]
theorem mz{pl pl':Nat→Option (Nat × Nat)}(hp:∀i x,pl i=some x→pl' i=some x):∀{ps:List (Nat × Value)} {cs:List Value} {r:List Value} {ca:Array Value},ca.toList=cs→oe pl cs ps=some r→∃ra,Instr.fill pl' ca ps=some ra∧ra.toList=r
 | [],cs,r,ca,hc,h=>by simp [oe] at h;exact⟨ca,rfl,hc.trans h⟩
 | (i,v)::ps,cs,r,ca,hc,h=>by
  unfold oe at h;split at h
  ·cases h
  ·rename_i off size hpl;split at h
   ·rename_i hb;simp only [Bool.and_eq_true] at hb;have h1:v.cells.size=size:=by simpa using Nat.eq_of_beq_eq_true hb.1
    have h2:off+v.cells.size≤ca.size:=by
     have:=Nat.le_of_ble_eq_true hb.2;simpa [←hc] using this
    obtain⟨ra,hr1,hr2⟩:=mz hp (ca:=v.cells.zipIdx.foldl (λcs (x:Value × Nat)=>cs.setIfInBounds (off+x.2) x.1) ca) (by
     rw [←Array.foldl_toList,Array.toList_zipIdx,qM,hc];rfl) h
    refine⟨ra,?_,hr2⟩;unfold Instr.fill;rw [hp _ _ hpl];simp only [h1,ne_eq,not_true_eq_false,decide_false,Bool.false_or];rw [if_neg (by simp;omega)];exact hr1
   ·cases h
theorem tA{z:List Value}(h:kO P t=some z):∃v,(∀w,(zeroValue t).run P w=.ok v w)∧v.cells.toList=z:=by
 unfold kO at h;split at h
 ·rename_i i hi;split at h
  ·rename_i v hv;injection h with h;exact⟨v,λw=>by simp [zeroValue,typeInfo,hi,hv],h⟩
  ·cases h
 ·cases h
theorem pW:∀{fs:List Field} {l:List (Nat × Nat)},nw P fs=some l→∀w,(List.mapM (λf=>Prod.mk f.offset <$> sizeOf f.type:Field→Sem (Nat × Nat)) fs).run P w=.ok l w
 | [],l,h,w=>by simp [nw] at h;subst h;rfl
 | f::fs,l,h,w=>by
  unfold nw at h;split at h
  ·rename_i n l' hn hl;injection h with h;subst h;simp [List.mapM_cons,bI hn,pW hl w]
  ·cases h
theorem aaw{ps:List (Nat × Value)}{cs:List Value}(h:bld P t ps=some cs)(w:World):(Instr.build t ps.toArray).run P w=.ok (.agg cs.toArray) w:=by
 unfold bld at h;split at h
 ·cases h
 ·rename_i z hz;obtain⟨zv,hzr,hzc⟩:=tA hz;split at h
  ·rename_i fs hfs;split at h
   ·rename_i pl hpl;obtain⟨ra,hr1,hr2⟩:=mz (pl':=(pl.toArray[·]?)) (λi x hx=>by simpa using hx) hzc h
    have hm:(fs.mapM (λf=>do pure (f.offset,←sizeOf f.type):Field→Sem (Nat × Nat))).run P w=.ok pl.toArray w:=by
     have:=pW hpl w;rw [Array.mapM_eq_mapM_toList];simp [this]
    simp only [Instr.build,Sem.run_bind,hzr,Result.andThen_ok,run_underlying hfs,hm];rw [hr1,←hr2];simp
   ·cases h
  ·rename_i n e he;split at h
   ·rename_i sz hsz;obtain⟨ra,hr1,hr2⟩:=mz (pl':=λi=>some (i*sz,sz)) (λi x hx=>hx) hzc h;simp only [Instr.build,Sem.run_bind,hzr,Result.andThen_ok,run_underlying he,bI hsz];rw [hr1,←hr2];simp
   ·cases h
  ·cases h
theorem acO{el:TypeId}{s:Sl}{sz:Nat}(ht:P.underlying t=some (.slice el))(hs:iC P el=some sz){lo hi:Int}{l h:Option Value}(hl:(l=none∧lo=0)∨∃k,l=some (.int k lo))(hh:(h=none∧hi=s.n)∨∃k,h=some (.int k hi))(h1:0≤lo)(h2:lo≤hi)(h3:hi≤s.c)(w:World):(Instr.sliceAt t s.v l h none).run P w=.ok (s.cut lo.toNat hi.toNat sz).v w:=by
 have e:(s.cut lo.toNat hi.toNat sz).v=.slice (if s.c=lo.toNat then s.p else s.p.map (·.add (lo.toNat*sz))) (hi.toNat-lo.toNat) (s.c-lo.toNat):=rfl;rw [e];rcases hl with ⟨rfl,rfl⟩|⟨k,rfl⟩<;>rcases hh with ⟨rfl,rfl⟩|⟨k',rfl⟩
 ·simp [Instr.sliceAt,Instr.slice,run_underlying ht,Instr.sliceBounds,bI hs]
 ·simp [Instr.sliceAt,Instr.slice,run_underlying ht,Instr.sliceBounds,Instr.sliceBound,asIntOf,bI hs,h2,h3]
 ·have h4:lo≤(s.n:Int):=h2;simp [Instr.sliceAt,Instr.slice,run_underlying ht,Instr.sliceBounds,Instr.sliceBound,asIntOf,bI hs,h1,h4]
 ·obtain⟨x,rfl⟩:=Int.eq_ofNat_of_zero_le h1;obtain⟨y,rfl⟩:=Int.eq_ofNat_of_zero_le (Int.le_trans h1 h2);have h4:x≤y:=om;have h5:y≤s.c:=om;simp [Instr.sliceAt,Instr.slice,run_underlying ht,Instr.sliceBounds,Instr.sliceBound,asIntOf,bI hs,h4,h5]
end
end
section
variable {t:TypeId} {cs:List Value} {j:Nat}
section
variable {P:Program} {D:Dc}
theorem acl{c:CK}{x:CV c}(hvt:mI P t=some (.one c))(h:cs[j]?=some (CV.enc c x)):prt P t cs j=some (CV.enc c x):=by
 have h1:∃d,P.underlying t=some d∧nX P t=false:=by
  unfold mI at hvt;unfold nX;split at hvt
  ·split at hvt<;>simp at hvt
  ·split at hvt<;>simp at hvt
  ·rename_i d hd1 hd2 hd;refine⟨d,hd,?_⟩;rw [hd];split
   ·rename_i h;exact absurd (Option.some.inj h) (hd1 _)
   ·rename_i h;exact absurd (Option.some.inj h) (hd2 _ _)
   ·rfl
  ·simp at hvt
 obtain⟨d,hd,ha⟩:=h1;simp only [prt,hd,ha,h]
theorem sl{cs:List Value}{j:Nat}:∀{cks:List CK} {o:Nat} {K:List Value→Prop},abe cs j o cks K→∃vs,K vs∧vs.length=cks.length∧∀k,k<vs.length→cs[j+o+k]?=vs[k]?
 | [],o,K,h=>⟨[],h,rfl,λk hk=>by simp at hk⟩
 | c::r,o,K,⟨x,hx,h⟩=>by
  obtain⟨vs,hK,hl,hv⟩:=sl h;refine⟨_,hK,by simp [hl],λk hk=>?_⟩;cases k with
  | zero=>simpa using hx
  | succ k=>
   have:=hv k (by simpa using hk);rw [List.getElem?_cons_succ,←this];congr 1;omega
theorem acm{n:Nat}{cks:List CK}{vs:List Value}(hvt:mI P t=some (.agg cks))(hsz:iC P t=some n)(hn:n=cks.length)(h:vs.length=cks.length∧∀k,k<vs.length→cs[j+0+k]?=vs[k]?):prt P t cs j=some (.agg vs.toArray):=by
 have h1:∃d,P.underlying t=some d∧nX P t=true:=by
  unfold mI at hvt;unfold nX;split at hvt
  ·rename_i d;exact⟨_,d,by rw [d]⟩
  ·rename_i d;exact⟨_,d,by rw [d]⟩
  ·rename_i d hd1 hd2 hd;split at hvt<;>simp at hvt
  ·simp at hvt
 obtain⟨d,hd,ha⟩:=h1
 have e:(cs.drop j).take n=vs:=by
  refine List.ext_getElem? λk=>?_
  rw [List.getElem?_take];split
  ·rename_i hk;rw [List.getElem?_drop];have:=h.2 k om;simpa using this
  ·rw [List.getElem?_eq_none om]
 simp only [prt,hd,ha,hsz,e]
theorem tN{β:Nat→Option Nat}{e:Env}{a:Act}{w:TW}(hA:aW D β e a w){o:Oper}{K:SV→Prop}(h:pop P D o e K):∃s v,K s∧SVR β s v∧Yld P a o v:=by
 obtain⟨dst,op,type,pos,after,guard⟩:=o;cases op
 case move x=>
  simp only [pop] at h;split at h
  ·rename_i s hs;exact⟨s,_,h,dh hA hs,λw=>by simp [execOp]⟩
  ·exact h.elim
 case assign x=>
  simp only [pop] at h;split at h
  ·rename_i s hs;exact⟨s,_,h,dh hA hs,λw=>by simp [execOp]⟩
  ·exact h.elim
 case pick c x y=>
  simp only [pop] at h;split at h
  ·rename_i b hb;have hc:=am hA hb;cases b with
   | true=>
    simp only [cond_true] at h;split at h
    ·rename_i s hs;exact⟨s,_,h,dh hA hs,λw=>by simp [execOp,hc,asBool]⟩
    ·exact h.elim
   | false=>
    simp only [cond_false] at h;split at h
    ·rename_i s hs;exact⟨s,_,h,dh hA hs,λw=>by simp [execOp,hc,asBool]⟩
    ·exact h.elim
  ·exact h.elim
 case nilCheck x=>
  simp only [pop] at h;split at h
  ·rename_i p hp;have hv:=dh hA hp;simp only [SVR] at hv;cases p with
   | none=>exact h.elim
   | some q=>exact⟨_,_,h,rfl,λw=>by simp [execOp,hv]⟩
  ·rename_i k off hp;have hv:=dh hA hp;obtain⟨b,hb,hv⟩:=hv;exact⟨_,_,h,⟨b,hb,hv⟩,λw=>by simp [execOp,hv]⟩
  ·exact h.elim
 case binOp op xt x y yt=>
  simp only [pop] at h;split at h
  ·rename_i u v hu hv;obtain⟨r,hK,hr⟩:=aav h x y;refine⟨_,_,hK,rfl,λw=>?_⟩;have:=hr w;simp only [execOp,am hA hu,am hA hv,Sem.run_bind] at this ⊢;rw [this];simp
  ·exact h.elim
 case unOp op xt x=>
  simp only [pop] at h;split at h
  ·rename_i u hu;obtain⟨r,hK,hr⟩:=yO (P:=P) h;exact⟨_,_,hK,rfl,λw=>by simp [execOp,am hA hu,hr w]⟩
  ·exact h.elim
 case convert src dst' x=>
  simp only [pop] at h;split at h
  ·rename_i d k k' n hd hk hx;exact⟨_,_,h,rfl,λw=>by simp [execOp,am hA hx,convert,run_underlying hd,run_underlying hk,Conv.intToInt]⟩
  ·exact h.elim
 case fieldAddr st x f=>
  simp only [pop] at h;split at h
  ·rename_i fs hfs;split at h
   ·rename_i fd hfd;split at h
    ·rename_i n hn;split at h
     ·rename_i ad had;have hv:=dh hA had;simp only [SVR] at hv;refine⟨_,_,h,rfl,λw=>?_⟩;simp [execOp,hv,Instr.fieldAt,run_underlying hfs,hfd,Instr.sureAddr,fieldPlace,bI hn]
     ·rename_i k off had;obtain⟨b,hb,hv⟩:=dh hA had;refine⟨_,_,h,⟨b,hb,rfl⟩,λw=>?_⟩;simp only [execOp,hv,Instr.fieldAt,run_underlying hfs,hfd,Instr.sureAddr,fieldPlace,bI hn,Sem.run_bind,Sem.run_pure,Result.andThen_ok,Addr.add];by_cases h0:fd.offset=0<;>simp [h0]
     ·exact h.elim
    ·exact h.elim
   ·exact h.elim
  ·exact h.elim
 case indexAddr t x i=>
  simp only [pop] at h;split at h
  ·rename_i el k n ht hn;split at h
   ·rename_i sz p l c hsz hx;obtain⟨b,hp,h1,h2,hK⟩:=h;simp only at hp h2;subst hp;exact⟨_,_,hK,rfl,λw=>by simp [execOp,am hA hx,am hA hn,Instr.indexAt,asIntOf,run_underlying ht,h1,h2,bI hsz]⟩
   ·exact h.elim
  ·rename_i len el k n ht hn;split at h
   ·rename_i sz ad hsz hx;have hv:=dh hA hx;simp only [SVR] at hv;obtain⟨h1,h2,hK⟩:=h;exact⟨_,_,hK,rfl,λw=>by simp [execOp,hv,am hA hn,Instr.indexAt,asIntOf,run_underlying ht,Instr.sureAddr,h1,h2,bI hsz]⟩
   ·rename_i sz k' off hsz hx;obtain⟨b,hb,hv⟩:=dh hA hx;split at h
    ·rename_i m;split at h
     ·rename_i hm;have hm':m<len:=by simpa [Nat.blt_eq] using hm
      refine⟨_,_,h,⟨b,hb,rfl⟩,λw=>?_⟩;have h1:(Int.ofNat m)<(len:Int):=by simpa using hm'
      simp only [execOp,hv,am hA hn,Instr.indexAt,asIntOf,run_underlying ht,Instr.sureAddr,Sem.run_bind,Sem.run_pure,Result.andThen_ok];rw [if_pos ⟨smp,h1⟩];simp only [bI hsz,Sem.run_bind,Sem.run_pure,Result.andThen_ok,Addr.add];by_cases h0:m*sz=0
      ·simp;try (rcases Nat.mul_eq_zero.1 h0 with h0|h0<;>simp [h0])
      ·have h0':¬(Int.ofNat m).toNat*sz=0:=h0;rw [if_neg h0'];simp
     ·exact h.elim
    ·exact h.elim
   ·exact h.elim
  ·exact h.elim
 case field t x f=>
  simp only [pop] at h;split at h
  ·rename_i fs cs ht hx;split at h
   ·rename_i fd hfd;split at h
    ·rename_i v hv;exact⟨_,_,h,rfl,λw=>by simp [execOp,am hA hx,Instr.field,run_underlying ht,hfd,asAgg,qr hv]⟩
    ·exact h.elim
   ·exact h.elim
  ·exact h.elim
 case index t x i=>
  simp only [pop] at h;split at h
  ·rename_i len el cs k n ht hx hi;split at h
   ·rename_i sz _ hsz _;split at h
    ·rename_i m;split at h
     ·rename_i hm;have hm':m<len:=by simpa [Nat.blt_eq] using hm
      split at h
      ·rename_i v hv;have h1:(Int.ofNat m)<(len:Int):=by simpa using hm'
       refine⟨_,_,h,rfl,λw=>?_⟩;simp only [execOp,am hA hx,am hA hi,Instr.index,asIntOf,run_underlying ht,Sem.run_bind,Sem.run_pure,Result.andThen_ok];rw [if_pos ⟨smp,h1⟩];simp [bI hsz,qr hv]
      ·exact h.elim
     ·exact h.elim
    ·exact h.elim
   ·rename_i sz _ hsz _;split at h
    ·rename_i c hvt;obtain⟨h0,h1,y,hy,hK⟩:=h;refine⟨_,_,hK,rfl,λw=>?_⟩;simp only [execOp,am hA hx,am hA hi,Instr.index,asIntOf,run_underlying ht,Sem.run_bind,Sem.run_pure,Result.andThen_ok];rw [if_pos ⟨h0,h1⟩];simp [bI hsz,qr (acl hvt hy)]
    ·rename_i cks hvt;split at h
     ·rename_i hb;obtain⟨h0,h1,h2⟩:=h;obtain⟨vs,hK,hv⟩:=sl h2;refine⟨_,_,hK,rfl,λw=>?_⟩;simp only [execOp,am hA hx,am hA hi,Instr.index,asIntOf,run_underlying ht,Sem.run_bind,Sem.run_pure,Result.andThen_ok];rw [if_pos ⟨h0,h1⟩];have hb:=Nat.eq_of_beq_eq_true hb;simp [bI hsz,qr (acm hvt hsz hb hv)]
     ·exact h.elim
    ·exact h.elim
   ·exact h.elim
  ·rename_i s k n ht hx hi;obtain⟨⟨h1,h2⟩,hK⟩:=h;refine⟨_,_,hK,rfl,λw=>?_⟩;simp [execOp,am hA hx,am hA hi,Instr.index,asIntOf,run_underlying ht,h1,h2]
  ·exact h.elim
 case extract t i=>
  simp only [pop] at h;split at h
  ·rename_i vs hx;split at h
   ·rename_i v hv;have hv':vs[i]?=some v:=by simpa using hv
    exact⟨_,_,h,rfl,λw=>by simp [execOp,am hA hx,Instr.extract,hv']⟩
   ·exact h.elim
  ·exact h.elim
 case slice t x lo hi mx=>
  simp only [pop] at h;split at h
  ·rename_i el p l c ht hx;split at h
   ·rename_i sz hsz;have hxv:=am hA hx
    have key:∀{L H:Int} {lv hv:Option Value},((lv=none∧L=0)∨∃k,lv=some (.int k L))→((hv=none∧H=l)∨∃k,hv=some (.int k H))→lo.map a.eval=lv→hi.map a.eval=hv→
      slc ⟨p,l,c⟩ L H sz (λs=>K (.v s.v))→∃s v,K s∧SVR β s v∧Yld P a { dst,op:=.slice t x lo hi none,type,pos,after,guard } v:=by
     intro L H lv hv h1 h2 h3 h4 ⟨h5,h6,h7,hK⟩;refine⟨_,_,hK,rfl,λw=>?_⟩;simp [execOp,hxv,h3,h4,acO (s:=⟨p,l,c⟩) ht hsz h1 h2 h5 h6 h7 w]
    split at h
    ·exact key (.inl ⟨rfl,rfl⟩) (.inl ⟨rfl,rfl⟩) rfl rfl h
    ·split at h
     ·rename_i hv;exact key (.inr ⟨_,congrArg some (am hA hv)⟩) (.inl ⟨rfl,rfl⟩) rfl rfl h
     ·exact h.elim
    ·split at h
     ·rename_i hv;exact key (.inl ⟨rfl,rfl⟩) (.inr ⟨_,congrArg some (am hA hv)⟩) rfl rfl h
     ·exact h.elim
    ·split at h
     ·rename_i hv hv';exact key (.inr ⟨_,congrArg some (am hA hv)⟩) (.inr ⟨_,congrArg some (am hA hv')⟩) rfl rfl h
     ·exact h.elim
   ·exact h.elim
  ·exact h.elim
 case makeFunc fn first captured=>
  simp only [pop] at h;split at h
  ·rename_i x y hx hy;have h1:first.map a.eval=x.toArray:=by rw [←iG hA hx,←Array.toList_map]
   have h2:captured.map a.eval=y.toArray:=by rw [←iG hA hy,←Array.toList_map]
   exact⟨_,_,h,rfl,λw=>by simp [execOp,Instr.makeFunc,h1,h2]⟩
  ·exact h.elim
 case build t parts=>
  simp only [pop] at h;split at h
  ·rename_i ps hps;split at h
   ·rename_i cs hcs;have h1:parts.map (λx=>(x.1,a.eval x.2))=ps.toArray:=by rw [←mM hA hps,←Array.toList_map]
    exact⟨_,_,h,rfl,λw=>by simp [execOp,h1,aaw hcs w]⟩
   ·exact h.elim
  ·exact h.elim
 case call c=>
  obtain⟨callee,args,argTypes⟩:=c;cases callee
  case builtin b=>
   simp only [pop] at h;split at h
   ·rename_i x t hargs htys;obtain rfl:args=#[x]:=by simpa using congrArg List.toArray hargs
    obtain rfl:argTypes=#[t]:=by simpa using congrArg List.toArray htys
    split at h
    ·rename_i el p n c ht hx;exact⟨_,_,h,rfl,λw=>by simp [execOp,resolve,invoke,builtin,Builtin.len_,am hA hx,run_underlying ht,goInt]⟩
    ·rename_i s ht hx;exact⟨_,_,h,rfl,λw=>by simp [execOp,resolve,invoke,builtin,Builtin.len_,am hA hx,run_underlying ht,goInt]⟩
    ·rename_i n el v ht hx;exact⟨_,_,h,rfl,λw=>by simp [execOp,resolve,invoke,builtin,Builtin.len_,am hA hx,run_underlying ht,goInt]⟩
    ·exact h.elim
   ·rename_i x t hargs htys;obtain rfl:args=#[x]:=by simpa using congrArg List.toArray hargs
    obtain rfl:argTypes=#[t]:=by simpa using congrArg List.toArray htys
    split at h
    ·rename_i el p n c ht hx;exact⟨_,_,h,rfl,λw=>by simp [execOp,resolve,invoke,builtin,Builtin.cap_,am hA hx,run_underlying ht,goInt]⟩
    ·exact h.elim
   ·rename_i x xs hargs;obtain rfl:args=(x::xs).toArray:=by simpa using congrArg List.toArray hargs
    split at h
    ·rename_i v vs hv hvs;split at h
     ·rename_i r hr;have:=rj (P:=P) hr;refine⟨_,_,h,rfl,λw=>?_⟩;have h2:=this w;simp only [if_true] at h2;simp [execOp,resolve,invoke,builtin,Builtin.max_,am hA hv,iG hA hvs,h2]
     ·exact h.elim
    ·exact h.elim
   ·rename_i x xs hargs;obtain rfl:args=(x::xs).toArray:=by simpa using congrArg List.toArray hargs
    split at h
    ·rename_i v vs hv hvs;split at h
     ·rename_i r hr;have:=rj (P:=P) hr;refine⟨_,_,h,rfl,λw=>?_⟩;have h2:=this w;simp only [Bool.false_eq_true,if_false] at h2;simp [execOp,resolve,invoke,builtin,Builtin.min_,am hA hv,iG hA hvs,h2]
     ·exact h.elim
    ·exact h.elim
   ·exact h.elim
  all_goals exact h.elim
 all_goals exact h.elim
end
end
section
variable {t:TypeId}
section
variable {P:Program} {D:Dc}
def VC(β:Nat→Option Nat)(w:World)(ks:List (Nat × Nat × Value)):Prop:=∀k∈ks,∃b,β k.1=some b∧w.cell? ⟨b,k.2.1,none⟩=some k.2.2
theorem pL{β:Nat→Option Nat}{w:World}{h b:Nat}(hb:β h=some b):∀{vs:List Value} {off:Nat},VC β w (oa h off vs)↔∀j v,vs[j]?=some v→w.cell? ⟨b,off+j,none⟩=some v
 | [],off=>by simp [oa,VC]
 | v::vs,off=>by
  have ih:=pL (w:=w) hb (vs:=vs) (off:=off+1);simp only [VC] at ih ⊢;simp only [oa,List.mem_cons,forall_eq_or_imp,ih];constructor
  ·rintro⟨⟨b',h1,h2⟩,h3⟩ j u hu;rw [hb] at h1;injection h1 with h1;subst h1;cases j with
   | zero=>simp at hu;subst hu;exact h2
   | succ j=>rw [show off+(j+1)=off+1+j by omega];exact h3 j u (by simpa using hu)
  ·intro hh;refine⟨⟨b,hb,hh 0 v rfl⟩,λj u hu=>?_⟩;rw [show off+1+j=off+(j+1) by omega];exact hh (j+1) u (by simpa using hu)
theorem tC{h:Nat}:∀{vs:List Value} {off:Nat} {k:Nat × Nat × Value},k∈oa h off vs→k.1=h∧off≤k.2.1∧k.2.1<off+vs.length
 | [],off,k,hk=>by simp [oa] at hk
 | v::vs,off,k,hk=>by
  simp only [oa,List.mem_cons] at hk;rcases hk with rfl|hk
  ·simp
  ·obtain⟨h1,h2,h3⟩:=tC hk;simp only [List.length_cons];omega
theorem uJ{c:CK}(h:mI P t=some (.one c))(w:World):(isAgg t).run P w=.ok false w:=by
 unfold mI at h;split at h
 ·split at h<;>simp at h
 ·split at h<;>simp at h
 ·rename_i d h1 h2 hd;rw [nW t d hd];unfold nX;rw [hd];cases d<;>simp at h1 h2<;>first|rfl|(exfalso;first|exact h1 _ hd|exact h2 _ _ hd)
 ·cases h
theorem uK{cs:List CK}(h:mI P t=some (.agg cs))(w:World):(isAgg t).run P w=.ok true w:=by
 unfold mI at h;split at h
 ·rename_i hd;rw [nW t _ hd];unfold nX;rw [hd]
 ·rename_i hd;rw [nW t _ hd];unfold nX;rw [hd]
 ·split at h<;>simp at h
 ·cases h
theorem si{w:TW}{a:Addr}:∀{cs:List CK} {i:Nat} {K:List Value→Prop},aba w a i cs K→∃vs,vs.length=cs.length∧K vs∧∀j v,vs[j]?=some v→w.w.cell? (a.add (i+j))=some v
 | [],i,K,h=>⟨[],rfl,h,smp⟩
 | c::cs,i,K,h=>by
  obtain⟨x,hx,h⟩:=h;obtain⟨vs,hl,hK,hc⟩:=si h;refine⟨CV.enc c x::vs,by simp [hl],hK,λj v hv=>?_⟩;cases j with
  | zero=>simp at hv;subst hv;exact hx
  | succ j=>
   have:=hc j v (by simpa using hv);rw [show i+(j+1)=i+1+j by omega];exact this
theorem pX{a:Addr}:∀{vs:List Value} {i:Nat} {w:World},(∀x∈rZ a i vs,w.cell? x.1=some x.2)↔∀j v,vs[j]?=some v→w.cell? (a.add (i+j))=some v
 | [],i,w=>by simp [rZ]
 | v::vs,i,w=>by
  simp only [rZ,List.mem_cons,forall_eq_or_imp];rw [pX (vs:=vs) (i:=i+1)];constructor
  ·rintro⟨h1,h2⟩ j u hu;cases j with
   | zero=>simp at hu;subst hu;exact h1
   | succ j=>rw [show i+(j+1)=i+1+j by omega];exact h2 j u (by simpa using hu)
  ·intro h;refine⟨h 0 v rfl,λj u hu=>?_⟩;rw [show i+1+j=i+(j+1) by omega];exact h (j+1) u (by simpa using hu)
theorem uc{e:Env}:∀{n k:Nat} {vs:List Value},e.gets k n=some vs→vs.length=n∧∀j v,vs[j]?=some v→e.get (k+j)=some (.v v)
 | 0,k,vs,h=>by simp [Env.gets] at h;subst h;simp
 | n+1,k,vs,h=>by
  unfold Env.gets at h;split at h
  ·rename_i x hx;split at h
   ·rename_i xs hxs;injection h with h;subst h;obtain⟨h1,h2⟩:=uc hxs;refine⟨by simp [h1],λj v hv=>?_⟩;cases j with
    | zero=>simp at hv;subst hv;exact hx
    | succ j=>rw [show k+(j+1)=k+1+j by omega];exact h2 j v (by simpa using hv)
   ·cases h
  ·cases h
theorem rx{h off n:Nat}(hi:inB D h off n=true):∃m,nat? D.vb h=some m∧off+n≤m:=by
 unfold inB at hi;split at hi
 ·rename_i m hm;refine⟨m,hm,?_⟩;split at hi
  ·rename_i h0;have:=Nat.eq_of_beq_eq_true h0;have:=Nat.le_of_ble_eq_true hi;omega
  ·exact Nat.le_of_ble_eq_true hi
 ·cases hi
theorem Addr.add_mk(b o n:Nat):(⟨b,o,none⟩:Addr).add n=⟨b,o+n,none⟩:=by
 unfold Addr.add;split<;>simp_all
theorem qb{β:Nat→Option Nat}{e:Env}{a:Act}{w:TW}(hA:aW D β e a w){o:Oper}{K:SV→List (Addr × Value)→List (Nat × Nat × Value)→Prop}(h:lop P D o e w K):
  ∃s v cs ks,K s cs ks∧SVR β s v∧(∀x∈cs,w.w.cell? x.1=some x.2)∧VC β w.w ks∧(∀k∈ks,k.2.1<(nat? D.vb k.1).getD 0)∧
   ∀w',(∀x∈cs,w'.cell? x.1=some x.2)→VC β w' ks→(execOp a.eval o).run P w'=.ok (.value v) w':=by
 obtain⟨dst,op,type,pos,after,guard⟩:=o;cases op
 case load t x=>
  simp only [lop] at h;split at h
  ·rename_i ad c hx hc;obtain⟨y,hy,hK⟩:=h;have hv:=dh hA hx;simp only [SVR] at hv;refine⟨_,_,_,_,hK,rfl,by simpa using hy,by simp [VC],smp,λw' hcs _=>?_⟩;have:=hcs _ (List.mem_singleton_self _);simp [execOp,Instr.loadAt,hv,Instr.sureAddr,loadVar,uJ hc,this]
  ·rename_i ad cs hx hc;have hv:=dh hA hx;simp only [SVR] at hv;split at h
   ·rename_i n hn;split at h
    ·rename_i hb;have hb:=Nat.eq_of_beq_eq_true hb;obtain⟨vs,hl,hK,hcell⟩:=si h;refine⟨_,_,_,_,hK,rfl,pX.2 hcell,by simp [VC],smp,λw' hcs _=>?_⟩;have hcell':=pX.1 hcs;have:=run_loadCells_list (P:=P) w' ad vs (λj v hj=>by simpa using hcell' j v hj);rw [hl,←hb] at this;simp [execOp,Instr.loadAt,hv,Instr.sureAddr,loadVar,uK hc,bI hn,this]
    ·exact h.elim
   ·exact h.elim
  ·rename_i k off c hx hc;split at h
   ·rename_i v hg hi;obtain⟨b,hb,hv⟩:=dh hA hx;obtain⟨m,hm,hle⟩:=rx hi;obtain⟨n,cs,T,h1,h2,h3,h4,h5⟩:=hA.cell k b hb;rw [hm] at h1;injection h1 with h1;subst h1
    have hcell:w.w.cell? ⟨b,off,none⟩=some v:=by
     rw [cell_of_row w.w b off cs T (0,0) h2];exact h5 off v om hg
    refine⟨_,_,_,_,h,rfl,smp,?_,by simp [hm];omega,λw' _ hvc=>?_⟩
    ·intro q hq;rw [List.mem_singleton] at hq;subst hq;exact⟨b,hb,hcell⟩
    ·obtain⟨b',hb',hc'⟩:=hvc _ (List.mem_singleton_self _);simp only at hb' hc';rw [hb] at hb';injection hb' with hb';subst hb';simp [execOp,Instr.loadAt,hv,Instr.sureAddr,loadVar,uJ hc,hc']
   ·exact h.elim
  ·rename_i k off cs hx hc;split at h
   ·rename_i n hn;split at h
    ·rename_i vs hbi hg;obtain⟨b,hb,hv⟩:=dh hA hx;simp only [Bool.and_eq_true] at hbi;obtain⟨m,hm,hle⟩:=rx hbi.2;obtain⟨n',cs',T,h1,h2,h3,h4,h5⟩:=hA.cell k b hb;rw [hm] at h1;injection h1 with h1;subst h1;obtain⟨hl,hg⟩:=uc hg
     have hcell:∀j v,vs[j]?=some v→w.w.cell? ⟨b,off+j,none⟩=some v:=λj v hj=>by
      have hjl:j<vs.length:=(List.getElem?_eq_some_iff.1 hj).1;rw [cell_of_row w.w b (off+j) cs' T (0,0) h2];exact h5 (off+j) v om (by rw [←Nat.add_assoc];exact hg j v hj)
     refine⟨_,_,_,_,h,rfl,smp,(pL hb).2 hcell,λk hk=>?_,λw' _ hvc=>?_⟩
     ·obtain⟨h1',h2'⟩:=tC hk;rw [h1',hm];simp only [Option.getD_some];omega
     have hc':=(pL hb).1 hvc;have:=run_loadCells_list (P:=P) w' ⟨b,off,none⟩ vs (λj v hj=>by rw [Addr.add_mk];exact hc' j v hj);rw [hl] at this;simp [execOp,Instr.loadAt,hv,Instr.sureAddr,loadVar,uK hc,bI hn,this]
    ·exact h.elim
   ·exact h.elim
  ·exact h.elim
 all_goals exact h.elim
end
end
section
variable {β:Nat→Option Nat} {e:Env} {a:Act} {w w':TW} {h:Nat} {vs:List Value}
section
variable {P:Program} {D:Dc}
theorem nc{R:Type}:∀(cs:List CK) (f:HL cs→R) (x:HL cs),app cs (lam cs f) x=f x
 | [],_,_=>rfl
 | _::cs,f,x=>nc cs (λy=>f (x.1,y)) x.2
theorem mh:∀(cs:List CK) (f:HL cs→Prop),qk cs (lam cs f)↔∀x,f x
 | [],f=>⟨λh _=>h,λh=>h ()⟩
 | c::cs,f=>⟨λh x=>(mh cs _).1 (h x.1) x.2,λh x=>(mh cs _).2 λy=>h (x,y)⟩
theorem gK:∀(vs:List Value) (k:Nat) (e:Env) (t:Nat),(iY k vs e).get t=if k≤t∧t<k+vs.length then (vs[t-k]?).map .v else e.get t
 | [],k,e,t=>by simp [iY];intro h1 h2;omega
 | v::vs,k,e,t=>by
  rw [iY,gK vs (k+1) ((k,.v v)::e) t,Env.get_cons];simp only [List.length_cons];by_cases h1:k=t
  ·subst h1;simp;intro h;omega
  ·by_cases h2:k+1≤t∧t<k+1+vs.length
   ·rw [if_pos h2,if_pos om,show t-k=(t-(k+1))+1 by omega];simp
   ·rw [if_neg h2,if_neg h1,if_neg om]
theorem qD{h:Nat}:∀(e:Env) (t:Nat),(clr h e).get t=match e.get t with
  | some (.p h' off)=>if h'=h then some .q else some (.p h' off)
  | x=>x
 | [],t=>rfl
 | (k,x)::e,t=>by
  have ih:=qD (h:=h) e t;cases x with
  | v v=>simp only [clr,Env.get_cons];split<;>simp_all
  | q=>simp only [clr,Env.get_cons];split<;>simp_all
  | p h' off=>
   simp only [clr];cases hb:Nat.beq h' h with
   | true=>
    have:=Nat.eq_of_beq_eq_true hb;simp only [Env.get_cons];split<;>simp_all
   | false=>
    have:=qj hb;simp only [Env.get_cons];split<;>simp_all
theorem mR{h:Nat}:∀(e:Env),(clr h e).length=e.length
 | []=>rfl
 | (k,.v v)::e=>by simp [clr,mR e]
 | (k,.q)::e=>by simp [clr,mR e]
 | (k,.p h' off)::e=>by
  simp only [clr];split<;>simp [mR e]
theorem pe:∀(vs:List Value) (k:Nat) (e:Env),∃l,iY k vs e=l++e∧l.length=vs.length∧∀t,k≤t→t<k+vs.length→t∈l.map (·.1)
 | [],_,_=>⟨[],rfl,rfl,λt h1 h2=>by simp at h2;omega⟩
 | v::vs,k,e=>by
  obtain⟨l,h1,h2,h3⟩:=pe vs (k+1) ((k,.v v)::e);refine⟨l++[(k,.v v)],by rw [iY,h1];simp,by simp [h2],λt ht1 ht2=>?_⟩;simp only [List.map_append,List.mem_append,List.map_cons,List.map_nil,List.mem_singleton];by_cases hkt:t=k
  ·exact .inr hkt
  ·exact .inl (h3 t om (by simp at ht2;omega))
structure Vok (D:Dc):Prop where
 lo:∀h n,nat? D.vb h=some n→D.N≤h
 apart:∀h k m n,nat? D.vb h=some m→nat? D.vb k=some n→h≠k→h+m≤k∨k+n≤h
theorem Vok.of(h:nT D.N D.vb=true):Vok D:=by
 have key:∀l:List (Nat × Nat),nT D.N l=true→(∀h n,(h,n)∈l→D.N≤h)∧∀h k m n,(h,m)∈l→(k,n)∈l→h≠k→h+m≤k∨k+n≤h:=by
  intro l;induction l with
  | nil=>simp
  | cons x l ih=>
   obtain⟨a,b⟩:=x;intro h;simp only [nT,Bool.and_eq_true,List.all_eq_true,Bool.or_eq_true] at h;obtain⟨⟨h1,h2⟩,h3⟩:=h;obtain⟨i1,i2⟩:=ih h3;have h2':∀x∈l,a+b≤x.1∨x.1+x.2≤a:=λx hx=>(h2 x hx).imp Nat.le_of_ble_eq_true Nat.le_of_ble_eq_true
   refine⟨λk n hk=>?_,λp q m n hp hq hne=>?_⟩
   ·rcases List.mem_cons.1 hk with hk|hk
    ·injection hk with e1 e2;subst e1;exact Nat.le_of_ble_eq_true h1
    ·exact i1 k n hk
   ·rcases List.mem_cons.1 hp with hp'|hp'<;>rcases List.mem_cons.1 hq with hq'|hq'
    ·injection hp' with e1 e2;injection hq' with e3 e4;exact absurd (e1.trans e3.symm) hne
    ·injection hp' with e1 e2;subst e1;subst e2;exact h2' _ hq'
    ·injection hq' with e1 e2;subst e1;subst e2;exact (h2' _ hp').symm
    ·exact i2 p q m n hp' hq' hne
 obtain⟨h1,h2⟩:=key _ h;exact⟨λh n hh=>h1 h n (nat?_mem hh),λh k m n hh hk=>h2 h k m n (nat?_mem hh) (nat?_mem hk)⟩
theorem aW.store(hA:aW D β e a w)(hV:Vok D){off m b:Nat}{cs:Array Value}{T:TypeId}(hb:β h=some b)(hm:nat? D.vb h=some m)(hle:off+vs.length≤m)(hg:w.w.heap[b]?=some (.cells cs T (0,0)))(hw:w'.w.heap[b]?=some (.cells (cs.toList.take off++vs++cs.toList.drop (off+vs.length)).toArray T (0,0)))(ho:∀k,k≠b→w'.w.heap[k]?=w.w.heap[k]?)(hs:w'.w.heap.size=w.w.heap.size)(hV':w'.V=w.V)(hB':w'.B=w.B):aW D β (iY (h+off) vs e) a w':=by
 have hlo:=hV.lo h m hm;refine⟨hA.defers,hA.size,by rw [hs,hB'];exact hA.le,?_,?_,?_,hA.inj⟩
 ·intro t v ht hv;rw [gK,if_neg om] at hv;exact hA.val t v ht hv
 ·intro t k o hk;rw [gK] at hk;split at hk
  ·rename_i hr;cases hx:vs[t-(h+off)]?<;>simp [hx] at hk
  ·exact hA.ptr t k o hk
 ·intro k c hk;obtain⟨n,cs',T',h1,h2,h3,h4,h5⟩:=hA.cell k c hk;by_cases hkh:k=h
  ·subst hkh;rw [hb] at hk;injection hk with hk;subst hk;rw [hm] at h1;injection h1 with h1;subst h1;rw [hg] at h2;injection h2 with h2;injection h2 with e1 e2 _;subst e1;subst e2;refine⟨m,_,_,hm,hw,by rw [hV',hB'];exact h3,?_,λi v hi hv=>?_⟩
   ·simp only [List.size_toArray,List.length_append,List.length_take,List.length_drop,Array.length_toList];omega
   ·rw [gK] at hv;have hcl:cs.toList.length=m:=by simpa using h4
    simp only [List.getElem?_toArray];split at hv
    ·rename_i hr;rw [List.append_assoc,List.getElem?_append_right (by simp [hcl];omega),List.getElem?_append_left (by simp [hcl];omega)];simp only [List.length_take,hcl];rw [show i-min off m=k+i-(k+off) by omega];simpa using hv
    ·rename_i hr;have hc:=h5 i v hi hv;rcases Nat.lt_or_ge i off with hi'|hi'
     ·rw [List.append_assoc,List.getElem?_append_left (by simp [hcl];omega),List.getElem?_take,if_pos hi'];simpa using hc
     ·rw [List.getElem?_append_right (by simp [hcl];omega)];simp only [List.length_append,List.length_take,hcl,List.getElem?_drop];rw [show off+vs.length+(i-(min off m+vs.length))=i by omega];simpa using hc
  ·have hbc:c≠b:=λe=>hkh (hA.inj _ _ _ (e▸hk) hb)
   refine⟨n,cs',T',h1,(ho c hbc).trans h2,by rw [hV',hB'];exact h3,h4,λi v hi hv=>h5 i v hi ?_⟩;rw [gK,if_neg] at hv
   ·exact hv
   ·rcases hV.apart h k m n hm h1 (Ne.symm hkh) with hh|hh<;>omega
theorem aW.newv(hA:aW D β e a w)(hV:Vok D){m:Nat}{T:TypeId}(hm:nat? D.vb h=some m)(hle:vs.length=m)(hw:w'.w.heap[w.w.heap.size]?=some (.cells vs.toArray T (0,0)))(ho:∀k,k<w.w.heap.size→w'.w.heap[k]?=w.w.heap[k]?)(hs:w.w.heap.size≤w'.w.heap.size)(hV':∀b,w.V b→w'.V b)(hVn:w'.V w.w.heap.size)(hB':w'.B=w.B):
  aW D (λx=>if x=h then some w.w.heap.size else β x) (iY h vs (clr h e)) a w':=by
 have hlo:=hV.lo h m hm;refine⟨hA.defers,hA.size,by rw [hB'];exact Nat.le_trans hA.le hs,?_,?_,?_,?_⟩
 ·intro t v ht hv;rw [gK,if_neg om,qD] at hv;refine hA.val t v ht ?_;split at hv
  ·split at hv<;>simp at hv
  ·exact hv
 ·intro t k o hk;rw [gK] at hk;split at hk
  ·rename_i hr;cases hx:vs[t-h]?<;>simp [hx] at hk
  ·rw [qD] at hk;split at hk
   ·rename_i h' off' hg;split at hk
    ·simp at hk
    ·rename_i hne;injection hk with hk;injection hk with e1 e2;subst e1;subst e2;obtain⟨b,hb,hp⟩:=hA.ptr t h' off' hg;exact⟨b,by rw [if_neg hne];exact hb,hp⟩
   ·rename_i hg;exact absurd hk (by intro hk;exact hg k o hk)
 ·intro k c hk;by_cases hkh:k=h
  ·subst hkh;simp at hk;subst hk;refine⟨m,_,T,hm,hw,⟨hVn,by rw [hB'];exact hA.le⟩,by simpa using hle,λi v hi hv=>?_⟩;rw [gK,if_pos om] at hv;rw [show k+i-k=i by omega] at hv;simpa using hv
  ·rw [if_neg hkh] at hk;obtain⟨n,cs',T',h1,h2,h3,h4,h5⟩:=hA.cell k c hk;refine⟨n,cs',T',h1,(ho c (hA.lt hk)).trans h2,⟨hV' c h3.1,by rw [hB'];exact h3.2⟩,h4,λi v hi hv=>h5 i v hi ?_⟩;rw [gK,if_neg,qD] at hv
   ·split at hv
    ·split at hv<;>simp at hv
    ·exact hv
   ·rcases hV.apart h k m n hm h1 (Ne.symm hkh) with hh|hh<;>omega
 ·intro x y b hx hy;by_cases h1:x=h<;>by_cases h2:y=h
  ·rw [h1,h2]
  ·simp [h1,h2] at hx hy;subst hx;exact absurd (hA.lt hy) (Nat.lt_irrefl _)
  ·simp [h1,h2] at hx hy;subst hy;exact absurd (hA.lt hx) (Nat.lt_irrefl _)
  ·simp [h1,h2] at hx hy;exact hA.inj x y b hx hy
end
end
section
variable {β:Nat→Option Nat} {e:Env} {a:Act} {w w':TW} {d:Option Tmp} {K:Option SV→Env→TW→Prop} {s:Option SV} {v:Value} {el t:TypeId} {i:TypeInfo} {z:List Value}
section
variable {P:Program} {D:Dc}
def oU:Array Value→Sem Value:=λargs=>do
 let (x, y, b) ← Extern.MathBitsCarry.three "Sub64" args
 pure (Extern.MathBitsCarry.pair ((x+Extern.MathBitsCarry.m64-y-b)%Extern.MathBitsCarry.m64) (if x<y+b then 1 else 0))
structure mN (P:Program) (ext:List (Nat × Nat)):Prop where
 body : ∀ f, nat? ext f = some 0 → (P.funcs[f]?).any (λfn => fn.body.isSome && !(fn.name == "runtime.NumGoroutine")) = true
 add : ∀ f, nat? ext f = some 1 → ∃ fn, P.funcs[f]? = some fn ∧ (fn.name == "runtime.NumGoroutine") = false ∧ fn.body.isNone = true ∧ Extern.findNext fn = none ∧ Extern.find fn = some add64Entry
 sub : ∀ f, nat? ext f = some 2 → ∃ fn, P.funcs[f]? = some fn ∧ (fn.name == "runtime.NumGoroutine") = false ∧ fn.body.isNone = true ∧ Extern.findNext fn = none ∧ Extern.find fn = some oU
theorem pH{f:FuncId}(h : (P.funcs[f]?).any (λfn => fn.body.isSome && !(fn.name == "runtime.NumGoroutine")) = true)(args : Array Value)(w : World) :
  (callFunc f args).run P w=.ok (.enter f args) w:=by
 cases hf:P.funcs[f]? with
 | none=>rw [hf] at h;simp at h
 | some fn=>
  rw [hf] at h;simp at h;obtain⟨h1,h2⟩:=h;obtain⟨c,hc⟩:=Option.isSome_iff_exists.1 h1;simp [callFunc,hf,h2,hc]
def SRo(β:Nat→Option Nat)(d:Option Tmp):Option SV→Value→Prop
 | none,_=>d=none
 | some x,v=>SVR β x v
def fW(D:Dc)(β:Nat→Option Nat)(e:Env)(a:Act)(w:TW)(d:Option Tmp)(K:Option SV→Env→TW→Prop)(a':Act)(v':World):Prop:=
 ∃s v β' e' w',w'.w=v'∧a'=a.put d v∧K s e' w'∧aW D β' e' a w'∧SRo β' d s v∧
  (∀h off b v,β h=some b→off<(nat? D.vb h).getD 0→pq ((e'.take (e'.length-e.length)).map (·.1)) (h+off)=false→w.w.cell? ⟨b,off,none⟩=some v→β' h=some b∧w'.w.cell? ⟨b,off,none⟩=some v)∧
  (∀k,(∀i,d=some i→nat? D.va i≠some k)→β' k=β k)
theorem fW.far(hA:aW D β e a w)(hK:K s e w')(hw:∀k b,β k=some b→w'.w.heap[b]?=w.w.heap[b]?)(hx:w.w.heap.size≤w'.w.heap.size)(hV:∀b,w.V b→w'.V b)(hB:w'.B=w.B)(hs:SRo β d s v):fW D β e a w d K (a.put d v) w'.w:=
 ⟨s,v,β,e,w',rfl,rfl,hK,hA.world hw hx hV hB,hs,λh _ b _ hb _ _ hc=>⟨hb,(World.cell?_of_block (a:=⟨b,_,none⟩) (hw h b hb)).trans hc⟩,λ_ _=>rfl⟩
theorem fW.ext(hA:aW D β e a w)(hK:K s e w')(hx:Ext aa w w')(hw:∀k b,β k=some b→w'.w.heap[b]?=w.w.heap[b]?)(hs:SRo β d s v):fW D β e a w d K (a.put d v) w'.w:=
 fW.far hA hK hw hx.size hx.sub hx.floor hs
theorem jY(w:World)(a:Addr)(v:Value)(b:Nat):(w.setCell a v).shape? b=w.shape? b:=by
 by_cases h:a.block=b
 ·subst h;unfold World.shape? World.setCell;simp only [Array.getElem?_modify,if_true];cases hh:w.heap[a.block]? with
  | none=>rfl
  | some o=>cases o<;>simp;split<;>simp
 ·unfold World.shape? World.setCell;simp only [Array.getElem?_modify,if_neg h]
theorem rQ{ad:Addr}:∀{vs:List Value} {i:Nat} {w:TW} {K:TW→Prop},xS ad i vs w K→
  ∃w':TW,(storeCells ad vs i).run P w.w=.ok () w'.w∧K w'∧w'.V=w.V∧w'.B=w.B∧w'.w.heap.size=w.w.heap.size∧∀b:Nat,w.V b→w'.w.heap[b]?=w.w.heap[b]?
 | [],i,w,K,h=>⟨w,by simp [storeCells],h,rfl,rfl,rfl,λ_ _=>rfl⟩
 | v::vs,i,w,K,h=>by
  unfold xS at h;split at h
  ·rename_i h1;obtain⟨⟨old,ho⟩,hf,hoff,hK⟩:=h;obtain⟨w',hr,hK',hV,hB,hs,hk⟩:=rQ hK;refine⟨w',by simp only [storeCells,Sem.run_bind,run_store _ _ _ _ _ h1,ho,hf];exact hr,hK',hV,hB,hs.trans (by simp [TW.set,World.setCell]),λb hb=>?_⟩;have hne:b≠(ad.add i).block:=λe=>by subst e;exact hoff hb
   rw [hk b hb];exact Below.heap_setCell w.w (ad.add i) v b hne
  ·exact h.elim
theorem tS:∀{vs:List Value},yc vs=true→∀v∈vs,v.oneCell'=true
 | [],_=>by simp
 | v::vs,h=>by
  unfold yc at h;split at h
  ·rename_i h1;intro u hu;rcases List.mem_cons.1 hu with rfl|hu
   ·exact h1
   ·exact tS h u hu
  ·cases h
def TW.row(T:TW)(g:Nat)(cs:Array Value):TW:={ T with w:=T.w.setRow g cs,lt:=λb h=>by simpa [World.setRow] using T.lt b h }
theorem oV{g:Nat}{cur:Array Value}{e:TypeId}(hg:w.w.heap[g]?=some (.cells cur e (0,0)))(cs:Array Value)(hs:cs.size=cur.size):Ext (λk=>k=g) w (w.row g cs):=by
 refine⟨rfl,rfl,rfl,by simp [TW.row,World.setRow],rfl,λ_ h=>h,λ_ h=>.inl h,λk _ hk _=>setRow_other w.w g k _ hk,λk _=>?_⟩;by_cases hkg:k=g
 ·subst hkg;simp [TW.row,World.shape?,setRow_heap w.w k cur cs e _ hg,hg,hs]
 ·simp [TW.row,World.shape?,setRow_other w.w g k cs hkg]
def TW.drewAlloc(T:TW)(o:Obj):TW:={ T with w:=T.w.drew.alloc o,lt:=λb h=>by have:=T.lt b h;simp;omega }
theorem oM(w:TW)(o:Obj)(X:Nat→Prop):Ext X w (w.drewAlloc o):=
 ⟨rfl,rfl,rfl,by simp [TW.drewAlloc],rfl,λ_ h=>h,λ_ h=>.inl h,λk hk _ _=>Below.heap_alloc w.w.drew _ k hk,λk hk=>oz w.w.drew o k hk⟩
theorem ace{B:Nat}{ty e:TypeId}{z:Value}(ht:P.underlying t=some (.slice e))(hi:P.info? e=some i)(hz:i.zero=some z)(hzs:z.cells.size=i.size)(hsz:0<i.size){s x:Sl}{ls lx:List Value}(hown:Own w B e i.size s ls)(hx:Rdv w i.size x lx)(hB:B≤w.w.heap.size)(h1:∀u∈lx,u.oneCell'=true)(h63:s.n+x.n≤maxLen)(hbytes:(s.n+x.n)*i.bytes≤140737488355328):
  ∃s' w',(Builtin.append_ #[t,t] ty #[s.v,x.v]).run P w.w=.ok s'.v w'.w∧Own w' B e i.size s' (ls++lx)∧s'.n=s.n+x.n∧Ext (λb=>s.blk=some b) w w'∧(∀b,s'.blk=some b→s.blk=some b∨w.w.heap.size≤b)∧(∀k,k<w.w.heap.size→s.blk≠some k→w'.w.heap[k]?=w.w.heap[k]?):=by
 obtain⟨p,n,c⟩:=s;obtain⟨q,m,d⟩:=x;obtain⟨hl,hmd,hdm,hrd⟩:=hx;obtain⟨hown,hnV⟩:=hown;simp only at hl hmd hdm hrd h63 hbytes ⊢;have hsmall:n+m≤9223372036854775807:=by simp only [maxLen] at h63;omega
 by_cases hm:m=0
 ·-- nothing to append
  subst hm;obtain rfl:lx=[]:=List.eq_nil_of_length_eq_zero (by simpa using hl);refine⟨⟨p,n,c⟩,w,?_,⟨by simpa using hown,hnV⟩,rfl,Ext.refl _ _,λb hb=>.inl hb,λ_ _ _=>rfl⟩;rcases hown.2 with ⟨hv,hn⟩|⟨g,cap,cur,hv,_,_,hnc,_⟩
  ·simp only [Sl.v,Value.slice.injEq] at hv;obtain⟨rfl,rfl,rfl⟩:=hv;cases q<;>simp [Builtin.append_,run_underlying ht,sizeOf,typeInfo,hi,Builtin.lenOf,Builtin.firstCells,loadCells,loadCellsFrom]
  ·simp only [Sl.v,Value.slice.injEq] at hv;obtain⟨rfl,-,rfl⟩:=hv;cases q<;>simp [Builtin.append_,run_underlying ht,sizeOf,typeInfo,hi,Builtin.lenOf,Builtin.firstCells,loadCells,loadCellsFrom,hnc,storeCells]
 ·have hne:lx≠[]:=λe=>by
   rw [e] at hl;have:=Nat.mul_pos (Nat.pos_of_ne_zero hm) hsz;simp only [List.length_nil] at hl;omega
  obtain⟨b,o,rfl,_,hcell⟩:=hrd hne;have hnews:∀j u,lx[j]?=some u→w.w.cell? ((⟨b,o,none⟩:Addr).add j)=some u:=λj u hj=>by rw [Addr.add_mk];exact hcell j u hj
  have hlen:(ls++lx).length=(n+m)*i.size:=by rw [List.length_append,hown.1,hl,Nat.add_mul]
  have grown:∀(old:Nat),old<n+m→
    Own (w.drewAlloc (.cells (ls.toArray++lx.toArray++Builtin.zeroCells z.cells (grownCap w.w (n+m) old e-(n+m))) e)) B e i.size ⟨some ⟨w.w.heap.size,0,none⟩,n+m,grownCap w.w (n+m) old e⟩ (ls++lx):=by
   intro old ho;have hge:=grownCap_ge w.w (n+m) old e;have hcm:grownCap w.w (n+m) old e≤maxLen:=grownCap_le_maxLen w.w (n+m) old e h63;refine⟨⟨hlen,.inr ⟨w.w.heap.size,_,_,rfl,hB,heap_alloc_new w.w.drew _,hge,hcm,?_,?_⟩⟩,λb hb=>by simp [Sl.blk] at hb;subst hb;exact λhv=>Nat.lt_irrefl _ (w.lt _ hv)⟩
   ·simp only [Array.size_append,List.size_toArray,size_zeroCells,hzs,hown.1,hl,←Nat.add_mul];congr 1;omega
   ·simp only [Array.toList_append,List.append_assoc];rw [←List.append_assoc,←hlen];exact List.take_left
  rcases hown.2 with ⟨hv,hn⟩|⟨g,cap,cur,hv,hbg,hg,hnc,hcm,hcs,htake⟩
  ·simp only [Sl.v,Value.slice.injEq] at hv;obtain⟨rfl,rfl,rfl⟩:=hv;obtain rfl:ls=[]:=List.eq_nil_of_length_eq_zero (by simpa using hown.1);have hr:=run_append_nil (P:=P) (ty:=ty) w.w t e i z ht hi hz ⟨b,o,none⟩ m d lx hl hnews om om (by have hb:=hbytes;simp only [Nat.zero_add] at hb;omega);have hgr:=grown 0 om;simp only [Nat.zero_add,List.nil_append,Array.empty_append] at hgr ⊢;exact⟨⟨some ⟨w.w.heap.size,0,none⟩,_,_⟩,w.drewAlloc _,hr,hgr,rfl,oM _ _ _,λb hb=>.inr (by simp [Sl.blk] at hb;omega),λk hk _=>Below.heap_alloc w.w.drew _ k hk⟩
  ·simp only [Sl.v,Value.slice.injEq] at hv;obtain⟨rfl,-,rfl⟩:=hv;by_cases hroom:n+m≤c
   ·have hfit:n*i.size+lx.length≤cur.size:=by rw [hl,hcs,←Nat.add_mul];exact Nat.mul_le_mul_right _ hroom
    have hr:=run_append_room (P:=P) (ty:=ty) w.w t e i ht hi g n c cur hg ⟨b,o,none⟩ m d lx hl hnews h1 hroom hfit
    have hsize:(cur.toList.take (n*i.size)++lx++cur.toList.drop (n*i.size+lx.length)).toArray.size=cur.size:=by
     simp only [List.size_toArray,List.length_append,List.length_take,List.length_drop,Array.length_toList];omega
    refine⟨⟨some ⟨g,0,none⟩,n+m,c⟩,w.row g _,hr,⟨⟨hlen,.inr ⟨g,c,_,rfl,hbg,setRow_heap w.w g cur _ e _ hg,hroom,hcm,?_,?_⟩⟩,hnV⟩,rfl,(oV hg _ hsize).mono (λk _ hk=>by simp [Sl.blk,hk]),λb hb=>.inl (by simpa [Sl.blk] using hb),λk _ hk=>setRow_other w.w g k _ (λe=>hk (by simp [Sl.blk,e]))⟩
    ·rw [hsize,hcs]
    ·rw [htake,←hlen];exact List.take_left
   ·have holds:∀j u,ls[j]?=some u→w.w.cell? ((⟨g,0,none⟩:Addr).add j)=some u:=World.ownsRow.cells hown (g:=g) rfl;have hr:=run_append_grow (P:=P) (ty:=ty) w.w t e i z ht hi hz ⟨g,0,none⟩ n c ls hown.1 holds ⟨b,o,none⟩ m d lx hl hnews om om (growslice_fits om hbytes);exact⟨⟨some ⟨w.w.heap.size,0,none⟩,_,_⟩,w.drewAlloc _,hr,grown c om,rfl,oM _ _ _,λb hb=>.inr (by simp [Sl.blk] at hb;omega),λk hk _=>Below.heap_alloc w.w.drew _ k hk⟩
theorem qa(z:Array Value):∀n:Nat,(madeCells z (n*z.size)).toList=(List.replicate n z.toList).flatten
 | 0=>by simp [madeCells]
 | n+1=>by
  have ih:=qa z n;simp only [madeCells,Array.toList_map,Array.toList_range] at ih ⊢;rw [show (n+1)*z.size=z.size+n*z.size by rw [Nat.add_mul];omega,List.range_add,List.map_append,List.map_map,List.replicate_succ,List.flatten_cons,←ih];congr 1
  ·apply List.ext_getElem?;intro j;by_cases hj:j<z.size
   ·simp [hj,Nat.mod_eq_of_lt hj]
   ·simp [hj]
  ·apply List.map_congr_left;intro j _;simp
def TW.alloc(T:TW)(o:Obj):TW:={ T with w:=T.w.alloc o,lt:=λb h=>by have:=T.lt b h;simp;omega }
theorem New.mk'(w:TW)(cs:List Value)(e:TypeId):New w w.w.heap.size cs e (w.alloc (.cells cs.toArray e)):=⟨rfl,rfl,rfl,rfl⟩
theorem acb(ht:P.underlying t=some (.slice el))(hi:P.info? el=some i)(hz:kO P el=some z)(hzl:z.length=i.size)(k k':IntKind){l c:Int}(h0:0≤l)(h1:l≤c)(h2:c*i.bytes≤140737488355328)(h3:c≤9223372036854775807):
  ∃b w',New w b (List.replicate c.toNat z).flatten el w'∧(Instr.makeSlice t (.int k l) (.int k' c)).run P w.w=.ok (.slice (some ⟨b,0,none⟩) l.toNat c.toNat) w'.w:=by
 unfold kO at hz;rw [hi] at hz;simp only at hz;split at hz
 ·rename_i zv hzv;injection hz with hz;subst hz;refine⟨_,_,New.mk' w _ _,?_⟩;rw [run_make (P:=P) w.w t el i zv ht hi hzv k k' l c h0 h1 (by rw [Int.mul_comm];omega) h3];have e:i.size=zv.cells.size:=by rw [←hzl];simp
  rw [←qa,e];rfl
 ·cases hz
theorem acd{len sz:Nat}{cs:List Value}{ps:List (Nat × Value)}(ht:P.underlying t=some (.slice el))(hs:iC P el=some sz)(hz:kO P el=some z)(hzl:z.length=sz)(hf:oe (λi=>some (i*sz,sz)) (List.replicate len z).flatten ps=some cs)(hb:len*sz≤16777216):
  ∃b w',New w b cs el w'∧(Instr.buildSlice t len ps.toArray).run P w.w=.ok (.slice (some ⟨b,0,none⟩) len len) w'.w:=by
 refine⟨_,_,New.mk' w _ _,?_⟩;unfold kO at hz;split at hz
 ·rename_i i hi;split at hz
  ·rename_i zv hzv;injection hz with hz;subst hz;have e:sz=zv.cells.size:=by rw [←hzl];simp
   obtain⟨ra,hr1,hr2⟩:=mz (pl':=λi=>some (i*sz,sz)) (λi x hx=>hx) (ca:=madeCells zv.cells (len*sz)) (by rw [e,qa]) hf;have hb':¬16777216<len*sz:=om;have hcs:cs.toArray=ra:=by rw [←hr2]
   by_cases hn:len*sz=0
   ·have hra:Instr.fill (λi=>some (i*sz,sz)) #[] ps=some ra:=by
     rw [hn] at hr1;simpa [madeCells,Array.range_zero'] using hr1
    simp [Instr.buildSlice,run_underlying ht,bI hs,hn,hra,newRow,hcs,Array.range_zero',TW.alloc]
   ·simp [Instr.buildSlice,run_underlying ht,bI hs,hn,hb',zeroValue,typeInfo,hi,hzv,newRow,hcs,TW.alloc];simp only [madeCells] at hr1;rw [hr1];simp
  ·cases hz
 ·cases hz
end
end
end Go.Proofs.YtpbimnlggalnfaaGreatDoor.Zg
