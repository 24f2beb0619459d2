/- A part of the proofs of this seat's laws: words, lemmas or contracts of its functions. -/
import Derived.Test.YthhohfgpaihngaaZgA
set_option linter.unusedVariables false
set_option linter.unusedSimpArgs false
set_option linter.unnecessarySimpa false
namespace Go.Proofs.Ythhohfgpaihngaa.Zg
open Go.RowKit

/-- What a slot is known to hold: a value, or the address of a local block's cell (its place in the environment). -/
inductive SV where
  | v (x : Value)
  | p (h off : Nat)
  | q

abbrev Env := List (Nat × SV)

def Env.get : Env → Nat → Option SV
  | [], _ => none
  | (k, x) :: e, t => match Nat.beq k t with
    | true => some x
    | false => Env.get e t

def Env.gets (e : Env) : Nat → Nat → Option (List Value)
  | _, 0 => some []
  | k, n + 1 => match e.get k with
    | some (.v x) => match Env.gets e (k + 1) n with
      | some xs => some (x :: xs)
      | none => none
    | _ => none

/-- What one function's reading is told beside its code. N: how many slots. va: which slot's alloc or box is a local block, and its place; vb: the places and sizes. ann: where ways meet, the slots that live on. fine: the functions with a body. ext: Add64 (1), Sub64 (2). -/
structure Dc where
  N : Nat
  va : List (Nat × Nat)
  vb : List (Nat × Nat)
  ann : List (Nat × Nat × List (Nat × VT))
  ext : List (FuncId × Nat)

def nat? {α : Type} : List (Nat × α) → Nat → Option α
  | [], _ => none
  | (k, x) :: e, t => match Nat.beq k t with
    | true => some x
    | false => nat? e t

def ann? : List (Nat × Nat × List (Nat × VT)) → Nat → Nat → Option (List (Nat × VT))
  | [], _, _ => none
  | (k, i, x) :: e, t, j => match Nat.beq k t with
    | true => match Nat.beq i j with
      | true => some x
      | false => ann? e t j
    | false => ann? e t j

def memN : List Nat → Nat → Bool
  | [], _ => false
  | k :: ks, t => match Nat.beq k t with
    | true => true
    | false => memN ks t

/-- Is the local block h one of n cells? -/
def isB (D : Dc) (h n : Nat) : Bool := match nat? D.vb h with
  | some m => Nat.beq m n
  | none => false

/-- Do n cells from 'off' on lie in the local block h? -/
def inB (D : Dc) (h off n : Nat) : Bool := match nat? D.vb h with
  | some m => match Nat.beq off 0 with
    | true => Nat.ble n m
    | false => Nat.ble (off + n) m
  | none => false

section
variable (P : Program) (D : Dc)

def ckD : TypeDesc → Option CK
  | .int k => some (.int k)
  | .bool => some .bool
  | .string => some .str
  | .slice _ => some .slice
  | .pointer _ => some .ptr
  | .func .. => some .fn
  | _ => none

def flat : Nat → TypeId → Option (List CK)
  | 0, _ => none
  | n + 1, t => match P.underlying t with
    | some (.struct fs) => fs.toList.foldr (fun f acc => match flat n f.type, acc with
      | some a, some b => some (a ++ b)
      | _, _ => none) (some [])
    | some (.array len e) => match flat n e with
      | some l => some (List.replicate len l).flatten
      | none => none
    | some d => match ckD d with
      | some c => some [c]
      | none => none
    | none => none

def aggT (t : TypeId) : Bool := match P.underlying t with
  | some (.struct _) => true
  | some (.array _ _) => true
  | _ => false

def vtOf (t : TypeId) : Option VT := match P.underlying t with
  | some (.struct _) | some (.array _ _) => match flat P 9 t with
    | some l => some (.agg l)
    | none => none
  | some d => match ckD d with
    | some c => some (.one c)
    | none => none
  | none => none

def vtsOf : List TypeId → Option (List VT)
  | [] => some []
  | t :: ts => match vtOf P t, vtsOf ts with
    | some v, some vs => some (v :: vs)
    | _, _ => none

/-- The types of a call's results. -/
def rtOf (t : TypeId) : Option (List VT) := match P.underlying t with
  | some (.tuple ts) => vtsOf P ts.toList
  | some _ => match vtOf P t with
    | some v => some [v]
    | none => none
  | none => none

def ev (e : Env) : Operand → Option SV
  | .tmp t => match Nat.blt t D.N with
    | true => e.get t
    | false => none
  | .const v => some (.v v)
  | .func f => some (.v (.func (.func f) #[] #[]))
  | .global _ => none

def evv (e : Env) (x : Operand) : Option Value := match ev D e x with
  | some (.v v) => some v
  | _ => none

def evvs (e : Env) : List Operand → Option (List Value)
  | [] => some []
  | x :: xs => match evv D e x, evvs e xs with
    | some v, some vs => some (v :: vs)
    | _, _ => none

def intop (op : BinOp) (k k' : IntKind) (a b : Int) (K : Value → Prop) : Prop :=
  match op with
  | .shl => shlK k a b fun r => K (.int k r)
  | .shr => shrK k a b fun r => K (.int k r)
  | .add => if k = k' then K (.int k (k.wrap (a + b))) else False
  | .sub => if k = k' then K (.int k (k.wrap (a - b))) else False
  | .mul => if k = k' then K (.int k (k.wrap (a * b))) else False
  | .quo => if k = k' then divK k a b (fun r => K (.int k r)) else False
  | .rem => if k = k' then remK a b (fun r => K (.int k r)) else False
  | .and => if k = k' then K (.int k (bits2 .and k a b)) else False
  | .or => if k = k' then K (.int k (bits2 .or k a b)) else False
  | .xor => if k = k' then K (.int k (bits2 .xor k a b)) else False
  | .andNot => if k = k' then K (.int k (bits2 .andNot k a b)) else False
  | .eql => if k = k' then K (.bool (a == b)) else False
  | .neq => if k = k' then K (.bool (a != b)) else False
  | .lss => if k = k' then K (.bool (decide (a < b))) else False
  | .leq => if k = k' then K (.bool (decide (a ≤ b))) else False
  | .gtr => if k = k' then K (.bool (decide (a > b))) else False
  | .geq => if k = k' then K (.bool (decide (a ≥ b))) else False

def bop (op : BinOp) (xt : TypeId) (x y : Value) (K : Value → Prop) : Prop :=
  match x, y with
  | .int k a, .int k' b => intop op k k' a b K
  | .bool a, .bool b => match P.underlying xt with
    | some .bool => match op with
      | .eql => K (.bool (a == b))
      | .neq => K (.bool (!(a == b)))
      | _ => False
    | _ => False
  | .pointer a, .pointer none => match P.underlying xt with
    | some (.pointer _) => match op with
      | .eql => K (.bool a.isNone)
      | .neq => K (.bool (!a.isNone))
      | _ => False
    | _ => False
  | .slice a _ _, .slice none _ _ => match P.underlying xt with
    | some (.slice _) => match op with
      | .eql => K (.bool a.isNone)
      | .neq => K (.bool (!a.isNone))
      | _ => False
    | _ => False
  | _, _ => False

def uop (op : UnOp) (x : Value) (K : Value → Prop) : Prop :=
  match op, x with
  | .neg, .int k n => K (.int k (k.wrap (0 - n)))
  | .xor, .int k n => K (.int k (bits2 .xor k (if k.signed then -1 else k.max) n))
  | .not, .bool b => K (.bool (!b))
  | _, _ => False

def sizeT (t : TypeId) : Option Nat := match P.info? t with
  | some i => some i.size
  | none => none

/-- Part of an aggregate. -/
def prt (t : TypeId) (cs : List Value) (off : Nat) : Option Value :=
  match P.underlying t with
  | none => none
  | some _ => match aggT P t with
    | true => match sizeT P t with
      | some n => some (.agg ((cs.drop off).take n).toArray)
      | none => none
    | false => cs[off]?

def placesOf : List Field → Option (List (Nat × Nat))
  | [] => some []
  | f :: fs => match sizeT P f.type, placesOf fs with
    | some n, some l => some ((f.offset, n) :: l)
    | _, _ => none

def setAt : List Value → Nat → List Value → List Value
  | cs, _, [] => cs
  | cs, off, v :: vs => setAt (cs.set off v) (off + 1) vs

def fillL (place : Nat → Option (Nat × Nat)) : List Value → List (Nat × Value) → Option (List Value)
  | cells, [] => some cells
  | cells, (i, v) :: rest => match place i with
    | none => none
    | some (off, size) => match Nat.beq v.cells.toList.length size && Nat.ble (off + v.cells.toList.length) cells.length with
      | true => fillL place (setAt cells off v.cells.toList) rest
      | false => none

def zeroL (t : TypeId) : Option (List Value) := match P.info? t with
  | some i => match i.zero with
    | some z => some z.cells.toList
    | none => none
  | none => none

def evParts (e : Env) : List (Nat × Operand) → Option (List (Nat × Value))
  | [] => some []
  | (i, x) :: xs => match evv D e x, evParts e xs with
    | some v, some vs => some ((i, v) :: vs)
    | _, _ => none

def bld (t : TypeId) (parts : List (Nat × Value)) : Option (List Value) := match zeroL P t with
  | none => none
  | some z => match P.underlying t with
    | some (.struct fs) => match placesOf P fs.toList with
      | some pl => fillL (fun i => pl[i]?) z parts
      | none => none
    | some (.array _ e) => match sizeT P e with
      | some n => fillL (fun i => some (i * n, n)) z parts
      | none => none
    | _ => none

def mm (big : Bool) : Value → List Value → Option Value
  | .int k x, [] => some (.int k x)
  | .int k x, .int _ y :: vs => mm big (.int k (match big with
    | true => if y > x then y else x
    | false => if y < x then y else x)) vs
  | _, _ => none

/-- Operations that look at no memory. -/
def pop (o : Oper) (e : Env) (K : SV → Prop) : Prop :=
  match o.op with
  | .move x | .assign x => match ev D e x with
    | some s => K s
    | none => False
  | .pick c a b => match evv D e c with
    | some (.bool b') => cond b' (match ev D e a with
      | some s => K s
      | none => False) (match ev D e b with
      | some s => K s
      | none => False)
    | _ => False
  | .nilCheck x => match ev D e x with
    | some (.v (.pointer p)) => nck p fun a => K (.v (.pointer (some a)))
    | some (.p h off) => K (.p h off)
    | _ => False
  | .binOp op xt x y _ => match evv D e x, evv D e y with
    | some a, some b => bop P op xt a b fun r => K (.v r)
    | _, _ => False
  | .unOp op _ x => match evv D e x with
    | some a => uop op a fun r => K (.v r)
    | none => False
  | .convert src dst x => match P.underlying src, P.underlying dst, evv D e x with
    | some _, some (.int k), some (.int _ n) => K (.v (.int k (k.wrap n)))
    | _, _, _ => False
  | .fieldAddr s x f => match P.underlying s with
    | some (.struct fs) => match fs[f]? with
      | some fd => match sizeT P fd.type with
        | some (_ + 1) => match ev D e x with
          | some (.v (.pointer (some a))) => K (.v (.pointer (some (a.add fd.offset))))
          | some (.p h off) => K (.p h (off + fd.offset))
          | _ => False
        | _ => False
      | none => False
    | _ => False
  | .indexAddr t x i => match P.underlying t, evv D e i with
    | some (.slice el), some (.int _ n) => match sizeT P el, evv D e x with
      | some sz, some (.slice p l c) => ixa ⟨p, l, c⟩ n sz fun a => K (.v (.pointer (some a)))
      | _, _ => False
    | some (.array len el), some (.int _ n) => match sizeT P el, ev D e x with
      | some sz, some (.v (.pointer (some a))) => ixp a n len sz fun a => K (.v (.pointer (some a)))
      | some sz, some (.p h off) => match n with
        | .ofNat m => match Nat.blt m len with
          | true => K (.p h (off + m * sz))
          | false => False
        | _ => False
      | _, _ => False
    | _, _ => False
  | .field t x f => match P.underlying t, evv D e x with
    | some (.struct fs), some (.agg cs) => match fs[f]? with
      | some fd => match prt P fd.type cs.toList fd.offset with
        | some v => K (.v v)
        | none => False
      | none => False
    | _, _ => False
  | .index t x i => match P.underlying t, evv D e x, evv D e i with
    | some (.array len el), some (.agg cs), some (.int _ (.ofNat m)) => match sizeT P el with
      | some sz => match Nat.blt m len with
        | true => match prt P el cs.toList (m * sz) with
          | some v => K (.v v)
          | none => False
        | false => False
      | none => False
    | some .string, some (.string s), some (.int _ n) => ixs s n fun b => K (.v (.int .u8 b))
    | _, _, _ => False
  | .extract t i => match evv D e t with
    | some (.tuple vs) => match vs.toList[i]? with
      | some v => K (.v v)
      | none => False
    | _ => False
  | .slice t x lo hi mx => match P.underlying t, evv D e x, mx with
    | some (.slice el), some (.slice p l c), none => match sizeT P el with
      | some sz =>
        match lo, hi with
        | none, none => slc ⟨p, l, c⟩ 0 l sz fun s => K (.v s.v)
        | some lo, none => match evv D e lo with
          | some (.int _ a) => slc ⟨p, l, c⟩ a l sz fun s => K (.v s.v)
          | _ => False
        | none, some hi => match evv D e hi with
          | some (.int _ b) => slc ⟨p, l, c⟩ 0 b sz fun s => K (.v s.v)
          | _ => False
        | some lo, some hi => match evv D e lo, evv D e hi with
          | some (.int _ a), some (.int _ b) => slc ⟨p, l, c⟩ a b sz fun s => K (.v s.v)
          | _, _ => False
      | none => False
    | _, _, _ => False
  | .makeFunc fn first captured => match evvs D e first.toList, evvs D e captured.toList with
    | some a, some b => K (.v (.func fn a.toArray b.toArray))
    | _, _ => False
  | .build t parts => match evParts D e parts.toList with
    | some ps => match bld P t ps with
      | some cs => K (.v (.agg cs.toArray))
      | none => False
    | none => False
  | .call { callee := .builtin b, args, argTypes } => match b, args.toList, argTypes.toList with
    | .len, [x], [t] => match P.underlying t, evv D e x with
      | some (.slice _), some (.slice _ n _) => K (.v (.int .i64 n))
      | some .string, some (.string s) => K (.v (.int .i64 s.size))
      | some (.array n _), some _ => K (.v (.int .i64 n))
      | _, _ => False
    | .cap, [x], [t] => match P.underlying t, evv D e x with
      | some (.slice _), some (.slice _ _ n) => K (.v (.int .i64 n))
      | _, _ => False
    | .max, x :: xs, _ => match evv D e x, evvs D e xs with
      | some a, some as => match mm true a as with
        | some v => K (.v v)
        | none => False
      | _, _ => False
    | .min, x :: xs, _ => match evv D e x, evvs D e xs with
      | some a, some as => match mm false a as with
        | some v => K (.v v)
        | none => False
      | _, _ => False
    | _, _, _ => False
  | _ => False

def ldcs (w : TW) (a : Addr) : Nat → List CK → (List Value → Prop) → Prop
  | _, [], K => K []
  | i, c :: cs, K => ldc c w (a.add i) fun x => ldcs w a (i + 1) cs fun vs => K (CV.enc c x :: vs)

def pairs (a : Addr) : Nat → List Value → List (Addr × Value)
  | _, [] => []
  | i, v :: vs => (a.add i, v) :: pairs a (i + 1) vs

def vkeys (h : Nat) : Nat → List Value → List (Nat × Nat × Value)
  | _, [] => []
  | off, v :: vs => (h, off, v) :: vkeys h (off + 1) vs

/-- A load; K is told, too, which cells (of memory, of local blocks) it hangs on. -/
def lop (o : Oper) (e : Env) (w : TW) (K : SV → List (Addr × Value) → List (Nat × Nat × Value) → Prop) : Prop :=
  match o.op with
  | .load t x => match ev D e x, vtOf P t with
    | some (.v (.pointer (some a))), some (.one c) => ldc c w a fun x => K (.v (CV.enc c x)) [(a, CV.enc c x)] []
    | some (.v (.pointer (some a))), some (.agg cs) => match sizeT P t with
      | some n => match Nat.beq n cs.length with
        | true => ldcs w a 0 cs fun vs => K (.v (.agg vs.toArray)) (pairs a 0 vs) []
        | false => False
      | none => False
    | some (.p h off), some (.one _) => match e.get (h + off), inB D h off 1 with
      | some (.v v), true => K (.v v) [] [(h, off, v)]
      | _, _ => False
    | some (.p h off), some (.agg cs) => match sizeT P t with
      | some n => match Nat.beq n cs.length && inB D h off n, e.gets (h + off) n with
        | true, some vs => K (.v (.agg vs.toArray)) [] (vkeys h off vs)
        | _, _ => False
      | none => False
    | _, _ => False
  | _ => False

def stcs (a : Addr) : Nat → List Value → TW → (TW → Prop) → Prop
  | _, [], w, K => K w
  | i, v :: vs, w, K => match v.oneCell' with
    | true => stc w (a.add i) v fun w' => stcs a (i + 1) vs w' K
    | false => False

/-- The old addresses of a local block that is made anew. -/
def clr (h : Nat) : Env → Env
  | [] => []
  | (k, .p h' off) :: e => match Nat.beq h' h with
    | true => (k, .q) :: clr h e
    | false => (k, .p h' off) :: clr h e
  | x :: e => x :: clr h e

def putKeys : Nat → List Value → Env → Env
  | _, [], e => e
  | k, v :: vs, e => putKeys (k + 1) vs ((k, .v v) :: e)

def ones : List Value → Bool
  | [] => true
  | v :: vs => match v.oneCell' with
    | true => ones vs
    | false => false

/-- Operations that write or make memory, and calls. -/
def wop (o : Oper) (e : Env) (w : TW) (K : Option SV → Env → TW → Prop) : Prop :=
  match o.op with
  | .alloc el => match zeroL P el, o.dst with
    | some z, some d => match nat? D.va d with
      | none => nwb w z el fun b w' => K (some (.v (.pointer (some ⟨b, 0, none⟩)))) e w'
      | some h => match isB D h z.length with
        | true => nwv w fun w' => K (some (.p h 0)) (putKeys h z (clr h e)) w'
        | false => False
    | _, _ => False
  | .box el x => match evv D e x, o.dst with
    | some v, some d => match nat? D.va d with
      | none => nwb w v.cells.toList el fun b w' => K (some (.v (.pointer (some ⟨b, 0, none⟩)))) e w'
      | some h => match isB D h v.cells.toList.length with
        | true => nwv w fun w' => K (some (.p h 0)) (putKeys h v.cells.toList (clr h e)) w'
        | false => False
    | _, _ => False
  | .buildSlice t len parts => match P.underlying t, evParts D e parts.toList with
    | some (.slice el), some ps => match sizeT P el, zeroL P el with
      | some sz, some z => match fillL (fun i => some (i * sz, sz)) (List.replicate len z).flatten ps with
        | some cs => match Nat.ble (len * sz) 16777216 && Nat.beq z.length sz with
          | true => nwb w cs el fun b w' => K (some (.v (.slice (some ⟨b, 0, none⟩) len len))) e w'
          | false => False
        | none => False
      | _, _ => False
    | _, _ => False
  | .makeSlice t l c => match P.underlying t, evv D e l, evv D e c with
    | some (.slice el), some (.int _ l), some (.int _ c) => match P.info? el, zeroL P el with
      | some i, some z => match Nat.beq z.length i.size with
        | true => mks w l c el i.bytes z fun s w' => K (some (.v s.v)) e w'
        | false => False
      | _, _ => False
    | _, _, _ => False
  | .store t x y => match ev D e x, evv D e y, sizeT P t, o.dst with
    | some (.v (.pointer (some a))), some v, some n, none => match Nat.beq v.cells.toList.length n with
      | true => stcs a 0 v.cells.toList w fun w' => K none e w'
      | false => False
    | some (.p h off), some v, some n, none => match Nat.beq v.cells.toList.length n && ones v.cells.toList && inB D h off n with
      | true => nwv w fun w' => K none (putKeys (h + off) v.cells.toList e) w'
      | false => False
    | _, _, _, _ => False
  | .call { callee := .builtin b, args, argTypes } => match b, args.toList, argTypes.toList with
    | .append, [x, y], [t, u] => match Nat.beq t u, P.underlying t, evv D e x, evv D e y with
      | true, some (.slice el), some (.slice p n c), some (.slice p' n' c') => match P.info? el, zeroL P el with
        | some i, some z => match Nat.beq z.length i.size && Nat.blt 0 i.size with
          | true => apd w el i.size i.bytes ⟨p, n, c⟩ ⟨p', n', c'⟩ fun s w' => K (some (.v s.v)) e w'
          | false => False
        | _, _ => False
      | _, _, _, _ => False
    | .copy, [x, y], [t, _] => match P.underlying t, evv D e x, evv D e y with
      | some (.slice el), some (.slice p n c), some (.slice p' n' c') => match sizeT P el with
        | some 1 => cpy w el ⟨p, n, c⟩ ⟨p', n', c'⟩ fun r w' => K (some (.v (.int .i64 r))) e w'
        | _ => False
      | _, _, _ => False
    | _, _, _ => False
  | .call { callee := .value (.func f), args, .. } => match nat? D.ext f with
    | some 1 => match evvs D e args.toList with
      | some [.int _ x, .int _ y, .int _ c] => add64 x y c fun s d => K (some (.v (.tuple #[.int .u64 s, .int .u64 d]))) e w
      | _ => False
    | some 2 => match evvs D e args.toList with
      | some [.int _ x, .int _ y, .int _ c] => sub64 x y c fun s d => K (some (.v (.tuple #[.int .u64 s, .int .u64 d]))) e w
      | _ => False
    | some 0 => match evvs D e args.toList, rtOf P o.type with
      | some vs, some rt => cl P f vs w rt (lam (fl rt) fun x w' => K (some (.v (rets rt x))) e w')
      | _, _ => False
    | _ => False
  | .call { callee := .value (.tmp t), args, .. } => match ev D e (.tmp t), evvs D e args.toList, rtOf P o.type with
    | some (.v fv), some vs, some rt => clv P fv vs w rt (lam (fl rt) fun x w' => K (some (.v (rets rt x))) e w')
    | _, _, _ => False
  | _ => False

inductive Kd where
  | pure | load | loud
  deriving DecidableEq

def kd (o : Oper) : Kd :=
  match o.op with
  | .load .. => .load
  | .alloc _ | .box .. | .buildSlice .. | .makeSlice .. | .store .. => .loud
  | .call { callee := .builtin .append, .. } | .call { callee := .builtin .copy, .. } => .loud
  | .call { callee := .value _, .. } => .loud
  | _ => .pure

def dput (d : Option Tmp) (x : SV) (e : Env) (K : Env → Prop) : Prop := match d with
  | none => K e
  | some d => match Nat.blt d D.N with
    | true => K ((d, x) :: e)
    | false => False

/-- A guard: the slot of operation g, against 'want'. -/
def gd (ops : List Oper) (o : Oper) (e : Env) (A : Env → Prop) (B : Env → Prop) : Prop := match o.guard with
  | none => A e
  | some (g, want) => match ops[g]? with
    | some og => match og.dst with
      | some t => match ev D e (.tmp t) with
        | some (.v (.bool b)) => cond b
            (match want with
              | true => A ((t, .v (.bool true)) :: e)
              | false => B ((t, .v (.bool true)) :: e))
            (match want with
              | true => B ((t, .v (.bool false)) :: e)
              | false => A ((t, .v (.bool false)) :: e))
        | some (.v (.tuple _)) => B e
        | _ => False
      | none => False
    | none => False

def dop (o : Oper) (e : Env) (w : TW) (K : Env → TW → Prop) : Prop :=
  match kd o with
  | .pure => pop P D o e fun x => dput D o.dst x e fun e => K e w
  | .load => lop P D o e w fun x _ _ => dput D o.dst x e fun e => K e w
  | .loud => wop P D o e w fun x e w' => match x with
    | none => K e w'
    | some x => dput D o.dst x e fun e => K e w'

def dops (ops : List Oper) : List Oper → Env → TW → (Env → TW → Prop) → Prop
  | [], e, w, K => K e w
  | o :: os, e, w, K => gd D ops o e (fun e => dop P D o e w fun e w => dops ops os e w K)
      (fun e => dput D o.dst (.v undef) e fun e => dops ops os e w K)

/-! Regions that draw their order. -/
def waits (ops : List Oper) (j i : Nat) : Bool := match ops[j]? with
  | some o => o.after.toList.any fun d => Region.binds .any d && d.on == i
  | none => true

def firstPure (ops : List Oper) : List Nat → Option (Nat × Oper)
  | [] => none
  | i :: is => match ops[i]? with
    | some o => match kd o with
      | .loud => firstPure ops is
      | _ => some (i, o)
    | none => firstPure ops is

structure Tk where
  i : Nat
  cells : List (Addr × Value)
  keys : List (Nat × Nat × Value)

/-- What is still to be kept behind operation j. -/
def dropT (ops : List Oper) (j : Nat) : List Tk → List Tk
  | [] => []
  | t :: ts => match waits ops j t.i with
    | true => dropT ops j ts
    | false => t :: dropT ops j ts

def cellsT : List Tk → List (Addr × Value)
  | [] => []
  | t :: ts => t.cells ++ cellsT ts

def keysT : List Tk → List (Nat × Nat × Value)
  | [] => []
  | t :: ts => t.keys ++ keysT ts

def allOf : List Nat → (Nat → Prop) → Prop
  | [], _ => True
  | [i], K => K i
  | i :: j :: is, K => K i ∧ allOf (j :: is) K

/-- May a local block's cells be written (a store, a new local block) while these keys are looked at? -/
def keysKept (e e' : Env) (ks : List (Nat × Nat × Value)) : Bool := ks.all fun k => !memN ((e'.take (e'.length - e.length)).map (·.1)) (k.1 + k.2.1)

def dany (ops : Array Oper) : Nat → Array Bool → List Tk → Env → TW → (Env → TW → Prop) → Prop
  | 0, listed, _, e, w, K => match Region.ready .any ops listed with
    | [] => K e w
    | _ => False
  | fuel + 1, listed, T, e, w, K => match Region.ready .any ops listed with
    | [] => K e w
    | i :: is => match firstPure ops.toList (i :: is) with
      | some (i, o) => match Region.free .any ops listed i with
        | false => False
        | true => gd D ops.toList o e
            (fun e => match kd o with
              | .load => lop P D o e w fun x cs ks => dput D o.dst x e fun e => dany ops fuel (listed.setIfInBounds i true) (⟨i, cs, ks⟩ :: T) e w K
              | _ => pop P D o e fun x => dput D o.dst x e fun e => dany ops fuel (listed.setIfInBounds i true) T e w K)
            (fun e => dput D o.dst (.v undef) e fun e => dany ops fuel (listed.setIfInBounds i true) T e w K)
      | none => allOf (i :: is) fun i => match ops[i]? with
        | none => False
        | some o => gd D ops.toList o e
            (fun e => wop P D o e w fun x e' w' => match keysKept e e' (keysT (dropT ops.toList i T)) with
              | true => hld w' (cellsT (dropT ops.toList i T)) (match x with
                | none => dany ops fuel (listed.setIfInBounds i true) (dropT ops.toList i T) e' w' K
                | some x => dput D o.dst x e' fun e => dany ops fuel (listed.setIfInBounds i true) (dropT ops.toList i T) e w' K)
              | false => False)
            (fun e => dput D o.dst (.v undef) e fun e => dany ops fuel (listed.setIfInBounds i true) T e w K)

/-! Code. -/
def wrO : List Oper → List Nat
  | [] => []
  | o :: os => match o.dst with
    | some d => d :: wrO os
    | none => wrO os

def wr : Code → List Nat
  | .region _ ops _ => wrO ops.toList
  | .seq a b => wr a ++ wr b
  | .cond _ a b => wr a ++ wr b
  | .block _ c => wr c
  | .loop c => wr c
  | _ => []

/-- The number of the first region. -/
def fid : Code → Option Nat
  | .region i _ _ => some i
  | .seq a b => match fid a with
    | some i => some i
    | none => fid b
  | .cond _ a b => match fid a with
    | some i => some i
    | none => fid b
  | .block _ c => fid c
  | .loop c => fid c
  | _ => none

/-- Is the local block h made by an operation that writes one of these slots? -/
def remade : List (Nat × Nat) → List Nat → Nat → Bool
  | [], _, _ => false
  | (d, k) :: va, ws, h => match Nat.beq k h && memN ws d with
    | true => true
    | false => remade va ws h

def kept1 (ws : List Nat) (k : Nat) (x : SV) : Bool := match Nat.blt k D.N && !memN ws k with
  | true => match x with
    | .p h _ => !remade D.va ws h
    | _ => true
  | false => false

/-- What is known still behind code that writes these slots. -/
def keep (ws : List Nat) : Env → Env
  | [] => []
  | (k, x) :: e => match kept1 D ws k x with
    | true => (k, x) :: keep ws e
    | false => (k, .q) :: keep ws e

def vals (e : Env) : List (Nat × VT) → Option (List Value)
  | [] => some []
  | (k, _) :: ts => match e.get k, vals e ts with
    | some (.v v), some vs => some (v :: vs)
    | _, _ => none

def enter : List (Nat × VT) → List Value → Env → Env
  | (k, _) :: ts, v :: vs, e => (k, .v v) :: enter ts vs e
  | _, _, e => e

def tys : List (Nat × VT) → List VT
  | [] => []
  | (_, t) :: ts => t :: tys ts

def into {R : Type} (F : R) (ts : List (Nat × VT)) (e : Env) (J : Tel (fl (tys ts)) R) : R := match vals e ts with
  | some vs => match ungroup (tys ts) vs with
    | some l => match decs (fl (tys ts)) l with
      | some x => app (fl (tys ts)) J x
      | none => F
    | none => F
  | none => F

def envOf (ts : List (Nat × VT)) (x : HL (fl (tys ts))) (ws : List Nat) (e : Env) : Env :=
  enter ts (group (tys ts) (encs (fl (tys ts)) x)) (keep D ws e)

def noW : TW → Prop := fun _ => False

/-- The rest behind a piece of code: with a join where one is told. -/
def joined (t : Option (List (Nat × VT))) (ws : List Nat) (e : Env) (A : (Env → TW → Prop) → Prop) (K : Env → TW → Prop) : Prop := match t with
  | none => A K
  | some ts => Jn (fl (tys ts)) (fun J => A fun e' w' => into noW ts e' J w') (lam (fl (tys ts)) fun x w' => K (envOf D ts x ws e) w')

def annC (tag : Nat) (c : Code) : Option (List (Nat × VT)) := match fid c with
  | some i => ann? D.ann tag i
  | none => none

def den : Code → Env → TW → (Env → TW → Prop) → (Nat → Env → TW → Prop) → (Env → TW → Prop) → Prop
  | .skip, e, w, K, _, _ => K e w
  | .region i ops false, e, w, K, _, _ => joined D (ann? D.ann 0 i) (wrO ops.toList) e (fun K => dops P D ops.toList ops.toList e w K) K
  | .region i ops true, e, w, K, _, _ => joined D (ann? D.ann 0 i) (wrO ops.toList) e (fun K => dany P D ops ops.size (Array.replicate ops.size false) [] e w.drew K) K
  | .seq a b, e, w, K, X, R => den a e w (fun e w => den b e w K X R) X R
  | .cond c a b, e, w, K, X, R => match evv D e c with
    | some (.bool x) => joined D (annC D 1 (.cond c a b)) (wr (.cond c a b)) e (fun K => cond x (den a e w K X R) (den b e w K X R)) K
    | _ => False
  | .block i c, e, w, K, X, R => joined D (ann? D.ann 2 i) (wr c) e (fun K => den c e w K (fun j e w => match Nat.beq j i with
    | true => K e w
    | false => X j e w) R) K
  | .loop c, e, w, _, X, R => match annC D 3 c with
    | none => False
    | some ts => into noW ts e (Lp (fl (tys ts)) (lam (fl (tys ts)) fun x w C => den c (envOf D ts x (wr c) e) w (fun e w => into noW ts e C w) X R)) w
  | .exit i, e, w, _, X, _ => X i e w
  | .ret, e, w, _, _, R => R e w
  | _, _, _, _, _, _ => False

def rvs (e : Env) (w : TW) : List ResultVar → (List Value → Prop) → Prop
  | [], K => K []
  | .tmp t :: rs, K => match ev D e (.tmp t) with
    | some (.v v) => rvs e w rs fun vs => K (v :: vs)
    | _ => False
  | .cell t ty :: rs, K => lop P D { dst := none, op := .load ty (.tmp t), type := ty, pos := "", after := #[], guard := none } e w fun x _ _ => match x with
    | .v v => rvs e w rs fun vs => K (v :: vs)
    | _ => False

def args (k : Nat) : List Value → Env
  | [] => []
  | v :: vs => (k, .v v) :: args (k + 1) vs

def denF (fn : Func) (c : Code) (as : List Value) (w : TW) (R : Value → TW → Prop) : Prop :=
  let fin := fun e w => rvs P D e w fn.results.toList fun vs => R (ret vs) w
  den P D c (args 0 as) w fin (fun _ _ _ => False) fin

end
end Go.Proofs.Ythhohfgpaihngaa.Zg
