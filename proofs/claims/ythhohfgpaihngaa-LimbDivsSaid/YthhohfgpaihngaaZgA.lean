/- A part of the proofs of this seat's laws: words, lemmas or contracts of its functions. -/
import Derived.Below
import Derived.OrdersHeld
import Derived.KernelRfl
import Derived.Laws.AppendOwnNone
import Derived.Laws.CopyOwn
import Derived.WalkKit
set_option linter.unusedVariables false
set_option linter.unusedSimpArgs false
set_option linter.unnecessarySimpa false
namespace Go.Proofs.Ythhohfgpaihngaa.Zg
open Go.RowKit

/-! Values with a known shape. -/
structure Sl where
  p : Option Addr
  n : Nat
  c : Nat

abbrev Sl.v (s : Sl) : Value := .slice s.p s.n s.c
abbrev Sl.nil : Sl := ⟨none, 0, 0⟩
def Sl.blk (s : Sl) : Option Nat := s.p.map (·.block)
/-- s[lo:hi] -/
def Sl.cut (s : Sl) (lo hi sz : Nat) : Sl := ⟨if s.c = lo then s.p else s.p.map (·.add (lo * sz)), hi - lo, s.c - lo⟩

inductive CK where
  | int (k : IntKind) | bool | str | slice | ptr | fn

abbrev CV : CK → Type
  | .int _ => Int | .bool => Bool | .str => ByteArray | .slice => Sl | .ptr => Option Addr | .fn => Value

def CV.enc : (c : CK) → CV c → Value
  | .int k, n => .int k n | .bool, b => .bool b | .str, s => .string s | .slice, s => .slice s.p s.n s.c | .ptr, a => .pointer a | .fn, v => v

def CV.dec : (c : CK) → Value → Option (CV c)
  | .int k, .int k' n => if k = k' then some n else none
  | .bool, .bool b => some b
  | .str, .string s => some s
  | .slice, .slice p n c => some ⟨p, n, c⟩
  | .ptr, .pointer a => some a
  | .fn, v => some v
  | _, _ => none

/-- A row of known values. -/
abbrev HL : List CK → Type
  | [] => Unit
  | c :: cs => CV c × HL cs

def encs : (cs : List CK) → HL cs → List Value
  | [], _ => []
  | c :: cs, x => CV.enc c x.1 :: encs cs x.2

def decs : (cs : List CK) → List Value → Option (HL cs)
  | [], [] => some ()
  | c :: cs, v :: vs => match CV.dec c v, decs cs vs with
    | some x, some y => some (x, y)
    | _, _ => none
  | _, _ => none

/-- A function of known values, one behind the other. -/
abbrev Tel : List CK → Type → Type
  | [], R => R
  | c :: cs, R => CV c → Tel cs R

abbrev app {R : Type} : (cs : List CK) → Tel cs R → HL cs → R
  | [], f, _ => f
  | _ :: cs, f, x => app cs (f x.1) x.2

abbrev lam {R : Type} : (cs : List CK) → (HL cs → R) → Tel cs R
  | [], f => f ()
  | _ :: cs, f => fun x => lam cs fun y => f (x, y)

abbrev allT : (cs : List CK) → Tel cs Prop → Prop
  | [], p => p
  | c :: cs, p => ∀ x : CV c, allT cs (p x)

inductive VT where
  | one (c : CK) | agg (cs : List CK)

abbrev fl : List VT → List CK
  | [] => []
  | .one c :: ts => c :: fl ts
  | .agg cs :: ts => cs ++ fl ts

def group : List VT → List Value → List Value
  | [], _ => []
  | .one _ :: ts, v :: vs => v :: group ts vs
  | .one _ :: _, [] => []
  | .agg cs :: ts, vs => .agg (vs.take cs.length).toArray :: group ts (vs.drop cs.length)

def ungroup : List VT → List Value → Option (List Value)
  | [], [] => some []
  | .one _ :: ts, v :: vs => match ungroup ts vs with
    | some l => some (v :: l)
    | none => none
  | .agg cs :: ts, .agg a :: vs => match Nat.beq a.toList.length cs.length, ungroup ts vs with
    | true, some l => some (a.toList ++ l)
    | _, _ => none
  | _, _ => none

def ret (vs : List Value) : Value := match vs with
  | [v] => v
  | vs => .tuple vs.toArray

/-- What a call hands back. -/
def rets (rt : List VT) (x : HL (fl rt)) : Value := ret (group rt (encs (fl rt) x))

/-! Worlds. -/
/-- A world, and which of its blocks are local variables that nobody else sees (V); B: how many blocks there were when the function at hand began. -/
structure TW where
  w : World
  V : Nat → Prop
  B : Nat
  lt : ∀ b, V b → b < w.heap.size

abbrev TW.cell (T : TW) (a : Addr) : Option Value := T.w.cell? a
abbrev TW.sz (T : TW) : Nat := T.w.heap.size

/-- What was there is as it was, but for the blocks of X (whose shape is as it was) and the function's own local variables. -/
structure Ext (X : Nat → Prop) (T T' : TW) : Prop where
  os : T'.w.os = T.w.os
  tape : T'.w.tape = T.w.tape
  output : T'.w.output = T.w.output
  size : T.w.heap.size ≤ T'.w.heap.size
  floor : T'.B = T.B
  sub : ∀ b, T.V b → T'.V b
  new : ∀ b, T'.V b → T.V b ∨ T.w.heap.size ≤ b
  block : ∀ k, k < T.w.heap.size → ¬ X k → (k < T.B ∨ ¬ T.V k) → T'.w.heap[k]? = T.w.heap[k]?
  shape : ∀ k, k < T.w.heap.size → T'.w.shape? k = T.w.shape? k

/-- nothing -/
def none_ : Nat → Prop := fun _ => False

/-- The world as a function that is called now sees it; and back. -/
def TW.here (T : TW) : TW := { T with B := T.w.heap.size }
def TW.drew (T : TW) : TW := { T with w := { T.w with drawn := T.w.drawn + 1 } }
def TW.at (T' : TW) (B : Nat) : TW := { T' with B := B }

/-- A new block that is no local variable. -/
structure New (T : TW) (b : Nat) (cs : List Value) (e : TypeId) (T' : TW) : Prop where
  at_ : b = T.w.heap.size
  is : T'.w = T.w.alloc (.cells cs.toArray e)
  V : T'.V = T.V
  B : T'.B = T.B

/-- The cells of a slice (sz cells an element). -/
def Rdv (T : TW) (sz : Nat) (s : Sl) (vs : List Value) : Prop :=
  vs.length = s.n * sz ∧ s.n ≤ s.c ∧ s.c ≤ maxLen ∧ (vs ≠ [] → ∃ b o, s.p = some ⟨b, o, none⟩ ∧ ¬ T.V b ∧ ∀ j v, vs[j]? = some v → T.w.cell? ⟨b, o + j, none⟩ = some v)

/-- A slice at the head of a block (from block B on) that nobody else writes. -/
def Own (T : TW) (B : Nat) (e : TypeId) (sz : Nat) (s : Sl) (vs : List Value) : Prop := T.w.ownsRow B e sz s.v s.n vs ∧ ∀ b, s.blk = some b → ¬ T.V b

/-! The words of a printed function. -/
def bnd {α : Type} (x : α) (K : α → Prop) : Prop := K x
abbrev wi (x : Int) : Int := IntKind.i64.wrap x
abbrev wu (x : Int) : Int := IntKind.u64.wrap x
def bits2 (op : BinOp) (k : IntKind) (x y : Int) : Int :=
  let a := BitVec.ofInt k.bits x
  let b := BitVec.ofInt k.bits y
  match op with
  | .and => k.wrap (a &&& b).toNat
  | .or => k.wrap (a ||| b).toNat
  | .xor => k.wrap (a ^^^ b).toNat
  | .andNot => k.wrap (a &&& ~~~b).toNat
  | _ => 0

def shlK (k : IntKind) (a b : Int) (K : Int → Prop) : Prop := 0 ≤ b ∧ K (k.wrap (a * 2 ^ min b.toNat k.bits))
def shrK (k : IntKind) (a b : Int) (K : Int → Prop) : Prop := 0 ≤ b ∧ K (a.fdiv (2 ^ min b.toNat k.bits))
def divK (k : IntKind) (a b : Int) (K : Int → Prop) : Prop := b ≠ 0 ∧ K (k.wrap (a.tdiv b))
def remK (a b : Int) (K : Int → Prop) : Prop := b ≠ 0 ∧ K (a.tmod b)

def ldc (c : CK) (w : TW) (a : Addr) (K : CV c → Prop) : Prop := ∃ x : CV c, w.w.cell? a = some (CV.enc c x) ∧ K x

def nck (p : Option Addr) (K : Addr → Prop) : Prop :=
  match p with
  | some a => K a
  | none => False

def ixa (s : Sl) (i : Int) (sz : Nat) (K : Addr → Prop) : Prop := ∃ b : Addr, s.p = some b ∧ 0 ≤ i ∧ i < s.n ∧ K (b.add (i.toNat * sz))
def ixp (a : Addr) (i : Int) (len sz : Nat) (K : Addr → Prop) : Prop := 0 ≤ i ∧ i < len ∧ K (a.add (i.toNat * sz))

def TW.set (T : TW) (a : Addr) (v : Value) : TW := { T with w := T.w.setCell a v, lt := fun b h => by simpa [World.setCell] using T.lt b h }

def stc (w : TW) (a : Addr) (v : Value) (K : TW → Prop) : Prop :=
  (∃ old, w.w.cell? a = some old) ∧ w.w.frozen? a = false ∧ ¬ w.V a.block ∧ K (w.set a v)

def nwb (w : TW) (cs : List Value) (e : TypeId) (K : Nat → TW → Prop) : Prop := ∀ b w', New w b cs e w' → K b w'

def hld (w : TW) (l : List (Addr × Value)) (K : Prop) : Prop := match l with
  | [] => K
  | x :: xs => (∀ y ∈ x :: xs, w.w.cell? y.1 = some y.2) ∧ K
/-- A local variable that no one else sees is made, or written. -/
def nwv (w : TW) (K : TW → Prop) : Prop := ∀ w', Ext none_ w w' → K w'

def mks (w : TW) (l c : Int) (e bytes : Nat) (zero : List Value) (K : Sl → TW → Prop) : Prop :=
  0 ≤ l ∧ l ≤ c ∧ c * bytes ≤ 140737488355328 ∧ c ≤ 9223372036854775807 ∧
  ∀ b w', New w b (List.replicate c.toNat zero).flatten e w' → K ⟨some ⟨b, 0, none⟩, l.toNat, c.toNat⟩ w'

def slc (s : Sl) (lo hi : Int) (sz : Nat) (K : Sl → Prop) : Prop := 0 ≤ lo ∧ lo ≤ hi ∧ hi ≤ s.c ∧ K (s.cut lo.toNat hi.toNat sz)

def apd (w : TW) (e sz bytes : Nat) (s x : Sl) (K : Sl → TW → Prop) : Prop :=
  ∃ B ls lx, Own w B e sz s ls ∧ Rdv w sz x lx ∧ B ≤ w.w.heap.size ∧ (∀ v ∈ lx, v.oneCell' = true) ∧ s.n + x.n ≤ maxLen ∧ (s.n + x.n) * bytes ≤ 140737488355328 ∧
    ∀ s' w', Own w' B e sz s' (ls ++ lx) → s'.n = s.n + x.n → Ext (fun b => s.blk = some b) w w' → (∀ b, s'.blk = some b → s.blk = some b ∨ w.w.heap.size ≤ b) → K s' w'

def cpy (w : TW) (e : Nat) (d s : Sl) (K : Int → TW → Prop) : Prop :=
  (min s.n d.n = 0 ∧ K 0 w) ∨ ∃ lx b o cur, Rdv w 1 s lx ∧ (∀ v ∈ lx, v.oneCell' = true) ∧ d.p = some ⟨b, o, none⟩ ∧ ¬ w.V b ∧ w.w.heap[b]? = some (.cells cur e (0, 0)) ∧ o + min s.n d.n ≤ cur.size ∧
    ∀ w', w'.w.heap[b]? = some (.cells (splice cur.toList o (lx.take (min s.n d.n))).toArray e (0, 0)) → Ext (fun k => k = b) w w' → K (min s.n d.n : Nat) w'

/-- A function's contract: what it hands back, in which world; it writes old memory in blocks of X alone. -/
def Ct (P : Program) (f : FuncId) (args : List Value) (w : TW) (X : Nat → Prop) (rt : List VT) (K : Tel (fl rt) (TW → Prop)) : Prop :=
  Calls P f args.toArray w.w (fun e w' => ∃ (x : HL (fl rt)) (T' : TW), T'.w = w' ∧ e = .returned (rets rt x) ∧ Ext X w.here T' ∧ app (fl rt) K x (T'.at w.B))

def cl (P : Program) (f : FuncId) (args : List Value) (w : TW) (rt : List VT) (K : Tel (fl rt) (TW → Prop)) : Prop :=
  ∃ X : Nat → Prop, (∀ b, X b → ¬ w.V b) ∧ Ct P f args w X rt K

def clv (P : Program) (v : Value) (args : List Value) (w : TW) (rt : List VT) (K : Tel (fl rt) (TW → Prop)) : Prop :=
  ∃ f first captured, v = .func (.func f) first captured ∧ (P.funcs[f]?).any (fun fn => fn.body.isSome && !(fn.name == "runtime.NumGoroutine")) = true ∧ cl P f (first.toList ++ args ++ captured.toList) w rt K

/-- Where ways meet. -/
def Jn (cs : List CK) (A : Tel cs (TW → Prop) → Prop) (K : Tel cs (TW → Prop)) : Prop :=
  ∃ J : Tel cs (TW → Prop), A J ∧ allT cs (lam cs fun x => ∀ w, app cs J x w → app cs K x w)

def LpB (cs : List CK) (body : Tel cs (TW → (Tel cs (TW → Prop)) → Prop)) (x : HL cs) (w : TW) : Prop :=
  ∃ I : Nat → Tel cs (TW → Prop), (∃ m, app cs (I m) x w) ∧
    ∀ m, allT cs (lam cs fun x => ∀ w, app cs (I m) x w → app cs body x w (lam cs fun x' w' => ∃ m', m' < m ∧ app cs (I m') x' w'))
def Lp (cs : List CK) (body : Tel cs (TW → (Tel cs (TW → Prop)) → Prop)) : Tel cs (TW → Prop) := lam cs fun x w => LpB cs body x w

def add64 (x y c : Int) (K : Int → Int → Prop) : Prop :=
  ∃ a b d : Nat, x = a ∧ y = b ∧ c = d ∧ d ≤ 1 ∧ K ((a + b + d) % 18446744073709551616 : Nat) ((a + b + d) / 18446744073709551616 : Nat)
def sub64 (x y c : Int) (K : Int → Int → Prop) : Prop :=
  ∃ a b d : Nat, x = a ∧ y = b ∧ c = d ∧ d ≤ 1 ∧ K ((a + 18446744073709551616 - b - d) % 18446744073709551616 : Nat) (if a < b + d then 1 else 0 : Nat)

/-- An index into a string. -/
def ixs (s : ByteArray) (i : Int) (K : Int → Prop) : Prop := ∃ h : 0 ≤ i ∧ i.toNat < s.size, K (s[i.toNat]'h.2).toNat

end Go.Proofs.Ythhohfgpaihngaa.Zg
