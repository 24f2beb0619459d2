/- A part of the proofs of this seat's laws: words, lemmas or contracts of its functions. -/
import Derived.Test.YthhohfgpaihngaaZgM
set_option linter.unusedVariables false
set_option linter.unusedSimpArgs false
set_option linter.unnecessarySimpa false
namespace Go.Proofs.Ythhohfgpaihngaa.Zg
open Go.RowKit

section
variable {P : Program}

theorem XtOk.of {ext : List (Nat × Nat)} (h0 : ext.all (fun x => match x.2 with
    | 0 => (P.funcs[x.1]?).any (fun fn => fn.body.isSome && !(fn.name == "runtime.NumGoroutine"))
    | _ => true) = true) (fa fs : Nat) (ha : ext.all (fun x => match x.2 with
    | 1 => Nat.beq x.1 fa
    | _ => true) = true) (hs : ext.all (fun x => match x.2 with
    | 2 => Nat.beq x.1 fs
    | _ => true) = true)
    (h1 : ∃ fn, P.funcs[fa]? = some fn ∧ (fn.name == "runtime.NumGoroutine") = false ∧ fn.body.isNone = true ∧ Extern.findNext fn = none ∧ Extern.find fn = some add64Entry)
    (h2 : ∃ fn, P.funcs[fs]? = some fn ∧ (fn.name == "runtime.NumGoroutine") = false ∧ fn.body.isNone = true ∧ Extern.findNext fn = none ∧ Extern.find fn = some sub64Entry) : XtOk P ext := by
  rw [List.all_eq_true] at h0 ha hs
  refine ⟨fun f hf => h0 _ (nat?_mem hf), fun f hf => ?_, fun f hf => ?_⟩
  · have := Nat.eq_of_beq_eq_true (ha _ (nat?_mem hf)); subst this; exact h1
  · have := Nat.eq_of_beq_eq_true (hs _ (nat?_mem hf)); subst this; exact h2

def Rt (X : Nat → Prop) (rt : List VT) (K : Tel (fl rt) (TW → Prop)) (w : TW) (v : Value) (T' : TW) : Prop := ∃ x : HL (fl rt), v = rets rt x ∧ Ext X w.here T' ∧ app (fl rt) K x (T'.at w.B)

theorem TW.here_le (w : TW) : w.here.B ≤ w.here.w.heap.size := Nat.le_refl _

/-- From a function's reading to its contract. -/
theorem ct_of_den {D : Dc} {f : FuncId} {fn : Func} {c : Code} {as : List Value} {w : TW} {X : Nat → Prop} {rt : List VT} {K : Tel (fl rt) (TW → Prop)} (hE : XtOk P D.ext) (hm : P.follows .mixedOrders = true)
    (hf : P.funcs[f]? = some fn) (hb : fn.body = some c) (hok : (apartB D.N D.vb && Nat.beq fn.ntmps D.N && Nat.ble as.length D.N && selOk c) = true)
    (h : denF P D fn c as w.here (Rt X rt K w)) : Ct P f as w X rt K := by
  simp only [Bool.and_eq_true] at hok
  refine Calls.mono (calls_of_den hok.1.1.1 hE hm hf hb hok.1.1.2 hok.1.2 hok.2 (w := w.here) (Nat.le_refl _) h) ?_
  rintro e w' ⟨v, T', rfl, rfl, x, rfl, hx, hK⟩
  exact ⟨x, T', rfl, rfl, hx, hK⟩

theorem Ext.back {X : Nat → Prop} {w T' : TW} (h : Ext X w.here T') : Ext X w (T'.at w.B) :=
  ⟨h.os, h.tape, h.output, h.size, rfl, h.sub, h.new, fun k hk hx _ => h.block k hk hx (.inl hk), h.shape⟩

/-- A call, by its contract. -/
theorem cl_of {f : FuncId} {args : List Value} {w : TW} {X : Nat → Prop} {rt : List VT} {Φ K : Tel (fl rt) (TW → Prop)} (h : Ct P f args w X rt Φ) (hX : ∀ b, X b → ¬ w.V b)
    (hK : allT (fl rt) (lam (fl rt) fun x => ∀ w', Ext X w w' → app (fl rt) Φ x w' → app (fl rt) K x w')) : cl P f args w rt K := by
  rw [allT_lam] at hK
  refine ⟨X, hX, Calls.mono h ?_⟩
  rintro e w' ⟨x, T', rfl, rfl, hx, hΦ⟩
  exact ⟨x, T', rfl, rfl, hx, hK x _ hx.back hΦ⟩

theorem cl0 {f : FuncId} {args : List Value} {w : TW} {rt : List VT} {Φ K : Tel (fl rt) (TW → Prop)} (h : Ct P f args w none_ rt Φ)
    (hK : allT (fl rt) (lam (fl rt) fun x => ∀ w', Ext none_ w w' → app (fl rt) Φ x w' → app (fl rt) K x w')) : cl P f args w rt K := cl_of h (fun _ h => h.elim) hK
end
end Go.Proofs.Ythhohfgpaihngaa.Zg
