/- A part of the proofs of this seat's laws: words, lemmas or contracts of its functions. -/
import Derived.Test.YthhohfgpaihngaaZgB
set_option linter.unusedVariables false
set_option linter.unusedSimpArgs false
set_option linter.unnecessarySimpa false
namespace Go.Proofs.Ythhohfgpaihngaa.Zg
open Go.RowKit

section
variable {P : Program} {D : Dc}

/-! ### Worlds -/
theorem Ext.refl (X : Nat → Prop) (w : TW) : Ext X w w := ⟨rfl, rfl, rfl, Nat.le_refl _, rfl, fun _ h => h, fun _ h => .inl h, fun _ _ _ _ => rfl, fun _ _ => rfl⟩
theorem Ext.trans {X : Nat → Prop} {a b c : TW} (h : Ext X a b) (k : Ext X b c) : Ext X a c :=
  ⟨k.os.trans h.os, k.tape.trans h.tape, k.output.trans h.output, Nat.le_trans h.size k.size, k.floor.trans h.floor, fun x hx => k.sub x (h.sub x hx),
    fun x hx => (k.new x hx).elim (h.new x) (fun hs => .inr (Nat.le_trans h.size hs)),
    fun i hi hx hv => (k.block i (Nat.lt_of_lt_of_le hi h.size) hx (by
      rcases hv with hv | hv
      · exact .inl (by rw [h.floor]; exact hv)
      · exact .inr (fun hb => (h.new i hb).elim hv (fun hs => by omega)))).trans (h.block i hi hx hv),
    fun i hi => (k.shape i (Nat.lt_of_lt_of_le hi h.size)).trans (h.shape i hi)⟩
theorem Ext.mono {X Y : Nat → Prop} {a b : TW} (h : Ext X a b) (hx : ∀ k, k < a.w.heap.size → X k → Y k) : Ext Y a b :=
  ⟨h.os, h.tape, h.output, h.size, h.floor, h.sub, h.new, fun k hk hy => h.block k hk (fun hX => hy (hx k hk hX)), h.shape⟩
theorem Ext.any {X : Nat → Prop} {a b : TW} (h : Ext none_ a b) : Ext X a b := h.mono fun _ _ h => h.elim
theorem shape_alloc (w : World) (o : Obj) (k : Nat) (hk : k < w.heap.size) : (w.alloc o).shape? k = w.shape? k := by
  unfold World.shape?
  rw [Below.heap_alloc w o k hk]
theorem New.ext {w w' : TW} {b : Nat} {cs : List Value} {e : TypeId} (h : New w b cs e w') (X : Nat → Prop) : Ext X w w' := by
  obtain ⟨rfl, h2, h3, h4⟩ := h
  refine ⟨by rw [h2]; rfl, by rw [h2]; rfl, by rw [h2]; rfl, by rw [h2]; simp, h4, fun x hx => by rw [h3]; exact hx, fun x hx => by rw [h3] at hx; exact .inl hx, fun k hk _ _ => by rw [h2]; exact Below.heap_alloc w.w _ k hk, fun k hk => by rw [h2]; exact shape_alloc _ _ _ hk⟩
theorem New.heap {w w' : TW} {b : Nat} {cs : List Value} {e : TypeId} (h : New w b cs e w') : w'.w.heap[b]? = some (.cells cs.toArray e (0, 0)) := by
  obtain ⟨rfl, h2, _, _⟩ := h
  rw [h2]
  exact heap_alloc_new w.w _

/-! ### The environment -/
theorem Env.get_cons (k : Nat) (x : SV) (e : Env) (t : Nat) : Env.get ((k, x) :: e) t = if k = t then some x else e.get t := by
  by_cases h : k = t
  · subst h; simp [Env.get]
  · have hb : Nat.beq k t = false := by
      cases hb : Nat.beq k t with
      | true => exact absurd (Nat.eq_of_beq_eq_true hb) h
      | false => rfl
    rw [if_neg h]
    conv => lhs; unfold Env.get
    simp [hb]

theorem beq_false {a b : Nat} (h : Nat.beq a b = false) : a ≠ b := fun e => by subst e; simp at h

theorem nat?_mem {α : Type} {l : List (Nat × α)} {t : Nat} {x : α} (h : nat? l t = some x) : (t, x) ∈ l := by
  induction l with
  | nil => cases h
  | cons y l ih =>
    obtain ⟨k, z⟩ := y
    unfold nat? at h
    cases hb : Nat.beq k t with
    | true => rw [hb] at h; injection h with h; subst h; rw [Nat.eq_of_beq_eq_true hb]; exact .head _
    | false => rw [hb] at h; exact .tail _ (ih h)

theorem memN_iff {l : List Nat} {t : Nat} : memN l t = true ↔ t ∈ l := by
  induction l with
  | nil => simp [memN]
  | cons k l ih =>
    unfold memN
    cases hb : Nat.beq k t with
    | true => simp [Nat.eq_of_beq_eq_true hb]
    | false => have := beq_false hb; simp [ih, Ne.symm this]

/-- Local blocks do not overlap, and lie behind the slots. -/
def apartB (N : Nat) : List (Nat × Nat) → Bool
  | [] => true
  | (h, n) :: l => Nat.ble N h && l.all (fun x => Nat.ble (h + n) x.1 || Nat.ble (x.1 + x.2) h) && apartB N l

/-- What the environment says of the slots and of the world; β: where the local blocks lie. -/
structure Agree (D : Dc) (β : Nat → Option Nat) (e : Env) (a : Act) (w : TW) : Prop where
  defers : a.defers = []
  size : a.tmps.size = D.N
  le : w.B ≤ w.w.heap.size
  val : ∀ t v, t < D.N → e.get t = some (.v v) → a.tmps[t]? = some v
  ptr : ∀ t h off, e.get t = some (.p h off) → ∃ b, β h = some b ∧ (t < D.N → a.tmps[t]? = some (.pointer (some ⟨b, off, none⟩)))
  cell : ∀ h b, β h = some b → ∃ n cs T, nat? D.vb h = some n ∧ w.w.heap[b]? = some (.cells cs T (0, 0)) ∧ (w.V b ∧ w.B ≤ b) ∧ cs.size = n ∧ ∀ i v, i < n → e.get (h + i) = some (.v v) → cs[i]? = some v
  inj : ∀ h h' b, β h = some b → β h' = some b → h = h'

/-- A value in a slot, as the environment has it. -/
def SVR (β : Nat → Option Nat) : SV → Value → Prop
  | .v u, v => v = u
  | .p h off, v => ∃ b, β h = some b ∧ v = .pointer (some ⟨b, off, none⟩)
  | .q, _ => True

theorem Agree.lt {β : Nat → Option Nat} {e : Env} {a : Act} {w : TW} (h : Agree D β e a w) {k b : Nat} (hk : β k = some b) : b < w.w.heap.size := by
  obtain ⟨n, cs, T, _, h2, _⟩ := h.cell k b hk
  exact (Array.getElem?_eq_some_iff.1 h2).1

theorem Agree.world {β : Nat → Option Nat} {e : Env} {a : Act} {w w' : TW} (h : Agree D β e a w) (hw : ∀ k b, β k = some b → w'.w.heap[b]? = w.w.heap[b]?) (hs : w.w.heap.size ≤ w'.w.heap.size) (hV : ∀ b, w.V b → w'.V b) (hB : w'.B = w.B) : Agree D β e a w' :=
  ⟨h.defers, h.size, by rw [hB]; exact Nat.le_trans h.le hs, h.val, h.ptr, fun k b hk => by
    obtain ⟨n, cs, T, h1, h2, h3, h4⟩ := h.cell k b hk
    exact ⟨n, cs, T, h1, (hw k b hk).trans h2, ⟨hV b h3.1, by rw [hB]; exact h3.2⟩, h4⟩, h.inj⟩

theorem Agree.put {β : Nat → Option Nat} {e : Env} {a : Act} {w : TW} (h : Agree D β e a w) {d : Nat} (hd : d < D.N) (hv : ∀ k n, nat? D.vb k = some n → D.N ≤ k) {x : SV} {v : Value} (hx : SVR β x v) : Agree D β ((d, x) :: e) (a.put (some d) v) w := by
  refine ⟨h.defers, by simp [Act.put, h.size], h.le, ?_, ?_, ?_, h.inj⟩
  · intro t u ht hu
    rw [Env.get_cons] at hu
    by_cases hdt : d = t
    · subst hdt
      simp at hu; subst hu
      simp only [SVR] at hx; subst hx
      simp [Act.put, h.size, hd]
    · rw [if_neg hdt] at hu
      simp [Act.put, Array.getElem?_setIfInBounds_ne hdt, h.val t u ht hu]
  · intro t k off hu
    rw [Env.get_cons] at hu
    by_cases hdt : d = t
    · subst hdt
      simp at hu; subst hu
      obtain ⟨b, hb, rfl⟩ := hx
      exact ⟨b, hb, fun _ => by simp [Act.put, h.size, hd]⟩
    · rw [if_neg hdt] at hu
      obtain ⟨b, hb, hp⟩ := h.ptr t k off hu
      exact ⟨b, hb, fun ht => by simp [Act.put, Array.getElem?_setIfInBounds_ne hdt, hp ht]⟩
  · intro k b hk
    obtain ⟨n, cs, T, h1, h2, h3, h4, h5⟩ := h.cell k b hk
    refine ⟨n, cs, T, h1, h2, h3, h4, fun i v hi hv' => h5 i v hi ?_⟩
    rw [Env.get_cons, if_neg (by have := hv k n h1; omega)] at hv'
    exact hv'

theorem Agree.put_none {β : Nat → Option Nat} {e : Env} {a : Act} {w : TW} (h : Agree D β e a w) (v : Value) : Agree D β e (a.put none v) w := h

/-- Another slot's value is known besides (a guard that has been decided). -/
theorem Agree.know {β : Nat → Option Nat} {e : Env} {a : Act} {w : TW} (h : Agree D β e a w) {t : Nat} {v : Value} (ht : e.get t = some (.v v)) : Agree D β ((t, .v v) :: e) a w := by
  refine ⟨h.defers, h.size, h.le, ?_, ?_, ?_, h.inj⟩
  · intro s u hs hu
    rw [Env.get_cons] at hu
    by_cases hst : t = s
    · subst hst; simp at hu; subst hu; exact h.val t v hs ht
    · rw [if_neg hst] at hu; exact h.val s u hs hu
  · intro s k off hu
    rw [Env.get_cons] at hu
    by_cases hst : t = s
    · subst hst; simp at hu
    · rw [if_neg hst] at hu; exact h.ptr s k off hu
  · intro k b hk
    obtain ⟨n, cs, T, h1, h2, h3, h4, h5⟩ := h.cell k b hk
    refine ⟨n, cs, T, h1, h2, h3, h4, fun i u hi hu => ?_⟩
    rw [Env.get_cons] at hu
    by_cases hst : t = k + i
    · subst hst; simp at hu; subst hu; exact h5 i v hi ht
    · rw [if_neg hst] at hu; exact h5 i u hi hu

theorem ev_sound {β : Nat → Option Nat} {e : Env} {a : Act} {w : TW} (h : Agree D β e a w) {x : Operand} {s : SV} (hs : ev D e x = some s) : SVR β s (a.eval x) := by
  cases x with
  | tmp t =>
    simp only [ev] at hs
    cases hb : Nat.blt t D.N with
    | false => rw [hb] at hs; cases hs
    | true =>
      rw [hb] at hs
      have ht : t < D.N := by simpa [Nat.blt_eq] using hb
      cases s with
      | v v =>
        have := h.val t v ht hs
        simp [SVR, Act.eval, this]
      | p k off =>
        obtain ⟨b, hb, hp⟩ := h.ptr t k off hs
        exact ⟨b, hb, by simp [Act.eval, hp ht]⟩
      | q => trivial
  | const v => simp only [ev] at hs; injection hs with hs; subst hs; rfl
  | func f => simp only [ev] at hs; injection hs with hs; subst hs; rfl
  | global g => simp [ev] at hs

theorem evv_sound {β : Nat → Option Nat} {e : Env} {a : Act} {w : TW} (h : Agree D β e a w) {x : Operand} {v : Value} (hs : evv D e x = some v) : a.eval x = v := by
  unfold evv at hs
  split at hs
  · rename_i u hu
    injection hs with hs; subst hs
    exact ev_sound h hu
  · cases hs

theorem evvs_sound {β : Nat → Option Nat} {e : Env} {a : Act} {w : TW} (h : Agree D β e a w) : ∀ {xs : List Operand} {vs : List Value}, evvs D e xs = some vs → xs.map a.eval = vs
  | [], vs, hs => by simp [evvs] at hs; simp [hs]
  | x :: xs, vs, hs => by
    unfold evvs at hs
    split at hs
    · rename_i v us hv hus
      injection hs with hs; subst hs
      simp [evv_sound h hv, evvs_sound h hus]
    · cases hs
end
end Go.Proofs.Ythhohfgpaihngaa.Zg
