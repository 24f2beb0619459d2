/- A part of the proofs of this seat's laws: words, lemmas or contracts of its functions. -/
import Derived.Test.YthhohfgpaihngaaZgF
set_option linter.unusedVariables false
set_option linter.unusedSimpArgs false
set_option linter.unnecessarySimpa false
namespace Go.Proofs.Ythhohfgpaihngaa.Zg
open Go.RowKit

section
variable {P : Program} {D : Dc}

theorem app_lam {R : Type} : ∀ (cs : List CK) (f : HL cs → R) (x : HL cs), app cs (lam cs f) x = f x
  | [], _, _ => rfl
  | _ :: cs, f, x => app_lam cs (fun y => f (x.1, y)) x.2

theorem allT_lam : ∀ (cs : List CK) (f : HL cs → Prop), allT cs (lam cs f) ↔ ∀ x, f x
  | [], f => ⟨fun h _ => h, fun h => h ()⟩
  | c :: cs, f => ⟨fun h x => (allT_lam cs _).1 (h x.1) x.2, fun h x => (allT_lam cs _).2 fun y => h (x, y)⟩

theorem putKeys_get : ∀ (vs : List Value) (k : Nat) (e : Env) (t : Nat), (putKeys k vs e).get t = if k ≤ t ∧ t < k + vs.length then (vs[t - k]?).map .v else e.get t
  | [], k, e, t => by simp [putKeys]; intro h1 h2; omega
  | v :: vs, k, e, t => by
    rw [putKeys, putKeys_get vs (k + 1) ((k, .v v) :: e) t, Env.get_cons]
    simp only [List.length_cons]
    by_cases h1 : k = t
    · subst h1; simp; intro h; omega
    · by_cases h2 : k + 1 ≤ t ∧ t < k + 1 + vs.length
      · rw [if_pos h2, if_pos (by omega), show t - k = (t - (k + 1)) + 1 by omega]; simp
      · rw [if_neg h2, if_neg h1, if_neg (by omega)]

theorem clr_get {h : Nat} : ∀ (e : Env) (t : Nat), (clr h e).get t = match e.get t with
    | some (.p h' off) => if h' = h then some .q else some (.p h' off)
    | x => x
  | [], t => rfl
  | (k, x) :: e, t => by
    have ih := clr_get (h := h) e t
    cases x with
    | v v => simp only [clr, Env.get_cons]; split <;> simp_all
    | q => simp only [clr, Env.get_cons]; split <;> simp_all
    | p h' off =>
      simp only [clr]
      cases hb : Nat.beq h' h with
      | true =>
        have := Nat.eq_of_beq_eq_true hb
        simp only [Env.get_cons]; split <;> simp_all
      | false =>
        have := beq_false hb
        simp only [Env.get_cons]; split <;> simp_all

theorem clr_length {h : Nat} : ∀ (e : Env), (clr h e).length = e.length
  | [] => rfl
  | (k, .v v) :: e => by simp [clr, clr_length e]
  | (k, .q) :: e => by simp [clr, clr_length e]
  | (k, .p h' off) :: e => by
    simp only [clr]
    split <;> simp [clr_length e]

theorem putKeys_length : ∀ (vs : List Value) (k : Nat) (e : Env), (putKeys k vs e).length = vs.length + e.length
  | [], k, e => by simp [putKeys]
  | v :: vs, k, e => by rw [putKeys, putKeys_length]; simp; omega

theorem putKeys_eq : ∀ (vs : List Value) (k : Nat) (e : Env), ∃ l, putKeys k vs e = l ++ e ∧ l.length = vs.length ∧ ∀ t, k ≤ t → t < k + vs.length → t ∈ l.map (·.1)
  | [], _, _ => ⟨[], rfl, rfl, fun t h1 h2 => by simp at h2; omega⟩
  | v :: vs, k, e => by
    obtain ⟨l, h1, h2, h3⟩ := putKeys_eq vs (k + 1) ((k, .v v) :: e)
    refine ⟨l ++ [(k, .v v)], by rw [putKeys, h1]; simp, by simp [h2], fun t ht1 ht2 => ?_⟩
    simp only [List.map_append, List.mem_append, List.map_cons, List.map_nil, List.mem_singleton]
    by_cases hkt : t = k
    · exact .inr hkt
    · exact .inl (h3 t (by omega) (by simp at ht2; omega))

structure Vok (D : Dc) : Prop where
  lo : ∀ h n, nat? D.vb h = some n → D.N ≤ h
  apart : ∀ h k m n, nat? D.vb h = some m → nat? D.vb k = some n → h ≠ k → h + m ≤ k ∨ k + n ≤ h

theorem Vok.of {D : Dc} (h : apartB D.N D.vb = true) : Vok D := by
  have key : ∀ l : List (Nat × Nat), apartB D.N l = true → (∀ h n, (h, n) ∈ l → D.N ≤ h) ∧ ∀ h k m n, (h, m) ∈ l → (k, n) ∈ l → h ≠ k → h + m ≤ k ∨ k + n ≤ h := by
    intro l
    induction l with
    | nil => simp
    | cons x l ih =>
      obtain ⟨a, b⟩ := x
      intro h
      simp only [apartB, Bool.and_eq_true, List.all_eq_true, Bool.or_eq_true] at h
      obtain ⟨⟨h1, h2⟩, h3⟩ := h
      obtain ⟨i1, i2⟩ := ih h3
      have h2' : ∀ x ∈ l, a + b ≤ x.1 ∨ x.1 + x.2 ≤ a := fun x hx => (h2 x hx).imp Nat.le_of_ble_eq_true Nat.le_of_ble_eq_true
      refine ⟨fun k n hk => ?_, fun p q m n hp hq hne => ?_⟩
      · rcases List.mem_cons.1 hk with hk | hk
        · injection hk with e1 e2; subst e1; exact Nat.le_of_ble_eq_true h1
        · exact i1 k n hk
      · rcases List.mem_cons.1 hp with hp' | hp' <;> rcases List.mem_cons.1 hq with hq' | hq'
        · injection hp' with e1 e2; injection hq' with e3 e4; exact absurd (e1.trans e3.symm) hne
        · injection hp' with e1 e2; subst e1; subst e2; exact h2' _ hq'
        · injection hq' with e1 e2; subst e1; subst e2; exact (h2' _ hp').symm
        · exact i2 p q m n hp' hq' hne
  obtain ⟨h1, h2⟩ := key _ h
  exact ⟨fun h n hh => h1 h n (nat?_mem hh), fun h k m n hh hk => h2 h k m n (nat?_mem hh) (nat?_mem hk)⟩

theorem Agree.store {β : Nat → Option Nat} {e : Env} {a : Act} {w w' : TW} (hA : Agree D β e a w) (hV : Vok D) {h off m b : Nat} {vs : List Value} {cs : Array Value} {T : TypeId} (hb : β h = some b) (hm : nat? D.vb h = some m) (hle : off + vs.length ≤ m)
    (hg : w.w.heap[b]? = some (.cells cs T (0, 0))) (hw : w'.w.heap[b]? = some (.cells (cs.toList.take off ++ vs ++ cs.toList.drop (off + vs.length)).toArray T (0, 0)))
    (ho : ∀ k, k ≠ b → w'.w.heap[k]? = w.w.heap[k]?) (hs : w'.w.heap.size = w.w.heap.size) (hV' : w'.V = w.V) (hB' : w'.B = w.B) : Agree D β (putKeys (h + off) vs e) a w' := by
  have hlo := hV.lo h m hm
  refine ⟨hA.defers, hA.size, by rw [hs, hB']; exact hA.le, ?_, ?_, ?_, hA.inj⟩
  · intro t v ht hv
    rw [putKeys_get, if_neg (by omega)] at hv
    exact hA.val t v ht hv
  · intro t k o hk
    rw [putKeys_get] at hk
    split at hk
    · rename_i hr
      cases hx : vs[t - (h + off)]? <;> simp [hx] at hk
    · exact hA.ptr t k o hk
  · intro k c hk
    obtain ⟨n, cs', T', h1, h2, h3, h4, h5⟩ := hA.cell k c hk
    by_cases hkh : k = h
    · subst hkh
      rw [hb] at hk; injection hk with hk; subst hk
      rw [hm] at h1; injection h1 with h1; subst h1
      rw [hg] at h2
      injection h2 with h2; injection h2 with e1 e2 _; subst e1; subst e2
      refine ⟨m, _, _, hm, hw, by rw [hV', hB']; exact h3, ?_, fun i v hi hv => ?_⟩
      · simp only [List.size_toArray, List.length_append, List.length_take, List.length_drop, Array.length_toList]; omega
      · rw [putKeys_get] at hv
        have hcl : cs.toList.length = m := by simpa using h4
        simp only [List.getElem?_toArray]
        split at hv
        · rename_i hr
          rw [List.append_assoc, List.getElem?_append_right (by simp [hcl]; omega), List.getElem?_append_left (by simp [hcl]; omega)]
          simp only [List.length_take, hcl]
          rw [show i - min off m = k + i - (k + off) by omega]
          simpa using hv
        · rename_i hr
          have hc := h5 i v hi hv
          rcases Nat.lt_or_ge i off with hi' | hi'
          · rw [List.append_assoc, List.getElem?_append_left (by simp [hcl]; omega), List.getElem?_take, if_pos hi']
            simpa using hc
          · rw [List.getElem?_append_right (by simp [hcl]; omega)]
            simp only [List.length_append, List.length_take, hcl, List.getElem?_drop]
            rw [show off + vs.length + (i - (min off m + vs.length)) = i by omega]
            simpa using hc
    · have hbc : c ≠ b := fun e => hkh (hA.inj _ _ _ (e ▸ hk) hb)
      refine ⟨n, cs', T', h1, (ho c hbc).trans h2, by rw [hV', hB']; exact h3, h4, fun i v hi hv => h5 i v hi ?_⟩
      rw [putKeys_get, if_neg] at hv
      · exact hv
      · rcases hV.apart h k m n hm h1 (Ne.symm hkh) with hh | hh <;> omega

theorem Agree.newv {β : Nat → Option Nat} {e : Env} {a : Act} {w w' : TW} (hA : Agree D β e a w) (hV : Vok D) {h m : Nat} {vs : List Value} {T : TypeId} (hm : nat? D.vb h = some m) (hle : vs.length = m)
    (hw : w'.w.heap[w.w.heap.size]? = some (.cells vs.toArray T (0, 0))) (ho : ∀ k, k < w.w.heap.size → w'.w.heap[k]? = w.w.heap[k]?) (hs : w.w.heap.size ≤ w'.w.heap.size) (hV' : ∀ b, w.V b → w'.V b) (hVn : w'.V w.w.heap.size) (hB' : w'.B = w.B) :
    Agree D (fun x => if x = h then some w.w.heap.size else β x) (putKeys h vs (clr h e)) a w' := by
  have hlo := hV.lo h m hm
  refine ⟨hA.defers, hA.size, by rw [hB']; exact Nat.le_trans hA.le hs, ?_, ?_, ?_, ?_⟩
  · intro t v ht hv
    rw [putKeys_get, if_neg (by omega), clr_get] at hv
    refine hA.val t v ht ?_
    split at hv
    · split at hv <;> simp at hv
    · exact hv
  · intro t k o hk
    rw [putKeys_get] at hk
    split at hk
    · rename_i hr
      cases hx : vs[t - h]? <;> simp [hx] at hk
    · rw [clr_get] at hk
      split at hk
      · rename_i h' off' hg
        split at hk
        · simp at hk
        · rename_i hne
          injection hk with hk; injection hk with e1 e2; subst e1; subst e2
          obtain ⟨b, hb, hp⟩ := hA.ptr t h' off' hg
          exact ⟨b, by rw [if_neg hne]; exact hb, hp⟩
      · rename_i hg
        exact absurd hk (by intro hk; exact hg k o hk)
  · intro k c hk
    by_cases hkh : k = h
    · subst hkh
      simp at hk; subst hk
      refine ⟨m, _, T, hm, hw, ⟨hVn, by rw [hB']; exact hA.le⟩, by simpa using hle, fun i v hi hv => ?_⟩
      rw [putKeys_get, if_pos (by omega)] at hv
      rw [show k + i - k = i by omega] at hv
      simpa using hv
    · rw [if_neg hkh] at hk
      obtain ⟨n, cs', T', h1, h2, h3, h4, h5⟩ := hA.cell k c hk
      refine ⟨n, cs', T', h1, (ho c (hA.lt hk)).trans h2, ⟨hV' c h3.1, by rw [hB']; exact h3.2⟩, h4, fun i v hi hv => h5 i v hi ?_⟩
      rw [putKeys_get, if_neg, clr_get] at hv
      · split at hv
        · split at hv <;> simp at hv
        · exact hv
      · rcases hV.apart h k m n hm h1 (Ne.symm hkh) with hh | hh <;> omega
  · intro x y b hx hy
    by_cases h1 : x = h <;> by_cases h2 : y = h
    · rw [h1, h2]
    · simp [h1, h2] at hx hy; subst hx; exact absurd (hA.lt hy) (Nat.lt_irrefl _)
    · simp [h1, h2] at hx hy; subst hy; exact absurd (hA.lt hx) (Nat.lt_irrefl _)
    · simp [h1, h2] at hx hy; exact hA.inj x y b hx hy
end
end Go.Proofs.Ythhohfgpaihngaa.Zg
