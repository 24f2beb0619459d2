/- A part of the proofs of this seat's laws: words, lemmas or contracts of its functions. -/
import Derived.Test.YthhohfgpaihngaaZgI
set_option linter.unusedVariables false
set_option linter.unusedSimpArgs false
set_option linter.unnecessarySimpa false
namespace Go.Proofs.Ythhohfgpaihngaa.Zg
open Go.RowKit

section
variable {P : Program} {D : Dc}

theorem dput_sound {β : Nat → Option Nat} {e : Env} {a : Act} {w : TW} (hA : Agree D β e a w) (hV : Vok D) {d : Option Tmp} {s : SV} {v : Value} (hs : SVR β s v) {K : Env → Prop} (h : dput D d s e K) : ∃ e', Agree D β e' (a.put d v) w ∧ K e' := by
  unfold dput at h
  split at h
  · exact ⟨e, hA, h⟩
  · split at h
    · rename_i hb
      exact ⟨_, hA.put (by simpa [Nat.blt_eq] using hb) hV.lo hs, h⟩
    · exact h.elim

theorem gd_sound {β : Nat → Option Nat} {e : Env} {a : Act} {w : TW} (hA : Agree D β e a w) {ops : Array Oper} {o : Oper} {A B : Env → Prop} (h : gd D ops.toList o e A B) :
    ∃ e', Agree D β e' a w ∧ ((Region.wanted o (yielded ops a.tmps) = true ∧ A e') ∨ (Region.wanted o (yielded ops a.tmps) = false ∧ B e')) := by
  unfold gd at h
  split at h
  · rename_i hg
    exact ⟨e, hA, .inl ⟨by simp [Region.wanted, hg], h⟩⟩
  · rename_i g want hg
    split at h
    · rename_i og hog
      split at h
      · rename_i t ht
        have hog' : ops[g]? = some og := by simpa using hog
        have hN : ∀ {s}, ev D e (.tmp t) = some s → t < D.N ∧ e.get t = some s := fun {s} hs => by
          simp only [ev] at hs
          cases hb : Nat.blt t D.N with
          | false => rw [hb] at hs; cases hs
          | true => rw [hb] at hs; exact ⟨by simpa [Nat.blt_eq] using hb, hs⟩
        split at h
        · rename_i b hb
          obtain ⟨hl, hget⟩ := hN hb
          have hv := hA.val t _ hl hget
          have hw : Region.wanted o (yielded ops a.tmps) = (some b == some want) := by simp [Region.wanted, hg, yielded, hog', ht, hv]
          have hA' := hA.know hget
          cases b with
          | true =>
            simp only [cond_true] at h
            cases want with
            | true => exact ⟨_, hA', .inl ⟨by rw [hw]; rfl, h⟩⟩
            | false => exact ⟨_, hA', .inr ⟨by rw [hw]; rfl, h⟩⟩
          | false =>
            simp only [cond_false] at h
            cases want with
            | true => exact ⟨_, hA', .inr ⟨by rw [hw]; rfl, h⟩⟩
            | false => exact ⟨_, hA', .inl ⟨by rw [hw]; rfl, h⟩⟩
        · rename_i vs hb
          obtain ⟨hl, hget⟩ := hN hb
          have hv := hA.val t _ hl hget
          exact ⟨e, hA, .inr ⟨by simp [Region.wanted, hg, yielded, hog', ht, hv], h⟩⟩
        · exact h.elim
      · exact h.elim
    · exact h.elim

/-- What a piece of code that writes these slots leaves alone. -/
structure Kp (D : Dc) (ws : List Nat) (β β' : Nat → Option Nat) (a a' : Act) : Prop where
  tmps : ∀ t, t ∉ ws → a'.tmps[t]? = a.tmps[t]?
  beta : ∀ h, remade D.va ws h = false → β' h = β h

theorem Kp.refl (ws : List Nat) (β : Nat → Option Nat) (a : Act) : Kp D ws β β a a := ⟨fun _ _ => rfl, fun _ _ => rfl⟩
theorem Kp.trans {ws : List Nat} {β β' β'' : Nat → Option Nat} {a a' a'' : Act} (h : Kp D ws β β' a a') (k : Kp D ws β' β'' a' a'') : Kp D ws β β'' a a'' :=
  ⟨fun t ht => (k.tmps t ht).trans (h.tmps t ht), fun x hx => (k.beta x hx).trans (h.beta x hx)⟩

theorem remade_iff {ws : List Nat} {h : Nat} : ∀ {va : List (Nat × Nat)}, remade va ws h = true ↔ ∃ d, (d, h) ∈ va ∧ d ∈ ws
  | [] => by simp [remade]
  | (d, k) :: va => by
    have ih := remade_iff (ws := ws) (h := h) (va := va)
    unfold remade
    split
    · rename_i hb
      simp only [Bool.and_eq_true] at hb
      have := Nat.eq_of_beq_eq_true hb.1
      subst this
      simp only [true_iff]
      exact ⟨d, .head _, memN_iff.1 hb.2⟩
    · rename_i hb
      rw [ih]
      constructor
      · rintro ⟨x, h1, h2⟩; exact ⟨x, .tail _ h1, h2⟩
      · rintro ⟨x, h1, h2⟩
        rcases List.mem_cons.1 h1 with h1 | h1
        · injection h1 with e1 e2
          subst e1; subst e2
          simp [memN_iff.2 h2] at hb
        · exact ⟨x, h1, h2⟩

theorem Kp.mono {ws ws' : List Nat} (hs : ∀ t ∈ ws, t ∈ ws') {β β' : Nat → Option Nat} {a a' : Act} (h : Kp D ws β β' a a') : Kp D ws' β β' a a' :=
  ⟨fun t ht => h.tmps t (fun hm => ht (hs t hm)), fun x hx => h.beta x (by
    cases hr : remade D.va ws x with
    | false => rfl
    | true =>
      obtain ⟨d, h1, h2⟩ := remade_iff.1 hr
      rw [remade_iff.2 ⟨d, h1, hs d h2⟩] at hx
      cases hx)⟩

theorem Kp.put {ws : List Nat} {β β' : Nat → Option Nat} {a a' : Act} (h : Kp D ws β β' a a') {d : Option Tmp} (hd : ∀ i, d = some i → i ∈ ws) (v : Value) : Kp D ws β β' a (a'.put d v) :=
  ⟨fun t ht => by
    rw [← h.tmps t ht]
    cases d with
    | none => rfl
    | some i => exact Array.getElem?_setIfInBounds_ne (fun e : i = t => ht (by rw [← e]; exact hd i rfl)), h.beta⟩

theorem Kp.step {ws : List Nat} {β β' β'' : Nat → Option Nat} {a a' : Act} (h : Kp D ws β β' a a') {d : Option Tmp} (hd : ∀ i, d = some i → i ∈ ws) (hb : ∀ k, (∀ i, d = some i → nat? D.va i ≠ some k) → β'' k = β' k) : Kp D ws β β'' a a' :=
  ⟨h.tmps, fun x hx => (hb x (fun i hi hn => by
    rw [remade_iff.2 ⟨i, nat?_mem hn, hd i hi⟩] at hx
    cases hx)).trans (h.beta x hx)⟩

/-- What stands behind a piece of code: an environment that agrees, and K. -/
def Nx (D : Dc) (ws : List Nat) (β : Nat → Option Nat) (a : Act) (K : Env → TW → Prop) (a' : Act) (v : World) : Prop := ∃ β' e w, w.w = v ∧ Agree D β' e a' w ∧ K e w ∧ Kp D ws β β' a a'

theorem dop_sound {β β0 : Nat → Option Nat} {e : Env} {a a0 : Act} {w : TW} {ws : List Nat} (hA : Agree D β e a w) (hk : Kp D ws β0 β a0 a) (hV : Vok D) (hE : XtOk P D.ext) {o : Oper} (ho : ∀ i, o.dst = some i → i ∈ ws) {K : Env → TW → Prop} {Q : Exit → Act → World → Prop} (h : dop P D o e w K) : o.wp P a w.w (Nx D ws β0 a0 K) Q := by
  unfold dop at h
  split at h
  · obtain ⟨s, v, hK, hs, hy⟩ := pop_sound hA h
    obtain ⟨e', hA', hK⟩ := dput_sound hA hV hs hK
    exact wp_value (hy _) ⟨β, e', w, rfl, hA', hK, hk.put ho v⟩
  · obtain ⟨s, v, cs, ks, hK, hs, hcs, hks, _, hy⟩ := lop_sound hA h
    obtain ⟨e', hA', hK⟩ := dput_sound hA hV hs hK
    exact wp_value (hy _ hcs hks) ⟨β, e', w, rfl, hA', hK, hk.put ho v⟩
  · refine Oper.wp_mono ?_ (wop_sound hA hV hE h)
    rintro a' v' ⟨s, v, β', e', w', rfl, rfl, hK, hA', hs, _, hb⟩
    cases s with
    | none =>
      simp only [SRo] at hs
      exact ⟨β', e', w', rfl, by rw [hs]; exact hA', hK, (hk.step ho hb).put ho v⟩
    | some x =>
      obtain ⟨e'', hA'', hK⟩ := dput_sound hA' hV hs hK
      exact ⟨β', e'', w', rfl, hA'', hK, (hk.step ho hb).put ho v⟩

theorem dops_sound (hV : Vok D) (hE : XtOk P D.ext) {ops : Array Oper} {K : Env → TW → Prop} {Q : Exit → Act → World → Prop} {ws : List Nat} {β0 : Nat → Option Nat} {a0 : Act} (hQ : ∀ a v, Nx D ws β0 a0 K a v → Q .normal a v) :
    ∀ {os : List Oper} {β : Nat → Option Nat} {e : Env} {a : Act} {w : TW}, (∀ o ∈ os, ∀ i, o.dst = some i → i ∈ ws) → Agree D β e a w → Kp D ws β0 β a0 a → dops P D ops.toList os e w K → wpList P ops Q os a w.w
  | [], β, e, a, w, _, hA, hk, h => hQ _ _ ⟨β, e, w, rfl, hA, h, hk⟩
  | o :: os, β, e, a, w, ho, hA, hk, h => by
    unfold dops at h
    obtain ⟨e', hA', ⟨hw, h⟩ | ⟨hw, h⟩⟩ := gd_sound hA h
    · unfold wpList
      rw [if_pos hw]
      refine .inl (Oper.wp_mono ?_ (dop_sound hA' hk hV hE (ho o (.head _)) h))
      rintro a' v' ⟨β', e'', w', rfl, hA'', hK, hk'⟩
      exact dops_sound hV hE hQ (fun o' ho' => ho o' (.tail _ ho')) hA'' hk' hK
    · unfold wpList
      rw [if_neg (by rw [hw]; simp)]
      obtain ⟨e'', hA'', h⟩ := dput_sound (s := .v undef) (v := undef) hA' hV rfl h
      exact dops_sound hV hE hQ (fun o' ho' => ho o' (.tail _ ho')) hA'' (hk.put (ho o (.head _)) undef) h

theorem keep_get {ws : List Nat} : ∀ {e : Env} {t : Nat} {s : SV}, (keep D ws e).get t = some s → s = .q ∨ (e.get t = some s ∧ t < D.N ∧ t ∉ ws ∧ ∀ h off, s = .p h off → remade D.va ws h = false)
  | [], t, s, h => by simp [keep, Env.get] at h
  | (k, x) :: e, t, s, h => by
    unfold keep at h
    split at h
    · rename_i hb
      rw [Env.get_cons] at h
      by_cases hkt : k = t
      · subst hkt
        simp at h
        subst h
        unfold kept1 at hb
        split at hb
        · rename_i hb2
          simp only [Bool.and_eq_true, Bool.not_eq_true'] at hb2
          refine .inr ⟨by rw [Env.get_cons]; simp, by simpa [Nat.blt_eq] using hb2.1, fun hm => ?_, fun h' off e' => ?_⟩
          · rw [memN_iff.2 hm] at hb2; simp at hb2
          · subst e'
            simpa using hb
        · cases hb
      · rw [if_neg hkt] at h
        rcases keep_get h with h | h
        · exact .inl h
        · refine .inr ?_
          rw [Env.get_cons, if_neg hkt]
          exact h
    · rw [Env.get_cons] at h
      by_cases hkt : k = t
      · rw [if_pos hkt] at h; injection h with h; exact .inl h.symm
      · rw [if_neg hkt] at h
        rcases keep_get h with h | h
        · exact .inl h
        · refine .inr ?_
          rw [Env.get_cons, if_neg hkt]
          exact h

theorem enter_get : ∀ {ts : List (Nat × VT)} {vs : List Value} {e : Env} {t : Nat} {s : SV}, (enter ts vs e).get t = some s → (∃ v, s = .v v ∧ ∃ (i : Nat) (T : VT), ts[i]? = some (t, T) ∧ vs[i]? = some v) ∨ ((∀ (i : Nat) (T : VT), ts[i]? = some (t, T) → vs[i]? = none) ∧ e.get t = some s)
  | [], vs, e, t, s, h => by simp [enter] at h; exact .inr ⟨by simp, h⟩
  | (k, T) :: ts, [], e, t, s, h => by simp [enter] at h; exact .inr ⟨by simp, h⟩
  | (k, T) :: ts, v :: vs, e, t, s, h => by
    simp only [enter] at h
    rw [Env.get_cons] at h
    by_cases hkt : k = t
    · subst hkt
      simp at h
      exact .inl ⟨v, h.symm, 0, T, rfl, rfl⟩
    · rw [if_neg hkt] at h
      rcases enter_get h with ⟨u, h1, i, T', h2, h3⟩ | ⟨h1, h2⟩
      · exact .inl ⟨u, h1, i + 1, T', by simpa using h2, by simpa using h3⟩
      · refine .inr ⟨fun i T' hi => ?_, h2⟩
        cases i with
        | zero => simp at hi; exact absurd hi.1 hkt
        | succ i => simpa using h1 i T' (by simpa using hi)

theorem vals_spec {e : Env} : ∀ {ts : List (Nat × VT)} {vs : List Value}, vals e ts = some vs → vs.length = ts.length ∧ ∀ (i k : Nat) (T : VT), ts[i]? = some (k, T) → ∃ v, vs[i]? = some v ∧ e.get k = some (.v v)
  | [], vs, h => by simp [vals] at h; subst h; simp
  | (k, T) :: ts, vs, h => by
    unfold vals at h
    split at h
    · rename_i v us hv hus
      injection h with h; subst h
      obtain ⟨h1, h2⟩ := vals_spec hus
      refine ⟨by simp [h1], fun i k' T' hi => ?_⟩
      cases i with
      | zero => simp at hi; obtain ⟨rfl, rfl⟩ := hi; exact ⟨v, rfl, hv⟩
      | succ i => exact h2 i k' T' (by simpa using hi)
    · cases h

theorem dec_enc {c : CK} {v : Value} {x : CV c} (h : CV.dec c v = some x) : CV.enc c x = v := by
  cases c <;> cases v <;> simp [CV.dec] at h <;> simp [CV.enc] <;> first | exact h.symm | (obtain ⟨rfl, rfl⟩ := h; exact ⟨rfl, rfl⟩) | (subst h; simp) | (simp [← h])

theorem decs_encs : ∀ {cs : List CK} {vs : List Value} {x : HL cs}, decs cs vs = some x → encs cs x = vs
  | [], [], x, h => rfl
  | [], v :: vs, x, h => by simp [decs] at h
  | c :: cs, [], x, h => by simp [decs] at h
  | c :: cs, v :: vs, x, h => by
    unfold decs at h
    split at h
    · rename_i y z hy hz
      injection h with h; subst h
      simp [encs, dec_enc hy, decs_encs hz]
    · cases h

theorem group_ungroup : ∀ {ts : List VT} {vs l : List Value}, ungroup ts vs = some l → group ts l = vs
  | [], [], l, h => rfl
  | [], v :: vs, l, h => by simp [ungroup] at h
  | .one c :: ts, [], l, h => by simp [ungroup] at h
  | .agg cs :: ts, [], l, h => by simp [ungroup] at h
  | .one c :: ts, v :: vs, l, h => by
    unfold ungroup at h
    split at h
    · rename_i l' hl
      injection h with h; subst h
      simp [group, group_ungroup hl]
    · cases h
  | .agg cs :: ts, v :: vs, l, h => by
    cases v
    case agg a =>
      simp only [ungroup] at h
      split at h
      · rename_i l' hb hl
        injection h with h; subst h
        have hb := Nat.eq_of_beq_eq_true hb
        simp only [group]
        rw [List.take_left' hb, List.drop_left' hb, group_ungroup hl]
      · cases h
    all_goals simp [ungroup] at h

theorem join_agree (hV : Vok D) {β β' : Nat → Option Nat} {e e' : Env} {a a' : Act} {w w' : TW} {ws : List Nat} (hA : Agree D β e a w) (hA' : Agree D β' e' a' w') (hk : Kp D ws β β' a a') {ts : List (Nat × VT)} {vs : List Value} (hv : vals e' ts = some vs) :
    Agree D β' (enter ts vs (keep D ws e)) a' w' := by
  obtain ⟨hl, hv⟩ := vals_spec hv
  have key : ∀ {t s}, (enter ts vs (keep D ws e)).get t = some s → (∃ v, s = .v v ∧ e'.get t = some (.v v)) ∨ s = .q ∨ (e.get t = some s ∧ t < D.N ∧ t ∉ ws ∧ ∀ h off, s = .p h off → remade D.va ws h = false) := by
    intro t s h
    rcases enter_get h with ⟨v, h1, i, T, h2, h3⟩ | ⟨_, h2⟩
    · obtain ⟨v', h4, h5⟩ := hv i t T h2
      rw [h3] at h4
      injection h4 with h4
      subst h4
      exact .inl ⟨v, h1, h5⟩
    · exact .inr (keep_get h2)
  refine ⟨hA'.defers, hA'.size, hA'.le, ?_, ?_, ?_, hA'.inj⟩
  · intro t v ht hg
    rcases key hg with ⟨u, h1, h2⟩ | h1 | ⟨h1, h2, h3, _⟩
    · injection h1 with h1; subst h1; exact hA'.val t v ht h2
    · cases h1
    · rw [hk.tmps t h3]; exact hA.val t v h2 h1
  · intro t h off hg
    rcases key hg with ⟨u, h1, h2⟩ | h1 | ⟨h1, h2, h3, h4⟩
    · cases h1
    · cases h1
    · obtain ⟨b, hb, hp⟩ := hA.ptr t h off h1
      exact ⟨b, (hk.beta h (h4 h off rfl)).trans hb, fun ht => (hk.tmps t h3).trans (hp ht)⟩
  · intro h b hb
    obtain ⟨n, cs, T, h1, h2, h3, h4, h5⟩ := hA'.cell h b hb
    refine ⟨n, cs, T, h1, h2, h3, h4, fun i v hi hg => ?_⟩
    rcases key hg with ⟨u, q1, q2⟩ | q1 | ⟨_, q2, _, _⟩
    · injection q1 with q1; subst q1; exact h5 i v hi q2
    · cases q1
    · have := hV.lo h n h1; omega
end
end Go.Proofs.Ythhohfgpaihngaa.Zg
