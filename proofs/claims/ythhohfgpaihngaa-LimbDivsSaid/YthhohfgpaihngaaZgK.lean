/- A part of the proofs of this seat's laws: words, lemmas or contracts of its functions. -/
import Derived.Test.YthhohfgpaihngaaZgJ
set_option linter.unusedVariables false
set_option linter.unusedSimpArgs false
set_option linter.unnecessarySimpa false
namespace Go.Proofs.Ythhohfgpaihngaa.Zg
open Go.RowKit

section
variable {P : Program} {D : Dc} {ops : Array Oper} {Q : Exit → Act → World → Prop}

def holdsC (w : World) (rc : List (Addr × Value)) : Prop := ∀ x ∈ rc, w.cell? x.1 = some x.2

abbrev Lk := List (Nat × List (Addr × Value))

def later (ops : Array Oper) (j : Nat) (L : Lk) : Lk := L.filter fun x => !waits ops.toList j x.1

/-- Whatever order is picked from here on; the cells of what has been taken ahead of its time are kept. -/
def wpAnyF (P : Program) (ops : Array Oper) (Q : Exit → Act → World → Prop) : Nat → Lk → Array Bool → Act → World → Prop
  | 0, _, listed, a, w => Region.ready .any ops listed = [] ∧ Q .normal a w
  | fuel + 1, L, listed, a, w =>
    (Region.ready .any ops listed = [] → Q .normal a w) ∧
    ∀ j ∈ Region.ready .any ops listed, wpOp P ops Q j (fun a' w' => (∀ x ∈ later ops j L, holdsC w' x.2) ∧ wpAnyF P ops Q fuel (later ops j L) (listed.setIfInBounds j true) a' w') a w

theorem wpAny_of_F : ∀ (fuel : Nat) (L : Lk) (listed : Array Bool) (a : Act) (w : World), wpAnyF P ops Q fuel L listed a w → wpAny P .any ops Q fuel listed a w
  | 0, _, _, _, _, h => h
  | fuel + 1, _, _, _, _, h => ⟨h.1, fun j hj => wpOp_mono (fun a' w' h' => wpAny_of_F fuel _ _ a' w' h'.2) (h.2 j hj)⟩

theorem wpAnyF_less : ∀ (fuel : Nat) (x : Nat × List (Addr × Value)) (L : Lk) (listed : Array Bool) (a : Act) (w : World), wpAnyF P ops Q fuel (x :: L) listed a w → wpAnyF P ops Q fuel L listed a w
  | 0, _, _, _, _, _, h => h
  | fuel + 1, x, L, listed, a, w, h => ⟨h.1, fun j hj => wpOp_mono (fun a' w' h' => by
      by_cases hx : waits ops.toList j x.1 = true
      · have e : later ops j (x :: L) = later ops j L := by simp [later, hx]
        rw [e] at h'
        exact h'
      · have e : later ops j (x :: L) = x :: later ops j L := by simp [later, hx]
        rw [e] at h'
        exact ⟨fun y hy => h'.1 y (.tail _ hy), wpAnyF_less fuel x _ _ _ _ h'.2⟩) (h.2 j hj)⟩

theorem wpAnyF_first {i : Nat} {oi : Oper} {v : Value} {rc : List (Addr × Value)} (hi : ops[i]? = some oi) (hsel : ∀ (j : Nat) (o : Oper) cs b, ops[j]? = some o → o.op ≠ .select cs b)
    (hQ : ∀ c a w, Q (.panic c) a w → False) :
    ∀ (fuel : Nat) (L : Lk) (listed : Array Bool) (a : Act) (w : World),
      (∀ j oj, ops[j]? = some oj → j ≠ i → listed.getD j true = false → (∀ e ∈ oj.after, Region.binds .any e = true → e.on ≠ i) → oi.apart ops oj = true) →
      i ∈ Region.ready .any ops listed → YieldsIf P ops (fun w => holdsC w rc) oi v a → holdsC w rc → (∀ x ∈ L, holdsC w x.2) →
      wpAnyF P ops Q fuel ((i, rc) :: L) (listed.setIfInBounds i true) (a.put oi.dst v) w → wpAnyF P ops Q (fuel + 1) L listed a w := by
  intro fuel
  induction fuel with
  | zero =>
    intro L listed a w _ hr hy hS hL H
    refine ⟨fun h => (by rw [h] at hr; cases hr), fun j hj => ?_⟩
    by_cases hji : j = i
    · subst hji; exact hy.wpOp hi hS ⟨fun x hx => hL x ((List.mem_filter.1 hx).1), H⟩
    · have := ready_mono hj hji
      rw [H.1] at this
      cases this
  | succ fuel ih =>
    intro L listed a w hfree hr hy hS hL H
    refine ⟨fun h => (by rw [h] at hr; cases hr), fun j hj => ?_⟩
    by_cases hji : j = i
    · subst hji
      refine hy.wpOp hi hS ⟨fun x hx => hL x ((List.mem_filter.1 hx).1), ?_⟩
      have h1 : ∀ (f : Nat) (K L : Lk) (l : Array Bool) (a : Act) (w : World), wpAnyF P ops Q f (K ++ L) l a w → wpAnyF P ops Q f L l a w := by
        intro f K
        induction K with
        | nil => exact fun _ _ _ _ h => h
        | cons x K ihK => exact fun L l a w h => ihK L l a w (wpAnyF_less f x _ l a w h)
      have h2 : ∀ (f : Nat) (L : Lk) (p : Nat × List (Addr × Value) → Bool) (l : Array Bool) (a : Act) (w : World), wpAnyF P ops Q f L l a w → wpAnyF P ops Q f (L.filter p) l a w := by
        intro f
        induction f with
        | zero => exact fun _ _ _ _ _ h => h
        | succ f ihf =>
          intro L p l a w h
          refine ⟨h.1, fun j hj => wpOp_mono (fun a' w' h' => ?_) (h.2 j hj)⟩
          have e : later ops j (L.filter p) = (later ops j L).filter p := by simp [later, List.filter_filter, Bool.and_comm]
          rw [e]
          exact ⟨fun x hx => h'.1 x ((List.mem_filter.1 hx).1), ihf _ p _ _ _ h'.2⟩
      exact h2 _ _ _ _ _ _ (wpAnyF_less _ _ _ _ _ _ H)
    · have h1 := H.2 j (ready_mono hj hji)
      obtain ⟨hjun, oj, hoj, hall⟩ := mem_ready.1 hj
      have hnot : ∀ e ∈ oj.after, Region.binds .any e = true → e.on ≠ i := fun e he hb heq => by
        have h1 := hall e he hb
        have h0 := (mem_ready.1 hr).1
        rw [heq] at h1
        rcases Nat.lt_or_ge i listed.size with h' | h'
        · simp [h'] at h0 h1; rw [h0] at h1; cases h1
        · simp [Array.getElem?_eq_none h'] at h1
      have hwt : waits ops.toList j i = false := by
        have hoj' : ops.toList[j]? = some oj := by simpa using hoj
        simp only [waits, hoj']
        rw [List.any_eq_false]
        intro d hd
        cases hb : Region.binds .any d with
        | false => simp
        | true => simpa using hnot d (by simpa using hd) hb
      have e : later ops j ((i, rc) :: L) = (i, rc) :: later ops j L := by simp [later, hwt]
      rw [e] at h1
      have h2 := wpOp_putIf hoj (hfree j oj hoj hji hjun hnot) (fun cs b => hsel i oi cs b hi) (fun cs b => hsel j oj cs b hoj) (fun c a w h => (hQ c _ w h).elim) hy h1
      have hfree' : ∀ k ok, ops[k]? = some ok → k ≠ i → (listed.setIfInBounds j true).getD k true = false →
          (∀ e ∈ ok.after, Region.binds .any e = true → e.on ≠ i) → oi.apart ops ok = true := fun k ok hk hki hun hno => by
        refine hfree k ok hk hki ?_ hno
        by_cases hjk : j = k
        · subst hjk; exact hjun
        · rw [getD_set_ne true hjk] at hun; exact hun
      refine wpOp_mono (fun a' w' h3 => ⟨fun x hx => h3.2.1 x (.tail _ hx), ih (later ops j L) (listed.setIfInBounds j true) a' w' hfree' (ready_mono hr (Ne.symm hji)) h3.1 (h3.2.1 (i, rc) (.head _)) (fun x hx => h3.2.1 x (.tail _ hx)) ?_⟩) h2
      rw [Array.setIfInBounds_comm _ _ hji]
      exact h3.2.2
end
end Go.Proofs.Ythhohfgpaihngaa.Zg
