/- A part of the proofs of this seat's laws: words, lemmas or contracts of its functions. -/
import Derived.Test.YthhohfgpaihngaaZgR
import Derived.Test.YthhohfgpaihngaaZgT3
set_option linter.unusedVariables false
set_option linter.unusedSimpArgs false
set_option linter.unnecessarySimpa false
namespace Go.Proofs.Ythhohfgpaihngaa.Zg
open Go.RowKit

/-- What is told of a slice of slices of integers that came in. -/
def IsRows (k : IntKind) (w : World) (a : Option Addr) (len cap : Nat) : Prop :=
  (a = none ∧ len = 0 ∧ cap = 0) ∨
  ∃ (x : Addr) (A : Nat → Option Addr) (L C : Nat → Nat) (Z : Nat → List Int), a = some x ∧ len ≤ cap ∧ cap ≤ maxLen ∧
    ∀ r, r < cap → w.cell? (x.add r) = some (.slice (A r) (L r) (C r)) ∧ IsRow k w (A r) (L r) (C r) (Z r)

theorem isRow_of {k : IntKind} {w : World} {a : Option Addr} {len cap : Nat} {zs : List Int} (h1 : len ≤ cap) (h2 : cap ≤ maxLen) (h3 : zs.length = cap) (h4 : ∀ n ∈ zs, (Lit.int k n).wf = true) (h5 : a = none → cap = 0) (h6 : ∀ a', a = some a' → ∀ c, c < cap → w.cell? (a'.add c) = some (.int k (zs.getD c 0))) : IsRow k w a len cap zs := by
  cases a with
  | none =>
    have := h5 rfl
    subst this
    exact .inl ⟨rfl, by omega, rfl, List.length_eq_zero_iff.1 h3⟩
  | some a => exact .inr ⟨a, rfl, h1, h2, h3, fun i hi => h6 a rfl i (by omega), h4⟩

theorem argL_of {W : World} {a : Option Addr} {len cap : Nat} (h : IsRows .u64 W a len cap) : ArgL (TW.of W) ⟨a, len, cap⟩ := by
  rcases h with ⟨rfl, rfl, rfl⟩ | ⟨x, A, L, C, Z, rfl, hl, hc, hr⟩
  · exact ⟨[], [], ⟨rfl, Nat.le_refl _, by decide, fun h => absurd rfl h⟩, rfl, fun i t h => by simp at h⟩
  · have hrow : ∀ r, ∃ l, r < len → Rd (TW.of W) ⟨A r, L r, C r⟩ l := fun r => by
      by_cases h : r < len
      · obtain ⟨l, hl⟩ := arg_of (hr r (by omega)).2
        exact ⟨l, fun _ => hl⟩
      · exact ⟨[], fun h' => absurd h' h⟩
    refine ⟨(List.range len).map fun r => Classical.choose (hrow r), (List.range len).map fun r => ⟨A r, L r, C r⟩, ⟨by simp, hl, hc, fun hne => ?_⟩, by simp, fun i t hi => ?_⟩
    · have hpos : 0 < len := by
        rcases Nat.eq_zero_or_pos len with h | h
        · subst h; exact absurd (by simp) hne
        · exact h
      have h0 := (hr 0 (by omega)).1
      have hspot := cell_spot h0
      obtain ⟨b, o, sp⟩ := x
      rw [show (Addr.add ⟨b, o, sp⟩ 0) = ⟨b, o, sp⟩ by rfl] at hspot
      simp only at hspot
      subst hspot
      refine ⟨b, o, rfl, fun h => h, fun j v hj => ?_⟩
      have hjl : j < len := by
        have := (List.getElem?_eq_some_iff.1 hj).1
        simpa using this
      have := (hr j (by omega)).1
      rw [Addr.add_mk] at this
      refine Eq.trans this ?_
      rw [← hj]
      simp [hjl]
    · have hil : i < len := by
        have := (List.getElem?_eq_some_iff.1 hi).1
        simpa using this
      have := Classical.choose_spec (hrow i) hil
      simp [hil] at hi
      subst hi
      simpa [hil] using this
end Go.Proofs.Ythhohfgpaihngaa.Zg
