/- A part of the proofs of this seat's laws: words, lemmas or contracts of its functions. -/
import Derived.Test.YthhohfgpaihngaaZgL2
import Derived.ProofKit
import Derived.OpenShut
set_option linter.unusedVariables false
set_option linter.unusedSimpArgs false
set_option linter.unnecessarySimpa false
namespace Go.Proofs.Ythhohfgpaihngaa.Zg
open Go.RowKit

/-- The world as a call finds it. -/
def TW.of (W : World) : TW := ⟨W, fun _ => False, W.heap.size, fun _ h => h.elim⟩

theorem law_of {P : Program} {f : FuncId} {args : List Value} {W : World} (h : Ct P f args (TW.of W) none_ [.one .bool] fun (r : Bool) _ => r = true) : Calls P f args.toArray W fun e w' => e = .returned (.bool true) ∧ Below W.heap.size W w' := by
  refine Calls.mono h ?_
  rintro e w' ⟨⟨r, _⟩, T', rfl, rfl, hx, hr⟩
  have hr : r = true := hr
  subst hr
  exact ⟨rfl, hx.os, hx.tape, hx.output, hx.size, fun k hk => hx.block k hk (fun h => h) (.inl hk)⟩

/-- What is told of a slice of integers that came in. -/
def IsRow (k : IntKind) (w : World) (a : Option Addr) (len cap : Nat) (zs : List Int) : Prop :=
  (a = none ∧ len = 0 ∧ cap = 0 ∧ zs = []) ∨
  ∃ x, a = some x ∧ len ≤ cap ∧ cap ≤ maxLen ∧ zs.length = cap ∧ (∀ i, i < zs.length → w.cell? (x.add i) = some (.int k (zs.getD i 0))) ∧ ∀ n ∈ zs, (Lit.int k n).wf = true

theorem u64_of {n : Int} (h : (Lit.int .u64 n).wf = true) : ∃ m : Nat, n = m ∧ m < W64 := by
  simp only [Lit.wf, Bool.and_eq_true, decide_eq_true_eq] at h
  have h1 : IntKind.u64.min = 0 := by decide
  have h2 : IntKind.u64.max = 18446744073709551615 := by decide
  rw [h1, h2] at h
  exact ⟨n.toNat, by omega, by rw [w64]; omega⟩
theorem i64_of {n : Int} (h : (Lit.int .i64 n).wf = true) : -9223372036854775808 ≤ n ∧ n ≤ 9223372036854775807 := by
  simp only [Lit.wf, Bool.and_eq_true, decide_eq_true_eq] at h
  have h1 : IntKind.i64.min = -9223372036854775808 := by decide
  have h2 : IntKind.i64.max = 9223372036854775807 := by decide
  rwa [h1, h2] at h

theorem u64s_of {zs : List Int} (h : ∀ n ∈ zs, (Lit.int .u64 n).wf = true) : ∃ l : List Nat, zs = l.map Int.ofNat ∧ Sm W64 l := by
  induction zs with
  | nil => exact ⟨[], rfl, Sm.nil _⟩
  | cons z zs ih =>
    obtain ⟨l, h1, h2⟩ := ih fun n hn => h n (List.mem_cons_of_mem _ hn)
    obtain ⟨m, h3, h4⟩ := u64_of (h z (List.mem_cons_self ..))
    exact ⟨m :: l, by simp [h1, h3], Sm.cons h4 h2⟩

theorem cell_spot {w : World} {a : Addr} {v : Value} (h : w.cell? a = some v) : a.spot = none := by
  unfold World.cell? at h
  split at h
  · split at h
    · cases h
    · rename_i hs; simpa using hs
  · cases h

/-- A row of words that came in. -/
theorem arg_of {W : World} {a : Option Addr} {len cap : Nat} {zs : List Int} (h : IsRow .u64 W a len cap zs) : Arg (TW.of W) ⟨a, len, cap⟩ := by
  rcases h with ⟨rfl, rfl, rfl, rfl⟩ | ⟨x, rfl, hl, hc, hz, hcell, hwf⟩
  · exact ⟨[], Rd.nil _⟩
  · obtain ⟨l, rfl, hs⟩ := u64s_of hwf
    have hll : l.length = cap := by simpa using hz
    refine ⟨l.take len, ⟨by simp; omega, hl, hc, fun hne => ?_⟩, hs.take _⟩
    have hpos : 0 < len := by
      rcases Nat.eq_zero_or_pos len with h | h
      · subst h; exact absurd (by simp) hne
      · exact h
    have h0 := hcell 0 (by simp; omega)
    have hspot := cell_spot h0
    obtain ⟨b, o, sp⟩ := x
    rw [show (Addr.add ⟨b, o, sp⟩ 0) = ⟨b, o, sp⟩ by rfl] at hspot
    simp only at hspot
    subst hspot
    refine ⟨b, o, rfl, fun h => h, fun j v hj => ?_⟩
    have hjl : j < l.length := by
      rcases Nat.lt_or_ge j l.length with h | h
      · exact h
      · simp only [List.map_take, List.getElem?_take] at hj
        split at hj
        · simp [h] at hj
        · cases hj
    have := hcell j (by simpa using hjl)
    rw [Addr.add_mk] at this
    refine Eq.trans this ?_
    simp only [List.map_take, List.getElem?_take] at hj
    split at hj
    · rw [← hj]; simp [hjl]
    · cases hj
end Go.Proofs.Ythhohfgpaihngaa.Zg
