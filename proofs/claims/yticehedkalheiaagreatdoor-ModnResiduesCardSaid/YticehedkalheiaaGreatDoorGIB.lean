/- A part of the proofs of this seat's laws: words, lemmas or contracts of its functions. -/
import Derived.Test.YticehedkalheiaaGreatDoorGA
import Derived.Test.YticehedkalheiaaGreatDoorGKA
import Derived.Test.YticehedkalheiaaGreatDoorGIA
import Derived.Test.YticehedkalheiaaGreatDoorGKC
import Derived.Test.YticehedkalheiaaGreatDoorGB
import Derived.Test.YticehedkalheiaaGreatDoorGK
import Derived.Test.YticehedkalheiaaGreatDoorGQ
import Derived.Test.YticehedkalheiaaGreatDoorGP
import Derived.Test.YticehedkalheiaaGreatDoorGP1
import Derived.Test.YticehedkalheiaaGreatDoorGP2
import Derived.Test.YticehedkalheiaaGreatDoorGP3
import Derived.Test.YticehedkalheiaaGreatDoorGP4
import Derived.Test.YticehedkalheiaaGreatDoorGP5
import Derived.Test.YticehedkalheiaaGreatDoorGS
import Derived.Test.YticehedkalheiaaGreatDoorGC
import Derived.Deep.SlicePairs
import Derived.Deep.Fields
set_option linter.unusedVariables false
set_option linter.unusedSimpArgs false
set_option linter.unnecessarySimpa false
section
namespace Go.Proofs.YticehedkalheiaaGreatDoor.Zg
open Go.RowKit
theorem lp5 {c1 c2 c3 c4 c5 : CK} {body : Tel [c1, c2, c3, c4, c5] (TW → (Tel [c1, c2, c3, c4, c5] (TW → Prop)) → Prop)} {x1 : CV c1} {x2 : CV c2} {x3 : CV c3} {x4 : CV c4} {x5 : CV c5} {w : TW} (I : Nat → CV c1 → CV c2 → CV c3 → CV c4 → CV c5 → TW → Prop) (m : Nat) (h0 : I m x1 x2 x3 x4 x5 w)
  (hs : ∀ m x1 x2 x3 x4 x5 w, I m x1 x2 x3 x4 x5 w → body x1 x2 x3 x4 x5 w (fun y1 y2 y3 y4 y5 w' => ∃ m', m' < m ∧ I m' y1 y2 y3 y4 y5 w')) : Lp [c1, c2, c3, c4, c5] body x1 x2 x3 x4 x5 w := ⟨I, ⟨m, h0⟩, hs⟩
end Go.Proofs.YticehedkalheiaaGreatDoor.Zg
end

section
namespace Go.Proofs.YticehedkalheiaaGreatDoor.Zg
open Go.RowKit
theorem bl_sz (x : Nat) : bl x ≤ 64 * sz x := bl_pow (by have := lt_sz x; rwa [show W64 ^ sz x = 2 ^ (64 * sz x) by rw [Nat.pow_mul]] at this)
end Go.Proofs.YticehedkalheiaaGreatDoor.Zg
end

section
namespace Go.Proofs.YticehedkalheiaaGreatDoor.Zg
open Go.ChangeShapes Go.WideShapes Go.ChangeAt Go.RowKit
theorem row_of_trod {H : Type} {enc : TypeId × Value → H} {P : Program} {w : World} {base : Nat} {held : Bool} {q u : TypeId} {fuel : Nat} {v : Value} {x : DataW H × List MemPlace} (hq : P.underlying q = some (.slice u)) (hu : P.underlying u = some (.int .u64)) (cu : P.cellsOf u = 1) (h : DataW.trod enc P w base (fun _ => true) held fuel q [v] = some x) :
  ∃ a len cap zs, v = .slice a len cap ∧ IsRow .u64 w a len cap zs := by
 rcases open_ints hq hu cu h with ⟨hcs, _⟩ | ⟨a, l, c, zs, hcs, _, hl, hm, hz, _, hcell, hwz⟩
 ·simp at hcs
  exact ⟨none, 0, 0, [], hcs, .inl ⟨rfl, rfl, rfl, rfl⟩⟩
 ·simp at hcs
  exact ⟨some a, l, c, zs, hcs, .inr ⟨_, rfl, hl, hm, by simpa using hz, hcell, hwz⟩⟩
theorem open_zint {H : Type} {enc : TypeId × Value → H} {P : Program} {w : World} {base b0 : Nat} {held : Bool} {r : Reach} {t u : TypeId} {f0 f1 : Field} {v : Value} {d : DataW H} {p : List MemPlace} (he : P.underlying t = some (.struct #[f0, f1]))
  (ce : P.cellsOf t = 2) (o0 : f0.offset = 0) (o1 : f1.offset = 1) (c0 : P.cellsOf f0.type = 1) (c1 : P.cellsOf f1.type = 1) (hq : P.underlying f0.type = some (.slice u)) (hu : P.underlying u = some (.int .u64)) (cu : P.cellsOf u = 1) (hb : P.underlying f1.type = some .bool)
  (hv : Value.okWide P w r b0 t v) (h : DataW.Trod enc P w base (fun _ => true) held t v d p) : ∃ a len cap zs n, v = .agg #[.slice a len cap, .bool n] ∧ IsRow .u64 w a len cap zs := by
 obtain ⟨cs, rfl, hsz⟩ := okWide_struct he hv
 obtain ⟨fuel, hh⟩ := h
 obtain ⟨ys, n, _, _, _, hyl, hf⟩ := DataW.trod_struct he hh
 rw [ce] at hsz
 obtain ⟨xs, rfl⟩ : ∃ xs, cs = List.toArray xs := ⟨cs.toList, by simp⟩
 match ys, hyl, xs, hsz with
 | [y0, y1], _, [v0, v1], _ =>
  have g0 := hf 0 f0 rfl
  have g1 := hf 1 f1 rfl
  simp [Value.cells, o0, o1, c0, c1] at g0 g1
  obtain ⟨a, l, c, zs, e1, e2⟩ := row_of_trod hq hu cu g0
  obtain ⟨b, e3, _⟩ := DataW.trod_bool hb g1
  simp at e3
  subst e1 e3
  exact ⟨a, l, c, zs, b, rfl, e2⟩
theorem argZ_of {W : World} {a : Option Addr} {len cap : Nat} {zs : List Int} {n : Bool} (h : IsRow .u64 W a len cap zs) : ∃ z, Iz (TW.of W) ⟨a, len, cap⟩ n z := by
 obtain ⟨l, hl⟩ := arg_of h
 exact ⟨_, vl W64 l, hl.nt, rfl⟩
end Go.Proofs.YticehedkalheiaaGreatDoor.Zg
end
