/- A part of the proofs of this seat's laws: words, lemmas or contracts of its functions. -/
import Derived.Test.YtjhfalgmgagdhaaGreatDoorGA
import Derived.Test.YtjhfalgmgagdhaaGreatDoorGKA
import Derived.Test.YtjhfalgmgagdhaaGreatDoorGIA
import Derived.Test.YtjhfalgmgagdhaaGreatDoorGKC
import Derived.Test.YtjhfalgmgagdhaaGreatDoorGB
import Derived.Test.YtjhfalgmgagdhaaGreatDoorGK
import Derived.Test.YtjhfalgmgagdhaaGreatDoorGQ
import Derived.Test.YtjhfalgmgagdhaaGreatDoorGP
import Derived.Test.YtjhfalgmgagdhaaGreatDoorGP1
import Derived.Test.YtjhfalgmgagdhaaGreatDoorGP2
import Derived.Test.YtjhfalgmgagdhaaGreatDoorGP3
import Derived.Test.YtjhfalgmgagdhaaGreatDoorGP4
import Derived.Test.YtjhfalgmgagdhaaGreatDoorGS
import Derived.Test.YtjhfalgmgagdhaaGreatDoorGC
set_option linter.unusedVariables false
set_option linter.unusedSimpArgs false
set_option linter.unnecessarySimpa false
section
namespace Go.Proofs.YtjhfalgmgagdhaaGreatDoor.Zg
open Go.RowKit
theorem lp5 {c1 c2 c3 c4 c5 : CK} {body : Tel [c1, c2, c3, c4, c5] (TW → (Tel [c1, c2, c3, c4, c5] (TW → Prop)) → Prop)} {x1 : CV c1} {x2 : CV c2} {x3 : CV c3} {x4 : CV c4} {x5 : CV c5} {w : TW} (I : Nat → CV c1 → CV c2 → CV c3 → CV c4 → CV c5 → TW → Prop) (m : Nat) (h0 : I m x1 x2 x3 x4 x5 w)
  (hs : ∀ m x1 x2 x3 x4 x5 w, I m x1 x2 x3 x4 x5 w → body x1 x2 x3 x4 x5 w (fun y1 y2 y3 y4 y5 w' => ∃ m', m' < m ∧ I m' y1 y2 y3 y4 y5 w')) : Lp [c1, c2, c3, c4, c5] body x1 x2 x3 x4 x5 w := ⟨I, ⟨m, h0⟩, hs⟩
end Go.Proofs.YtjhfalgmgagdhaaGreatDoor.Zg
end

section
namespace Go.Proofs.YtjhfalgmgagdhaaGreatDoor.Zg
open Go.RowKit
theorem bl_sz (x : Nat) : bl x ≤ 64 * sz x := bl_pow (by have := lt_sz x; rwa [show W64 ^ sz x = 2 ^ (64 * sz x) by rw [Nat.pow_mul]] at this)
end Go.Proofs.YtjhfalgmgagdhaaGreatDoor.Zg
end
