/- A part of the proofs of this seat's laws: words, lemmas or contracts of its functions. -/
import Derived.Test.YticehedkalheiaaGreatDoorGA
import Derived.Test.YticehedkalheiaaGreatDoorGKA
import Derived.Test.YticehedkalheiaaGreatDoorGIA
import Derived.Test.YticehedkalheiaaGreatDoorGKC
import Derived.Test.YticehedkalheiaaGreatDoorGB
import Derived.Test.YticehedkalheiaaGreatDoorGK
import Derived.Test.YticehedkalheiaaGreatDoorGQ
import Derived.Test.YticehedkalheiaaGreatDoorGP
import Derived.Test.YticehedkalheiaaGreatDoorGP1
import Derived.Test.YticehedkalheiaaGreatDoorGP2
import Derived.Test.YticehedkalheiaaGreatDoorGP3
import Derived.Test.YticehedkalheiaaGreatDoorGP4
import Derived.Test.YticehedkalheiaaGreatDoorGP5
import Derived.Test.YticehedkalheiaaGreatDoorGS
import Derived.Test.YticehedkalheiaaGreatDoorGC
set_option linter.unusedVariables false
set_option linter.unusedSimpArgs false
set_option linter.unnecessarySimpa false
section
namespace Go.Proofs.YticehedkalheiaaGreatDoor.Zg
open Go.RowKit
theorem bl_sz (x : Nat) : bl x ≤ 64 * sz x := bl_pow (by have := lt_sz x; rwa [show W64 ^ sz x = 2 ^ (64 * sz x) by rw [Nat.pow_mul]] at this)
end Go.Proofs.YticehedkalheiaaGreatDoor.Zg
end
