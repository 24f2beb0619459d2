/- A part of the proofs of this seat's laws: words, lemmas or contracts of its functions. -/
import Derived.Test.YtjhfalgmgagdhaaGreatDoorGA
import Derived.Test.YtjhfalgmgagdhaaGreatDoorGMA
import Derived.Test.YtjhfalgmgagdhaaGreatDoorGMB
import Derived.Test.YtjhfalgmgagdhaaGreatDoorGMD
import Derived.Test.YtjhfalgmgagdhaaGreatDoorGME
import Derived.Test.YtjhfalgmgagdhaaGreatDoorGKA
import Derived.Test.YtjhfalgmgagdhaaGreatDoorGKE
import Derived.Test.YtjhfalgmgagdhaaGreatDoorGIA
import Derived.Test.YtjhfalgmgagdhaaGreatDoorGKC
import Derived.Test.YtjhfalgmgagdhaaGreatDoorGHA
import Derived.Test.YtjhfalgmgagdhaaGreatDoorGB
import Derived.Test.YtjhfalgmgagdhaaGreatDoorGIB
import Derived.Test.YtjhfalgmgagdhaaGreatDoorGJA
import Derived.Test.YtjhfalgmgagdhaaGreatDoorGJB
import Derived.Test.YtjhfalgmgagdhaaGreatDoorGK
import Derived.Test.YtjhfalgmgagdhaaGreatDoorGQ
import Derived.Test.YtjhfalgmgagdhaaGreatDoorGMC
import Derived.Test.YtjhfalgmgagdhaaGreatDoorGP
import Derived.Test.YtjhfalgmgagdhaaGreatDoorGP1
import Derived.Test.YtjhfalgmgagdhaaGreatDoorGP2
import Derived.Test.YtjhfalgmgagdhaaGreatDoorGP3
import Derived.Test.YtjhfalgmgagdhaaGreatDoorGP4
import Derived.Test.YtjhfalgmgagdhaaGreatDoorGS
import Derived.Test.YtjhfalgmgagdhaaGreatDoorGC
set_option linter.unusedVariables false
set_option linter.unusedSimpArgs false
set_option linter.unnecessarySimpa false
section
namespace Go.Proofs.YtjhfalgmgagdhaaGreatDoor.Zg
open Go.RowKit
theorem same_i {w : TW} {s u : Sl} {B C : Nat} {n m : Bool} {z : Int} (hs : Io w B s n z) (hu : Io w C u m z) {K : Bool → TW → Prop} (hK : ∀ w', Ext none_ w w' → K true w') : cl Pg F.zigguratkeep_Int [.agg #[s.v, .bool n], .agg #[u.v, .bool m]] w [.one .bool] K := by
 refine c1 (keep_Int hs.1 hu.1 rfl (hs.2.trans hu.2.symm)) ?_
 rintro r w' e rfl
 exact hK w' e
end Go.Proofs.YtjhfalgmgagdhaaGreatDoor.Zg
end
