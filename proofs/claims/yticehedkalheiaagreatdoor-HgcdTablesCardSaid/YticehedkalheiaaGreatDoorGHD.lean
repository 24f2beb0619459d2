/- A part of the proofs of this seat's laws: words, lemmas or contracts of its functions. -/
import Derived.Test.YticehedkalheiaaGreatDoorGA
import Derived.Test.YticehedkalheiaaGreatDoorGMA
import Derived.Test.YticehedkalheiaaGreatDoorGMB
import Derived.Test.YticehedkalheiaaGreatDoorGMD
import Derived.Test.YticehedkalheiaaGreatDoorGME
import Derived.Test.YticehedkalheiaaGreatDoorGKA
import Derived.Test.YticehedkalheiaaGreatDoorGKE
import Derived.Test.YticehedkalheiaaGreatDoorGIA
import Derived.Test.YticehedkalheiaaGreatDoorGKC
import Derived.Test.YticehedkalheiaaGreatDoorGHA
import Derived.Test.YticehedkalheiaaGreatDoorGB
import Derived.Test.YticehedkalheiaaGreatDoorGIB
import Derived.Test.YticehedkalheiaaGreatDoorGJA
import Derived.Test.YticehedkalheiaaGreatDoorGJB
import Derived.Test.YticehedkalheiaaGreatDoorGJC
import Derived.Test.YticehedkalheiaaGreatDoorGHB
import Derived.Test.YticehedkalheiaaGreatDoorGHC
import Derived.Test.YticehedkalheiaaGreatDoorGK
import Derived.Test.YticehedkalheiaaGreatDoorGQ
import Derived.Test.YticehedkalheiaaGreatDoorGMC
import Derived.Test.YticehedkalheiaaGreatDoorGP
import Derived.Test.YticehedkalheiaaGreatDoorGP1
import Derived.Test.YticehedkalheiaaGreatDoorGP2
import Derived.Test.YticehedkalheiaaGreatDoorGP3
import Derived.Test.YticehedkalheiaaGreatDoorGP4
import Derived.Test.YticehedkalheiaaGreatDoorGS
import Derived.Test.YticehedkalheiaaGreatDoorGC
set_option linter.unusedVariables false
set_option linter.unusedSimpArgs false
set_option linter.unnecessarySimpa false
section
namespace Go.Proofs.YticehedkalheiaaGreatDoor.Zg
open Go.RowKit
section
variable {α : Type} {f : α → List Value} {k : Nat}
end
abbrev S4t : Type := Sl × Sl × Sl × Sl
abbrev N4t : Type := Nat × Nat × Nat × Nat
/-- A matrix of rows of at most three words. -/
structure M3 (w : TW) (t : S4t) (v : N4t) : Prop where
  n : N4 w t.1 t.2.1 t.2.2.1 t.2.2.2 v.1 v.2.1 v.2.2.1 v.2.2.2
  s : S4 3 v.1 v.2.1 v.2.2.1 v.2.2.2
  l : t.1.n ≤ 3 ∧ t.2.1.n ≤ 3 ∧ t.2.2.1.n ≤ 3 ∧ t.2.2.2.n ≤ 3
theorem M3.ext {w w' : TW} {t : S4t} {v : N4t} (h : M3 w t v) (e : Ext none_ w w') : M3 w' t v := ⟨h.n.ext e, h.s, h.l⟩
section
variable {w : TW} {p : Option Addr} {hg g po nu ra ro dv rc c m d k e t : Nat} {now : Int} {tab : List Int}
end
end Go.Proofs.YticehedkalheiaaGreatDoor.Zg
end
