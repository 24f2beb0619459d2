/- A part of the proofs of this seat's laws: words, lemmas or contracts of its functions. -/
import Derived.Test.YticehedkalheiaaGreatDoorGA
import Derived.Test.YticehedkalheiaaGreatDoorGMA
import Derived.Test.YticehedkalheiaaGreatDoorGMB
import Derived.Test.YticehedkalheiaaGreatDoorGMD
import Derived.Test.YticehedkalheiaaGreatDoorGME
import Derived.Test.YticehedkalheiaaGreatDoorGKA
import Derived.Test.YticehedkalheiaaGreatDoorGKE
import Derived.Test.YticehedkalheiaaGreatDoorGIA
import Derived.Test.YticehedkalheiaaGreatDoorGKC
import Derived.Test.YticehedkalheiaaGreatDoorGB
import Derived.Test.YticehedkalheiaaGreatDoorGIB
import Derived.Test.YticehedkalheiaaGreatDoorGJA
import Derived.Test.YticehedkalheiaaGreatDoorGJB
import Derived.Test.YticehedkalheiaaGreatDoorGK
import Derived.Test.YticehedkalheiaaGreatDoorGQ
import Derived.Test.YticehedkalheiaaGreatDoorGMC
import Derived.Test.YticehedkalheiaaGreatDoorGP
import Derived.Test.YticehedkalheiaaGreatDoorGP1
import Derived.Test.YticehedkalheiaaGreatDoorGP2
import Derived.Test.YticehedkalheiaaGreatDoorGP3
import Derived.Test.YticehedkalheiaaGreatDoorGP4
import Derived.Test.YticehedkalheiaaGreatDoorGP5
import Derived.Test.YticehedkalheiaaGreatDoorGS
import Derived.Test.YticehedkalheiaaGreatDoorGC
set_option linter.unusedVariables false
set_option linter.unusedSimpArgs false
set_option linter.unnecessarySimpa false
section
namespace Go.Proofs.YticehedkalheiaaGreatDoor.Zg
open Go.RowKit
theorem Chain.ptr {w : TW} {t : Nat} : ∀ {bs : List Nat} {p : Option Addr}, Chain w p bs t → ∀ b ∈ bs, ∃ q, w.w.cell? ⟨b, 0, none⟩ = some (.pointer q)
 | [], _, _, b, hb => by cases hb
 | c :: bs, _, ⟨_, _, q, h3, h4⟩, b, hb => by
  rcases List.mem_cons.1 hb with rfl | hb
  ·exact ⟨q, h3⟩
  ·exact Chain.ptr h4 b hb
theorem Eg.other {w w' : TW} {p : Option Addr} {bs : List Nat} {t u : Nat} {now : Int} {tab : List Int} (h : Eg w p bs t now tab) (hu : Tz w u) (htu : t ≠ u) (x : Xt1 u w w') : Eg w' p bs t now tab := by
 obtain ⟨a, b, c, g, m, d, hT⟩ := h
 refine ⟨a.extX x fun c hc hx => ?_, b, c, g.extT hu x, m, d, hT.extX x htu⟩
 subst hx
 obtain ⟨q, hq⟩ := a.ptr _ hc
 obtain ⟨m2, n2, d2, tb, hT2⟩ := hu
 rw [hT2.cell] at hq
 simp at hq
end Go.Proofs.YticehedkalheiaaGreatDoor.Zg
end
