/- A part of the proofs of this seat's laws: words, lemmas or contracts of its functions. -/
import Derived.Test.YtjhfalgmgagdhaaGreatDoorGA
import Derived.Test.YtjhfalgmgagdhaaGreatDoorGMA
import Derived.Test.YtjhfalgmgagdhaaGreatDoorGMB
import Derived.Test.YtjhfalgmgagdhaaGreatDoorGMD
import Derived.Test.YtjhfalgmgagdhaaGreatDoorGME
import Derived.Test.YtjhfalgmgagdhaaGreatDoorGKA
import Derived.Test.YtjhfalgmgagdhaaGreatDoorGKE
import Derived.Test.YtjhfalgmgagdhaaGreatDoorGIA
import Derived.Test.YtjhfalgmgagdhaaGreatDoorGKC
import Derived.Test.YtjhfalgmgagdhaaGreatDoorGB
import Derived.Test.YtjhfalgmgagdhaaGreatDoorGIB
import Derived.Test.YtjhfalgmgagdhaaGreatDoorGJA
import Derived.Test.YtjhfalgmgagdhaaGreatDoorGJB
import Derived.Test.YtjhfalgmgagdhaaGreatDoorGK
import Derived.Test.YtjhfalgmgagdhaaGreatDoorGQ
import Derived.Test.YtjhfalgmgagdhaaGreatDoorGMC
import Derived.Test.YtjhfalgmgagdhaaGreatDoorGP
import Derived.Test.YtjhfalgmgagdhaaGreatDoorGP1
import Derived.Test.YtjhfalgmgagdhaaGreatDoorGP2
import Derived.Test.YtjhfalgmgagdhaaGreatDoorGP3
import Derived.Test.YtjhfalgmgagdhaaGreatDoorGP4
import Derived.Test.YtjhfalgmgagdhaaGreatDoorGP5
import Derived.Test.YtjhfalgmgagdhaaGreatDoorGS
import Derived.Test.YtjhfalgmgagdhaaGreatDoorGC
set_option linter.unusedVariables false
set_option linter.unusedSimpArgs false
set_option linter.unnecessarySimpa false
section
namespace Go.Proofs.YtjhfalgmgagdhaaGreatDoor.Zg
open Go.RowKit
theorem Chain.ptr {w:TW} {t:Nat}:∀{bs:List Nat} {p:Option Addr},Chain w p bs t→∀b∈bs,∃q,w.w.cell? ⟨b,0,none⟩=some (.pointer q)
 | [],_,_,b,hb=>by cases hb
 | c::bs,_,⟨_,_,q,h3,h4⟩,b,hb=>by
  rcases List.mem_cons.1 hb with rfl|hb
  ·exact ⟨q,h3⟩
  ·exact Chain.ptr h4 b hb
theorem Eg.other {w w':TW} {p:Option Addr} {bs:List Nat} {t u:Nat} {now:Int} {tab:List Int} (h:Eg w p bs t now tab) (hu:Tz w u) (htu:t≠u) (x:Xt1 u w w'):Eg w' p bs t now tab:=by
 obtain ⟨a,b,c,g,m,d,hT⟩:=h
 refine ⟨a.extX x fun c hc hx=>?_,b,c,g.extT hu x,m,d,hT.extX x htu⟩
 subst hx
 obtain ⟨q,hq⟩:=a.ptr _ hc
 obtain ⟨m2,n2,d2,tb,hT2⟩:=hu
 rw [hT2.cell] at hq
 simp at hq
end Go.Proofs.YtjhfalgmgagdhaaGreatDoor.Zg
end
