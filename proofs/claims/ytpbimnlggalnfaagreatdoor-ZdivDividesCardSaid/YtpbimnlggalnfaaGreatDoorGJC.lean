/- A part of the proofs of this seat's laws. -/
import Derived.Test.YtpbimnlggalnfaaGreatDoorGA
import Derived.Test.YtpbimnlggalnfaaGreatDoorGMA
import Derived.Test.YtpbimnlggalnfaaGreatDoorGMB
import Derived.Test.YtpbimnlggalnfaaGreatDoorGMD
import Derived.Test.YtpbimnlggalnfaaGreatDoorGME
import Derived.Test.YtpbimnlggalnfaaGreatDoorGKA
import Derived.Test.YtpbimnlggalnfaaGreatDoorGKE
import Derived.Test.YtpbimnlggalnfaaGreatDoorGIA
import Derived.Test.YtpbimnlggalnfaaGreatDoorGKC
import Derived.Test.YtpbimnlggalnfaaGreatDoorGB
import Derived.Test.YtpbimnlggalnfaaGreatDoorGIB
import Derived.Test.YtpbimnlggalnfaaGreatDoorGJA
import Derived.Test.YtpbimnlggalnfaaGreatDoorGJB
import Derived.Test.YtpbimnlggalnfaaGreatDoorGK
import Derived.Test.YtpbimnlggalnfaaGreatDoorGQ
import Derived.Test.YtpbimnlggalnfaaGreatDoorGMC
import Derived.Test.YtpbimnlggalnfaaGreatDoorGP
import Derived.Test.YtpbimnlggalnfaaGreatDoorGP1
import Derived.Test.YtpbimnlggalnfaaGreatDoorGP2
import Derived.Test.YtpbimnlggalnfaaGreatDoorGP3
import Derived.Test.YtpbimnlggalnfaaGreatDoorGP4
import Derived.Test.YtpbimnlggalnfaaGreatDoorGP5
import Derived.Test.YtpbimnlggalnfaaGreatDoorGS
import Derived.Test.YtpbimnlggalnfaaGreatDoorGC
set_option linter.unusedVariables false
set_option linter.unusedSimpArgs false
set_option linter.unnecessarySimpa false
namespace Go.Proofs.YtpbimnlggalnfaaGreatDoor.Zg
open Go.RowKit
theorem bT.ptr{w:TW}{t:Nat}:∀{bs:List Nat} {p:Option Addr},bT w p bs t→∀b∈bs,∃q,w.w.cell? ⟨b,0,none⟩=some (.pointer q)
 | [],_,_,b,hb=>by cases hb
 | c::bs,_,⟨_,_,q,h3,h4⟩,b,hb=>by
  rcases List.mem_cons.1 hb with rfl|hb
  ·exact⟨q,h3⟩
  ·exact bT.ptr h4 b hb
theorem Eg.other{w w':TW}{p:Option Addr}{bs:List Nat}{t u:Nat}{now:Int}{tab:List Int}(h:Eg w p bs t now tab)(hu:Tz w u)(htu:t≠u)(x:Xt1 u w w'):Eg w' p bs t now tab:=by
 obtain⟨a,b,c,g,m,d,hT⟩:=h;refine⟨a.extX x λc hc hx=>?_,b,c,g.extT hu x,m,d,hT.extX x htu⟩;subst hx;obtain⟨q,hq⟩:=a.ptr _ hc;obtain⟨m2,n2,d2,tb,hT2⟩:=hu;rw [hT2.cell] at hq;simp at hq
end Go.Proofs.YtpbimnlggalnfaaGreatDoor.Zg
