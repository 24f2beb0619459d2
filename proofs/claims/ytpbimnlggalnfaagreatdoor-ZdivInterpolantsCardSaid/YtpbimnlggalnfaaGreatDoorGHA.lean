/- A part of the proofs of this seat's laws. -/
import Derived.Test.YtpbimnlggalnfaaGreatDoorGJB
import Derived.Test.YtpbimnlggalnfaaGreatDoorGP1
import Derived.Test.YtpbimnlggalnfaaGreatDoorGA
import Derived.Test.YtpbimnlggalnfaaGreatDoorGMA
import Derived.Test.YtpbimnlggalnfaaGreatDoorGMB
import Derived.Test.YtpbimnlggalnfaaGreatDoorGMD
import Derived.Test.YtpbimnlggalnfaaGreatDoorGME
import Derived.Test.YtpbimnlggalnfaaGreatDoorGKA
import Derived.Test.YtpbimnlggalnfaaGreatDoorGKE
import Derived.Test.YtpbimnlggalnfaaGreatDoorGIA
import Derived.Test.YtpbimnlggalnfaaGreatDoorGKC
import Derived.Test.YtpbimnlggalnfaaGreatDoorGB
import Derived.Test.YtpbimnlggalnfaaGreatDoorGIB
import Derived.Test.YtpbimnlggalnfaaGreatDoorGJA
import Derived.Test.YtpbimnlggalnfaaGreatDoorGK
import Derived.Test.YtpbimnlggalnfaaGreatDoorGQ
import Derived.Test.YtpbimnlggalnfaaGreatDoorGMC
import Derived.Test.YtpbimnlggalnfaaGreatDoorGP
import Derived.Test.YtpbimnlggalnfaaGreatDoorGP2
import Derived.Test.YtpbimnlggalnfaaGreatDoorGP3
import Derived.Test.YtpbimnlggalnfaaGreatDoorGP4
import Derived.Test.YtpbimnlggalnfaaGreatDoorGP5
import Derived.Test.YtpbimnlggalnfaaGreatDoorGP6
import Derived.Test.YtpbimnlggalnfaaGreatDoorGS
import Derived.Test.YtpbimnlggalnfaaGreatDoorGC
set_option linter.unusedVariables false
set_option linter.unusedSimpArgs false
set_option linter.unnecessarySimpa false
namespace Go.Proofs.YtpbimnlggalnfaaGreatDoor.Zg
open Go.RowKit
section
def HcC(w:TW)(t:Nat)(l:List (Addr × Value)):Prop:=∀y∈l,Hc w y.1 y.2∧y.1.block≠t
section
variable {w w':TW} {t:Nat} {l m:List (Addr × Value)}
theorem HcC.nil(w:TW):HcC w t []:=λy h=>(by cases h)
theorem HcC.cons{a:Addr}{v:Value}(h:Hc w a v)(n:a.block≠t)(hl:HcC w t l):HcC w t ((a,v)::l):=λy hy=>by
 rcases List.mem_cons.1 hy with rfl|hy
 ·exact⟨h,n⟩
 ·exact hl y hy
theorem HcC.tail{y:Addr × Value}(h:HcC w t (y::l)):HcC w t l:=λz hz=>h z (List.mem_cons_of_mem _ hz)
theorem HcC.app(h:HcC w t l)(k:HcC w t m):HcC w t (l++m):=λy hy=>(List.mem_append.1 hy).elim (h y) (k y)
theorem HcC.ext(h:HcC w t l)(e:Ext aa w w'):HcC w' t l:=λy hy=>⟨(h y hy).1.ext e,(h y hy).2⟩
theorem HcC.extT(h:HcC w t l)(e:Xt1 t w w'):HcC w' t l:=λy hy=>⟨(h y hy).1.extT e (h y hy).2,(h y hy).2⟩
theorem eJ{K:Prop}(h:HcC w t l)(hK:K):hld w l K:=qL (λy hy=>(h y hy).1.1) hK
end
theorem tM{P:Program}{f:FuncId}{args:List Value}{w:TW}{t:Nat}{rt:List VT}{Φ K:Tel (fl rt) (TW→Prop)}(hE:Tz w t)(h:Ct P f args w (λk=>k=t) rt Φ)(hK:oM (fl rt) (lam (fl rt) λx=>∀w',Xt1 t w w'→app (fl rt) Φ x w'→app (fl rt) K x w')):cl P f args w rt K:=fY h (λc hc=>by subst hc;exact hE.V) hK
structure N4 (w:TW) (a b c d:Sl) (A B C D:Nat):Prop where
 a:Nt w a A
 b:Nt w b B
 c:Nt w c C
 d:Nt w d D
section
variable {w w':TW} {H:Nat} {a b c d:Sl} {A B C D:Nat}
theorem N4.ext(h:N4 w a b c d A B C D)(e:Ext aa w w'):N4 w' a b c d A B C D:=⟨h.a.ext e,h.b.ext e,h.c.ext e,h.d.ext e⟩
def S4(n A B C D:Nat):Prop:=sz A≤n∧sz B≤n∧sz C≤n∧sz D≤n
end
section
variable {w:TW} {p:Option Addr} {hg g po nu ra ro dv rc c m d k e t:Nat} {now:Int} {tab:List Int}
end
end
end Go.Proofs.YtpbimnlggalnfaaGreatDoor.Zg
