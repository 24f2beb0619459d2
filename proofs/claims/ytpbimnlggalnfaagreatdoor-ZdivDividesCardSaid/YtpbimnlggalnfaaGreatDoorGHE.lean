/- A part of the proofs of this seat's laws. -/
import Derived.Test.YtpbimnlggalnfaaGreatDoorGHD
set_option linter.unusedVariables false
set_option linter.unusedSimpArgs false
set_option linter.unnecessarySimpa false
namespace Go.Proofs.YtpbimnlggalnfaaGreatDoor.Zg
open Go.RowKit
section
abbrev S2t:Type:=Sl × Sl
def p2v(t:S2t):List Value:=[t.1.v,t.2.v]
theorem mU(t:S2t):(p2v t).length=2:=rfl
section
variable {w:TW} {p:Option Addr} {mo hg g po nu ra ro dv rc c m d k e t:Nat} {now:Int} {tab:List Int}
end
end
end Go.Proofs.YtpbimnlggalnfaaGreatDoor.Zg
