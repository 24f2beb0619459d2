/- A part of the proofs of this seat's laws. -/
import Derived.Test.YtpbimnlggalnfaaGreatDoorGZG
import Derived.Test.YtpbimnlggalnfaaGreatDoorGNE
set_option linter.unusedVariables false
set_option linter.unusedSimpArgs false
set_option linter.unnecessarySimpa false
namespace Go.Proofs.YtpbimnlggalnfaaGreatDoor.Zg
open Go.RowKit
theorem yV:oR Shw:=λhE ha hb hs h0 h1=>xJ hE ha hb hs h0 h1
theorem uY{w:TW}{s:Sl}{zs:List Int}{n:Nat}(h:Rb w s zs n):hgt (ae zs)≤64*n:=by rw [fJ];exact dW h.hg
end Go.Proofs.YtpbimnlggalnfaaGreatDoor.Zg
