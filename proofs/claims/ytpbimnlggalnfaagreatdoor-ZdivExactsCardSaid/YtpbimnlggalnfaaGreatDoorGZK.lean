/- A part of the proofs of this seat's laws. -/
import Derived.Test.YtpbimnlggalnfaaGreatDoorGZG
import Derived.Test.YtpbimnlggalnfaaGreatDoorGNE
set_option linter.unusedVariables false
set_option linter.unusedSimpArgs false
set_option linter.unnecessarySimpa false
namespace Go.Proofs.YtpbimnlggalnfaaGreatDoor.Zg
open Go.RowKit
theorem wZ:vN Shw:=λhE ha hb hs h0 h1=>vO hE ha hb hs h0 h1
theorem xz{w:TW}{s:Sl}{zs:List Int}{n:Nat}(h:Rb w s zs n):hgt (ae zs)≤64*n:=by rw [gm];exact gn h.hg
end Go.Proofs.YtpbimnlggalnfaaGreatDoor.Zg
