/- A part of the proofs of this seat's laws. -/
import Derived.Test.YtpbimnlggalnfaaGreatDoorGZG
set_option linter.unusedVariables false
set_option linter.unusedSimpArgs false
set_option linter.unnecessarySimpa false
namespace Go.Proofs.YtpbimnlggalnfaaGreatDoor.Zg
open Go.RowKit
theorem j13{c1 c2 c3 c4 c5 c6 c7 c8 c9 c10 c11 c12 c13:CK}{A:(CV c1→CV c2→CV c3→CV c4→CV c5→CV c6→CV c7→CV c8→CV c9→CV c10→CV c11→CV c12→CV c13→TW→Prop)→Prop}{K:CV c1→CV c2→CV c3→CV c4→CV c5→CV c6→CV c7→CV c8→CV c9→CV c10→CV c11→CV c12→CV c13→TW→Prop}(J:CV c1→CV c2→CV c3→CV c4→CV c5→CV c6→CV c7→CV c8→CV c9→CV c10→CV c11→CV c12→CV c13→TW→Prop)(h1:A J)(h2:∀x1 x2 x3 x4 x5 x6 x7 x8 x9 x10 x11 x12 x13 w,J x1 x2 x3 x4 x5 x6 x7 x8 x9 x10 x11 x12 x13 w→K x1 x2 x3 x4 x5 x6 x7 x8 x9 x10 x11 x12 x13 w):Jn [c1,c2,c3,c4,c5,c6,c7,c8,c9,c10,c11,c12,c13] A K:=⟨J,h1,h2⟩
end Go.Proofs.YtpbimnlggalnfaaGreatDoor.Zg
